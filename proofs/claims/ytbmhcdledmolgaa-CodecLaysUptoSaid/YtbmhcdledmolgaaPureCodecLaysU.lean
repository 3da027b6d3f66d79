/- What is proved: for all bytes, every number, every size and every text, together of bulk at most 1048576, staddlelaw01.CodecLays answers true. -/
import Derived.Test.YtbmhcdledmolgaaP13
import Derived.Test.YtbmhcdledmolgaaQRefPut
import Derived.Test.YtbmhcdledmolgaaQAwake01
namespace Go.Proofs.Ytbmhcdledmolgaa.Pure
open Go.RowKit Go.Proofs.YtbmhcdledmolgaaW.PrintWords Go.Proofs.YtbmhcdledmolgaaW.PrintLast Go.Proofs.YtbmhcdledmolgaaW.PrintMore Go.Proofs.Ytbmhcdledmolgaa.P Go.Proofs.Ytbmhcdledmolgaa.M Go.Proofs.Ytbmhcdledmolgaa.Q

theorem lent_ev (l : List Int) (h : l.length ≤ 1048576) : staddlelaw01_lent.f l = some l := by
  unfold staddlelaw01_lent.f
  rw [Option.bind_some, if_pos (by simp only [List.length_nil]; omega), Option.bind_some, Option.bind_some, if_pos (by simp; omega), Option.bind_some, if_pos (by omega), if_pos (by simp; omega), Int.toNat_natCast, List.nil_append, List.take_left' rfl]
theorem held_ev (l : List Int) (h : l.length ≤ 1048576) : Ev (fun k => staddlelaw01_held.f k l l) true := by
  refine Ev.of (staddlelaw01_held.mono l l) (k := 15) ?_
  unfold staddlelaw01_held.f
  rw [if_pos ⟨rfl, by omega, h⟩, beq_self_eq_true]
theorem CodecLaysU (l0 : List Int) (a1 : Int) (a2 : Int) (a3 : ByteArray) (h0 : l0.length ≤ 1048576) (w0 : ∀ x ∈ l0, (Lit.int .u8 x).wf = true) (w1 : (Lit.int .u64 a1).wf = true) (w2 : (Lit.int .i64 a2).wf = true) (h3 : a3.size ≤ 1048576) :
    ∃ k, staddlelaw01_CodecLays.f k l0 a1 a2 a3 = some true := by
  obtain ⟨p0, p1⟩ := wf_u64 w1
  obtain ⟨n, rfl⟩ := Int.eq_ofNat_of_zero_le p0
  have hfix : ∃ r, Ev (fun k => codec_PutFixed.f k l0 (n : Int) a2) r ∧ Ev (fun k => staddleref01_PutFixed.f k l0 (n : Int) a2) r := by
    by_cases hs : a2 < 1 ∨ 8 < a2
    · exact ⟨l0, PutFixed_out _ _ _ hs (by omega), refPutFixed_out _ _ _ hs (by omega)⟩
    · obtain ⟨s, rfl⟩ := Int.eq_ofNat_of_zero_le (show 0 ≤ a2 by omega)
      exact ⟨_, PutFixed_ev n s l0 (by omega) (by omega), refPutFixed_ev n s l0 (by omega) (by omega) (by omega) (by omega)⟩
  obtain ⟨r, f1, f2⟩ := hfix
  have h : Ev (fun k => staddlelaw01_CodecLays.f k l0 (n : Int) a2 a3) true := by
    unfold staddlelaw01_CodecLays.f
    refine Ev.bind awake_ev ?_
    simp only [lent_ev l0 h0]
    refine Ev.some_ (Ev.bind (PutUvarint_ev n l0 (by omega) (by omega)) (Ev.bind f1 (Ev.bind (PutText_ev l0 a3 (by omega)) (Ev.bind (held_ev l0 h0) ?_))))
    refine Ev.bind (refPutUvarint_ev n l0 (by omega) (by omega)) (Ev.bind f2 (Ev.bind (refPutText_ev l0 a3 (by omega)) ?_))
    refine Ev.ifT trivial (Ev.ifT rfl (Ev.ifT rfl (Ev.ifT rfl ?_)))
    rw [beq_self_eq_true]
    exact Ev.now _
  exact h.rounds
end Go.Proofs.Ytbmhcdledmolgaa.Pure
