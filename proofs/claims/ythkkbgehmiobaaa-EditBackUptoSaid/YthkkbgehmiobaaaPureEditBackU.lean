/- What is proved: for every edit, every cut and all bytes behind staddlelaw13.EditBack answers true, where the arguments' bulk is small. -/
import Derived.Test.YthkkbgehmiobaaaEK
import Derived.Test.YthkkbgehmiobaaaQDec
import Derived.Test.YthkkbgehmiobaaaRdEdit
import Derived.Test.YthkkbgehmiobaaaBX
namespace Go.Proofs.Ythkkbgehmiobaaa.Pure
open Go.RowKit Go.Proofs.YthkkbgehmiobaaaW.PrintWords Go.Proofs.YthkkbgehmiobaaaW.PrintLast Go.Proofs.YthkkbgehmiobaaaW.PrintMore Go.Proofs.Ythkkbgehmiobaaa.P Go.Proofs.Ythkkbgehmiobaaa.M Go.Proofs.Ythkkbgehmiobaaa.Q Go.Proofs.Ythkkbgehmiobaaa.E
theorem KW_of {L : List S44} (h : ∀ x ∈ L, Rd.wfF x) : KW L := fun x hx => ⟨(wf_u64 (h x hx).2.2.2.1.1).1, (wf_u64 (h x hx).2.2.2.2.1).1⟩
theorem encx_ev {x : Ed} (hw : Q.W x) : Ev (fun k => enc_f k x.l0 x.l1 x.l2 x.ds x.fs) (eblt x.l0 x.l1 x.l2 x.ds x.fs) := Enc_ev x.l0 x.l1 x.l2 x.ds x.fs hw.1 hw.2.1 hw.2.2.1 hw.2.2.2
theorem eblt_ok {x : Ed} (h : eckx x = 0) : eblt x.l0 x.l1 x.l2 x.ds x.fs = (layx x, 0) := by unfold eblt; rw [if_pos (show eck x.l0 x.l1 x.l2 x.ds x.fs = 0 from h)]; rfl
theorem back_ev (x : Ed) (hw : Q.W x) (a1 : Int) (h1 : -9223372036854775808 ≤ a1 ∧ a1 < 9223372036854775808) (more : List Int) (hm : IsB more) (hml : more.length ≤ 1048576) : ∃ k, Back k x a1 more := by
  obtain ⟨K1, e1⟩ := encx_ev hw
  by_cases h : eckx x = 0
  case neg =>
    obtain ⟨K2, e2⟩ := ECheck_ev x.l0 x.l1 x.l2 x.ds x.fs
    refine ⟨K1 + K2, h1, [], eckx x, ?_, fun _ => ⟨rfl, e2 _ (by omega)⟩, fun h0 => absurd h0 h⟩
    refine (e1 (K1 + K2) (by omega)).trans ?_
    unfold eblt
    rw [if_neg (show ¬ eck x.l0 x.l1 x.l2 x.ds x.fs = 0 from h)]
    rfl
  have hz := eck_zero h
  have hl := lay_len hw.1 hw.2.1 hw.2.2.1 h
  have hB : IsB (layx x) := lay_IsB _ _ _ _ _
  have hl' : (layx x).length ≤ 1000000 := hl
  obtain ⟨K2, e2⟩ := dec_ev (layx x) hB (by omega)
  obtain ⟨K3, e3⟩ := Same_ev x.l0 x.l1 x.l2 x.ds x.fs (by omega) (by omega)
  have hcv : 0 ≤ cv a1 := by unfold cv; split <;> omega
  have ht0 : 0 ≤ Int.tmod (cv a1) (((layx x).length + 1 : Nat) : Int) := Int.tmod_nonneg _ hcv
  have ht1 : Int.tmod (cv a1) (((layx x).length + 1 : Nat) : Int) < (((layx x).length + 1 : Nat) : Int) := Int.tmod_lt_of_pos _ (by omega)
  obtain ⟨n, hn⟩ := Int.eq_ofNat_of_zero_le ht0
  have hnl : n ≤ (layx x).length := by rw [hn] at ht1; omega
  have hcB : IsB ((layx x).take n ++ more) := (hB.take n).append hm
  have hcl : ((layx x).take n ++ more).length ≤ 140737488351232 := by rw [List.length_append, List.length_take]; omega
  obtain ⟨K4, e4⟩ := dec_ev _ hcB hcl
  obtain ⟨K5, e5⟩ := Same_ev 0 0 0 awN awF (by decide) (by decide)
  have hz6 : ∃ K6, ∀ k, K6 ≤ k → ∀ z, decd ((layx x).take n ++ more) = some z → enc_f k z.l0 z.l1 z.l2 z.ds z.fs = some ((layx x).take n ++ more, 0) := by
    cases hd : decd ((layx x).take n ++ more) with
    | none => exact ⟨0, fun _ _ z hz => by cases hz⟩
    | some z =>
      have hs := decd_some hd
      obtain ⟨K, e⟩ := encx_ev hs.1
      refine ⟨K, fun k hk z' hz' => ?_⟩
      injection hz' with hz'
      subst hz'
      refine (e k hk).trans ?_
      rw [eblt_ok hs.2.1, hs.2.2]
  obtain ⟨K6, e6⟩ := hz6
  refine ⟨K1 + K2 + K3 + K4 + K5 + K6, h1, layx x, 0, ?_, fun h0 => absurd rfl h0, fun _ => ⟨?_, e3 _ (by omega), hl', hml, n, hnl, hn, decd ((layx x).take n ++ more), e4 _ (by omega), fun _ => e5 _ (by omega), fun z hz => e6 _ (by omega) z hz⟩⟩
  · refine (e1 (K1 + K2 + K3 + K4 + K5 + K6) (by omega)).trans ?_
    rw [eblt_ok h]
  · refine (e2 (K1 + K2 + K3 + K4 + K5 + K6) (by omega)).trans ?_
    rw [decd_lay hw h]
theorem EditBackU (a b c : Int) (D : List S40) (L : List S44) (a1 : Int) (more : List Int) (hw : (Lit.int .u64 a).wf = true ∧ (Lit.int .u64 b).wf = true ∧ (Lit.int .u64 c).wf = true ∧ (∀ x ∈ D, (Lit.int .i64 x.f0).wf = true ∧ (Lit.int .u64 x.f1).wf = true) ∧ (∀ x ∈ L, Rd.wfF x)) (_hD : D.length * 16 ≤ 140737488351232) (_hL : L.length * 88 ≤ 140737488351232)
    (w1 : (Lit.int .i64 a1).wf = true) (hml : more.length ≤ 1048576) (wm : ∀ x ∈ more, (Lit.int .u8 x).wf = true) : ∃ k, Back k ⟨a, b, c, D, L⟩ a1 more ∧ true = true := by
  obtain ⟨k, h⟩ := back_ev ⟨a, b, c, D, L⟩ ⟨(wf_u64 hw.1).1, (wf_u64 hw.2.1).1, (wf_u64 hw.2.2.1).1, KW_of hw.2.2.2.2⟩ a1 (wf_i64 w1) more (IsB.of_wf wm) hml
  exact ⟨k, h, rfl⟩
end Go.Proofs.Ythkkbgehmiobaaa.Pure
