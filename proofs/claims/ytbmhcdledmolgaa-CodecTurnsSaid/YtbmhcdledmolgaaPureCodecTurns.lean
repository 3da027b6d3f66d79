/- What is proved: for all bytes and any number of a bit staddlelaw01.CodecTurns answers true. No condition. -/
import Derived.Test.YtbmhcdledmolgaaP5
import Derived.Test.YtbmhcdledmolgaaQAwake01
namespace Go.Proofs.Ytbmhcdledmolgaa.Pure
open Go.RowKit Go.Proofs.Ytbmhcdledmolgaa.P Go.Proofs.YtbmhcdledmolgaaW.PrintWords Go.Proofs.YtbmhcdledmolgaaW.PrintMore Go.Proofs.Ytbmhcdledmolgaa.Q Go.Proofs.Ytbmhcdledmolgaa.M
/-- a bit of a byte turned: another byte -/
theorem turn_byte (c : Int) (j : Nat) (h0 : 0 ≤ c) (h1 : c < 256) (hj : j < 8) : Go.bits .xor .u8 c (shl .u8 1 (j : Int)) ≠ c ∧ 0 ≤ Go.bits .xor .u8 c (shl .u8 1 (j : Int)) ∧ Go.bits .xor .u8 c (shl .u8 1 (j : Int)) < 256 := by
  obtain ⟨n, rfl⟩ := Int.eq_ofNat_of_zero_le h0
  have hn : n < 256 := by omega
  have hs : ∀ j : Fin 8, shl .u8 1 (j.val : Int) = ((2 ^ j.val : Nat) : Int) := by decide
  have hx : ∀ j : Fin 8, (2 ^ j.val : Nat) < 256 := by decide
  have hs' := hs ⟨j, hj⟩
  have hx' := hx ⟨j, hj⟩
  simp only at hs' hx'
  rw [hs', u8_xor_nat n (2 ^ j) hn hx']
  have hlt : n ^^^ 2 ^ j < 256 := Nat.xor_lt_two_pow (n := 8) hn hx'
  refine ⟨?_, by omega, by omega⟩
  intro h
  have h2 : n ^^^ 2 ^ j = n := by omega
  have h3 := congrArg (fun x => n ^^^ x) h2
  simp only [← Nat.xor_assoc, Nat.xor_self, Nat.zero_xor] at h3
  have := Nat.two_pow_pos j
  omega
theorem turn_crc (l : List Int) (hB : IsB l) (i j : Nat) (hi : i < l.length) (hj : j < 8) :
    IsB (l.set i (Go.bits .xor .u8 (rd l (i : Int)) (shl .u8 1 (j : Int)))) ∧ crc l ≠ crc (l.set i (Go.bits .xor .u8 (rd l (i : Int)) (shl .u8 1 (j : Int)))) := by
  obtain ⟨c, hc⟩ : ∃ c, l[i] = c := ⟨_, rfl⟩
  have hcb := hB c (by rw [← hc]; exact List.getElem_mem hi)
  have hrd : rd l (i : Int) = c := by simp [rd, List.getD_eq_getElem?_getD, hi, hc]
  obtain ⟨hne, hd0, hd1⟩ := turn_byte c j hcb.1 hcb.2 hj
  rw [hrd]
  generalize Go.bits .xor .u8 c (shl .u8 1 (j : Int)) = d at hne hd0 hd1
  have hl : l = l.take i ++ c :: l.drop (i + 1) := by
    rw [← hc, ← List.drop_eq_getElem_cons hi, List.take_append_drop]
  have hset : l.set i d = l.take i ++ d :: l.drop (i + 1) := List.set_eq_take_append_cons_drop .. |>.trans (by rw [if_pos hi])
  rw [hset]
  refine ⟨(hB.take i).append (IsB.cons hd0 hd1 (hB.drop _)), ?_⟩
  intro h
  rw [hl] at h
  simp only [← hl] at h
  have h2 : crc (l.take i ++ c :: l.drop (i + 1)) = crc (l.take i ++ d :: l.drop (i + 1)) := by rw [← hl]; exact h
  exact crc_turn _ _ c d hcb.1 hcb.2 hd0 hd1 (fun e => hne e.symm) h2
theorem CodecTurns : staddlelaw01_CodecTurns.Pure := by
  intro l a _ hl hb ha
  have hB := IsB.of_wf hb
  obtain ⟨h0, h1⟩ := wf_i64 ha
  have h : Ev (fun k => staddlelaw01_CodecTurns.f k l a) true := by
    unfold staddlelaw01_CodecTurns.f
    refine Ev.bind awake_ev ?_
    by_cases hz : (l.length : Int) = 0
    · rw [if_pos hz]; exact Ev.now _
    · rw [if_neg hz]
      have e8 : wrap64 (8 * (l.length : Int)) = 8 * (l.length : Int) := w64 (by omega) (by omega)
      rw [e8]
      -- what follows, at a number that is not below 0
      have fin : ∀ t : Int, 0 ≤ t → t < 9223372036854775808 → (if (8 * (l.length : Int)) = 0 then (none : Option Bool) else ((some (([] : List Int) : List Int)).bind fun y145 => (if y145.length + l.length < 140737488355328 then ((some (y145 ++ l : List Int)).bind fun y148 => (if 0 ≤ (wrap64 (Int.tdiv (Int.tmod t (8 * (l.length : Int))) 8)) then (if (wrap64 (Int.tdiv (Int.tmod t (8 * (l.length : Int))) 8)) < (y148.length : Int) then (if 0 ≤ (IntKind.u64.wrap (Int.tmod (Int.tmod t (8 * (l.length : Int))) 8)) then (if true = true then ((codec_Crc.f l).bind fun t153 => ((codec_Crc.f (y148.set ((wrap64 (Int.tdiv (Int.tmod t (8 * (l.length : Int))) 8)) : Int).toNat (Go.bits .xor .u8 (rd y148 (wrap64 (Int.tdiv (Int.tmod t (8 * (l.length : Int))) 8))) (shl .u8 1 (IntKind.u64.wrap (Int.tmod (Int.tmod t (8 * (l.length : Int))) 8)))))).bind fun t154 => (some (t153 != t154)))) else (some false)) else (none)) else (none)) else (none))) else (none)))) = some true := by
        intro t ht0 ht1
        have hm : Int.tmod t (8 * (l.length : Int)) = t % (8 * (l.length : Int)) := Int.tmod_eq_emod_of_nonneg ht0
        obtain ⟨u, hu⟩ : ∃ u, t % (8 * (l.length : Int)) = u := ⟨_, rfl⟩
        have hu0 : 0 ≤ u := by rw [← hu]; exact Int.emod_nonneg _ (by omega)
        have hu1 : u < 8 * (l.length : Int) := by rw [← hu]; exact Int.emod_lt_of_pos _ (by omega)
        rw [hm, hu, Int.tdiv_eq_ediv_of_nonneg hu0, Int.tmod_eq_emod_of_nonneg hu0, w64 (by omega) (by omega), wU64 (by omega) (by omega)]
        obtain ⟨i, hi⟩ : ∃ i : Nat, u / 8 = (i : Int) := ⟨(u / 8).toNat, by omega⟩
        obtain ⟨j, hj⟩ : ∃ j : Nat, u % 8 = (j : Int) := ⟨(u % 8).toNat, by omega⟩
        rw [hi, hj]
        have hil : i < l.length := by omega
        obtain ⟨hB2, hne⟩ := turn_crc l hB i j hil (by omega)
        rw [if_neg (by omega)]
        simp only [Option.bind_some, List.length_nil, List.nil_append, if_true, Int.toNat_natCast]
        rw [if_pos (by omega), if_pos (by omega), if_pos (by omega), if_pos (by omega), Crc_eq l hB, Crc_eq _ hB2]
        simp [hne]
      by_cases hneg : a < 0
      · rw [if_pos hneg]
        have e1 : wrap64 (-(wrap64 (a + 1))) = -(a + 1) := by rw [w64 (n := a + 1) (by omega) (by omega), w64 (by omega) (by omega)]
        rw [e1]
        exact Ev.congr (f := fun _ => some true) (fun k => fin (-(a + 1)) (by omega) (by omega)) (Ev.now _)
      · rw [if_neg hneg]
        exact Ev.congr (f := fun _ => some true) (fun k => fin a (by omega) (by omega)) (Ev.now _)
  exact h.rounds
end Go.Proofs.Ytbmhcdledmolgaa.Pure
