/- What the printed PutFixed and Fixed come to: MNum's words. -/
import Derived.Test.YtejhmfimfgjmhaaP5
import Derived.Test.YtejhmfimfgjmhaaP1
import Derived.Test.YtejhmfimfgjmhaaQBits
namespace Go.Proofs.Ytejhmfimfgjmhaa.Q
open Go.RowKit Go.Proofs.YtejhmfimfgjmhaaW.PrintWords Go.Proofs.YtejhmfimfgjmhaaW.PrintLast Go.Proofs.YtejhmfimfgjmhaaW.PrintMore Go.Proofs.Ytejhmfimfgjmhaa.P Go.Proofs.Ytejhmfimfgjmhaa.M

theorem shr64 (n i : Nat) (hi : i < 8) : (shr .u64 (n : Int) (((8 * i : Nat) : Int))) % 256 = ((n / 256 ^ i % 256 : Nat) : Int) := by
  unfold shr
  rw [Int.toNat_natCast, Nat.min_eq_left (show 8 * i ≤ IntKind.u64.bits from (show 8 * i ≤ 64 by omega))]
  have e : (2 : Int) ^ (8 * i) = ((256 ^ i : Nat) : Int) := by
    rw [show (256 : Nat) = 2 ^ 8 from rfl, ← Nat.pow_mul]
    simp
  rw [e]
  omega
theorem PutFixed_l0 (n : Nat) (s : Nat) (hs : s ≤ 8) : ∀ (d i : Nat) (acc : List Int), i + d = s → acc.length + d ≤ 140737488355328 → Ev (fun k => codec_PutFixed.l0 k (n : Int) (s : Int) acc (i : Int)) (acc ++ fx d (n / 256 ^ i))
  | 0, i, acc, hi, _ => by
    refine Ev.step (f := fun _ => some (acc ++ fx 0 (n / 256 ^ i))) (fun k => ?_) (Ev.now _)
    simp only [codec_PutFixed.l0]
    rw [if_neg (by omega), fx, List.append_nil]
  | d + 1, i, acc, hi, hl => by
    have ih := PutFixed_l0 n s hs d (i + 1) (acc ++ [((n / 256 ^ i % 256 : Nat) : Int)]) (by omega) (by simp; omega)
    rw [List.append_assoc, Nat.pow_succ, ← Nat.div_div_eq_div_mul] at ih
    refine Ev.step (fun k => ?_) ih
    simp only [codec_PutFixed.l0]
    have e8 : wrap64 (8 * (i : Int)) = ((8 * i : Nat) : Int) := by rw [w64 (by omega) (by omega)]; omega
    have e1 : wrap64 ((i : Int) + 1) = ((i + 1 : Nat) : Int) := by rw [w64 (by omega) (by omega)]; omega
    rw [if_pos (by omega), e8, if_pos (by omega), if_pos (by omega), shr64 n i (by omega), e1]
theorem PutFixed_ev (n s : Nat) (l : List Int) (hs : s ≤ 8) (hl : l.length + 8 < 140737488355328) : Ev (fun k => codec_PutFixed.f k l (n : Int) (s : Int)) (l ++ fx s n) := by
  have h := PutFixed_l0 n s hs s 0 l (by omega) (by omega)
  rw [Nat.pow_zero, Nat.div_one] at h
  refine Ev.congr (fun k => ?_) h
  unfold codec_PutFixed.f
  rw [Clone_eq (by omega), Option.bind_some, if_neg (by omega)]
  rfl
theorem PutFixed_out (n : Int) (s : Int) (l : List Int) (hs : s < 1 ∨ 8 < s) (hl : l.length < 140737488355328) : Ev (fun k => codec_PutFixed.f k l n s) l := by
  by_cases h8 : s > 8
  · refine Ev.congr (f := fun _ => some l) (fun k => ?_) (Ev.now _)
    unfold codec_PutFixed.f
    rw [Clone_eq hl, Option.bind_some, if_pos h8]
  · refine Ev.congr (f := fun k => codec_PutFixed.l0 k n s l 0) (fun k => ?_) (Ev.step (f := fun _ => some l) (fun k => ?_) (Ev.now _))
    · unfold codec_PutFixed.f
      rw [Clone_eq hl, Option.bind_some, if_neg h8]
    · simp only [codec_PutFixed.l0]
      rw [if_neg (by omega)]
theorem pow256 (i : Nat) : (2 : Nat) ^ (8 * i) = 256 ^ i := by rw [Nat.pow_mul]
theorem Fixed_l0 (l : List Int) (hb : IsB l) (s : Nat) (hs : s ≤ 8) (hl : s ≤ l.length) : ∀ (d i acc : Nat), i + d = s → acc < 256 ^ i →
    Ev (fun k => codec_Fixed.l0 k l (acc : Int) (s : Int) (i : Int)) (((acc + 256 ^ i * fxd ((l.drop i).take d) : Nat) : Int), 0)
  | 0, i, acc, hi, _ => by
    refine Ev.step (f := fun _ => some ((acc : Int), 0)) (fun k => ?_) ?_
    · simp only [codec_Fixed.l0]
      rw [if_neg (by omega)]
    · rw [List.take_zero, fxd, Nat.mul_zero, Nat.add_zero]
      exact Ev.now _
  | d + 1, i, acc, hi, ha => by
    have hlt : i < l.length := by omega
    obtain ⟨c, hc⟩ : ∃ c, l[i] = c := ⟨_, rfl⟩
    have hcb := hb c (by rw [← hc]; exact List.getElem_mem hlt)
    have hrd : rd l (i : Int) = c := by simp [rd, List.getD_eq_getElem?_getD, hlt, hc]
    have hdrop : l.drop i = c :: l.drop (i + 1) := by rw [List.drop_eq_getElem_cons hlt, hc]
    obtain ⟨m, rfl⟩ := Int.eq_ofNat_of_zero_le hcb.1
    have hm : m < 256 := by omega
    have ha2 : acc + m * 256 ^ i < 256 ^ (i + 1) := by
      rw [Nat.pow_succ]
      have := Nat.mul_le_mul_right (256 ^ i) (show m ≤ 255 by omega)
      omega
    have h64 : m * 256 ^ i < 18446744073709551616 := by
      have h7 : 256 ^ i ≤ 256 ^ 7 := Nat.pow_le_pow_right (by decide) (by omega)
      have := Nat.mul_le_mul (show m ≤ 255 by omega) h7
      have e7 : (256 : Nat) ^ 7 = 72057594037927936 := by decide
      omega
    have h64' : m * 2 ^ (8 * i) < 18446744073709551616 := (congrArg (fun x => m * x < 18446744073709551616) (pow256 i)).mpr h64
    have ha' : acc < 2 ^ (8 * i) := (congrArg (fun x => acc < x) (pow256 i)).mpr ha
    have ih := Fixed_l0 l hb s hs hl d (i + 1) (acc + m * 256 ^ i) (by omega) ha2
    have i64 : 8 * i ≤ 64 := by omega
    have i63 : 8 * i ≤ 63 := by omega
    have c1 : (i : Int) < (s : Int) := by omega
    have c2 : (0 : Int) ≤ (i : Int) := by omega
    have c3 : (i : Int) < (l.length : Int) := by omega
    have c4 : (0 : Int) ≤ ((8 * i : Nat) : Int) := by omega
    have w1 : IntKind.u64.wrap (m : Int) = (m : Int) := wU64 (by omega) (by omega)
    have e8 : wrap64 (8 * (i : Int)) = ((8 * i : Nat) : Int) := by rw [w64 (by omega) (by omega)]; omega
    have e1 : wrap64 ((i : Int) + 1) = ((i + 1 : Nat) : Int) := by clear e8; rw [w64 (by omega) (by omega)]; omega
    have hv : Go.bits .or .u64 (acc : Int) (shl .u64 (IntKind.u64.wrap (m : Int)) (wrap64 (8 * (i : Int)))) = ((acc + m * 256 ^ i : Nat) : Int) := by
      rw [w1, e8, shl64 m (8 * i) i64 h64', join7 acc m (8 * i) ha' h64' i63, pow256]
    have hr : acc + 256 ^ i * fxd ((l.drop i).take (d + 1)) = acc + m * 256 ^ i + 256 ^ (i + 1) * fxd ((l.drop (i + 1)).take d) := by
      rw [hdrop, List.take_succ_cons, fxd, Int.toNat_natCast, Nat.mul_add, Nat.pow_succ, Nat.mul_comm m, Nat.mul_assoc, Nat.add_assoc]
    rw [hr]
    refine Ev.step (fun k => ?_) ih
    simp only [codec_Fixed.l0]
    rw [if_pos c1, if_pos c2, if_pos c3, if_pos (by rw [e8]; exact c4), hrd, hv, e1]
/-- What bytes that begin with a number of so many bytes tell. -/
theorem Fixed_ev (l : List Int) (hb : IsB l) (s : Nat) (h1 : 1 ≤ s) (hs : s ≤ 8) : Ev (fun k => codec_Fixed.f k l (s : Int)) (if l.length < s then (0, 10) else ((fxd (l.take s) : Int), 0)) := by
  have hj : ∀ k, codec_Fixed.f k l (s : Int) = codec_Fixed.j0 k l (s : Int) false := by
    intro k
    unfold codec_Fixed.f
    rw [if_neg (by omega)]
    congr 1
    simp
    omega
  refine Ev.congr hj ?_
  by_cases hlt : l.length < s
  · rw [if_pos hlt]
    refine Ev.step (f := fun _ => some (0, 10)) (fun k => ?_) (Ev.now _)
    simp only [codec_Fixed.j0]
    rw [if_neg (by decide), if_pos (by omega)]
  · rw [if_neg hlt]
    have h := Fixed_l0 l hb s hs (by omega) s 0 0 (by omega) (by decide)
    rw [Nat.pow_zero, Nat.one_mul, Nat.zero_add, List.drop_zero] at h
    refine Ev.step (fun k => ?_) h
    simp only [codec_Fixed.j0]
    rw [if_neg (by decide), if_neg (by omega)]
    rfl
theorem Fixed_out (l : List Int) (s : Int) (hs : s < 1 ∨ 8 < s) : Ev (fun k => codec_Fixed.f k l s) (0, 1) := by
  have hj : ∀ k, codec_Fixed.f k l s = codec_Fixed.j0 k l s true := by
    intro k
    unfold codec_Fixed.f
    by_cases h : s < 1
    · rw [if_pos h]
    · rw [if_neg h]
      congr 1
      simp
      omega
  refine Ev.congr hj (Ev.step (f := fun _ => some (0, 1)) (fun k => ?_) (Ev.now _))
  simp only [codec_Fixed.j0]
  rw [if_pos trivial]
end Go.Proofs.Ytejhmfimfgjmhaa.Q
