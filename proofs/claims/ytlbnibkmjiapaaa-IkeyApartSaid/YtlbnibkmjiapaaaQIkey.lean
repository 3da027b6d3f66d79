/- What ikey.Check, Encode, Decode, Compare, and the reference's, come to. -/
import Derived.Test.YtlbnibkmjiapaaaP2
import Derived.Test.YtlbnibkmjiapaaaP4
import Derived.Test.YtlbnibkmjiapaaaP5
import Derived.Test.YtlbnibkmjiapaaaP8
import Derived.Test.YtlbnibkmjiapaaaP9
import Derived.Test.YtlbnibkmjiapaaaP11
import Derived.Test.YtlbnibkmjiapaaaQFix
import Derived.Test.YtlbnibkmjiapaaaMStr
namespace Go.Proofs.Ytlbnibkmjiapaaa.Q
open Go.RowKit Go.Proofs.YtlbnibkmjiapaaaW.PrintWords Go.Proofs.YtlbnibkmjiapaaaW.PrintLast Go.Proofs.YtlbnibkmjiapaaaW.PrintMore Go.Proofs.Ytlbnibkmjiapaaa.P Go.Proofs.Ytlbnibkmjiapaaa.M

def chk (s : ByteArray) (q d : Int) : Int := if (s.size : Int) > 64 then 21 else if q > 72057594037927935 then 22 else if d = 0 then 0 else if d = 1 then 0 else 23
theorem Check_eq (s : ByteArray) (q d : Int) : ikey_Check.f s q d = some (chk s q d) := by
  unfold ikey_Check.f chk
  split
  · rfl
  · split
    · rfl
    · split
      · rfl
      · split <;> rfl
theorem refCheck_eq (s : ByteArray) (q d : Int) : staddleref02_Check.f s q d = some (chk s q d) := by
  unfold staddleref02_Check.f chk
  split
  · rfl
  · split
    · rfl
    · split
      · rfl
      · split <;> rfl
theorem chk_zero {s : ByteArray} {q d : Int} (h : chk s q d = 0) : s.size ≤ 64 ∧ q ≤ 72057594037927935 ∧ (d = 0 ∨ d = 1) := by
  unfold chk at h
  split at h
  · omega
  · split at h
    · omega
    · split at h
      · exact ⟨by omega, by omega, .inl (by assumption)⟩
      · split at h
        · exact ⟨by omega, by omega, .inr (by assumption)⟩
        · omega
theorem chk_ok {s : ByteArray} {q d : Int} (h1 : s.size ≤ 64) (h2 : q ≤ 72057594037927935) (h3 : d = 0 ∨ d = 1) : chk s q d = 0 := by
  unfold chk
  rw [if_neg (by omega), if_neg (by omega)]
  rcases h3 with h | h
  · rw [if_pos h]
  · rw [if_neg (by omega), if_pos h]
/-- A key's bytes. -/
def enc (s : ByteArray) (q d : Int) : List Int × Int := if chk s q d = 0 then (bytesOf s ++ fx 8 (q.toNat * 256 + d.toNat), 0) else ([], chk s q d)
theorem or_kind (q d : Int) (q0 : 0 ≤ q) (q1 : q ≤ 72057594037927935) (hd : d = 0 ∨ d = 1) : Go.bits .or .u64 (IntKind.u64.wrap (q * 256)) (IntKind.u64.wrap d) = ((q.toNat * 256 + d.toNat : Nat) : Int) := by
  rw [wU64 (n := q * 256) (by omega) (by omega), wU64 (n := d) (by omega) (by omega), or_add64 _ _ 8 (by omega) (by omega) (by omega) (by omega) (by omega) (by omega)]
  omega
theorem Encode_ev (s : ByteArray) (q d : Int) (q0 : 0 ≤ q) : Ev (fun k => ikey_Encode.f k s q d) (enc s q d) := by
  unfold enc
  by_cases h : chk s q d = 0
  · rw [if_pos h]
    obtain ⟨h1, h2, h3⟩ := chk_zero h
    have hp := PutFixed_ev (q.toNat * 256 + d.toNat) 8 (bytesOf s) (by omega) (by rw [bytesOf_length]; omega)
    refine Ev.congr (f := fun k => (codec_PutFixed.f k (bytesOf s) ((q.toNat * 256 + d.toNat : Nat) : Int) ((8 : Nat) : Int)).bind fun t112 => some (t112, 0)) (fun k => ?_) (Ev.bind hp (Ev.now _))
    unfold ikey_Encode.f
    rw [Check_eq, Option.bind_some, if_pos h, if_pos (by omega), or_kind q d q0 h2 h3]
    rfl
  · rw [if_neg h]
    refine Ev.congr (f := fun _ => some ([], chk s q d)) (fun k => ?_) (Ev.now _)
    unfold ikey_Encode.f
    rw [Check_eq, Option.bind_some, if_neg h]
theorem fx_succ (s n : Nat) : fx (s + 1) n = ((n % 256 : Nat) : Int) :: fx s (n / 256) := by rw [fx]
theorem refPutFixed_l0 : ∀ (s i n : Nat) (l : List Int), n < 18446744073709551616 → i + s ≤ 8 → l.length + s ≤ 140737488355328 → Ev (fun k => staddleref01_PutFixed.l0 k (n : Int) ((i + s : Nat) : Int) l (i : Int)) (l ++ fx s n)
  | 0, i, n, l, hn, hi, hl => by
    refine Ev.step (f := fun _ => some (l ++ fx 0 n)) (fun k => ?_) (Ev.now _)
    simp only [staddleref01_PutFixed.l0]
    rw [if_neg (by omega), fx, List.append_nil]
  | s + 1, i, n, l, hn, hi, hl => by
    have ih := refPutFixed_l0 s (i + 1) (n / 256) (l ++ [((n % 256 : Nat) : Int)]) (by omega) (by omega) (by simp; omega)
    rw [List.append_assoc, List.singleton_append, ← fx_succ] at ih
    refine Ev.step (fun k => ?_) ih
    simp only [staddleref01_PutFixed.l0]
    have e1 : IntKind.u64.wrap (Int.tdiv (n : Int) 256) = ((n / 256 : Nat) : Int) := by
      rw [show Int.tdiv (n : Int) 256 = ((n / 256 : Nat) : Int) from rfl, wU64 (by omega) (by omega)]
    have e2 : (Int.tmod (n : Int) 256) % 256 = ((n % 256 : Nat) : Int) := by
      rw [show Int.tmod (n : Int) 256 = ((n % 256 : Nat) : Int) from rfl]
      omega
    have e3 : wrap64 ((i : Int) + 1) = ((i + 1 : Nat) : Int) := by rw [w64 (by omega) (by omega)]; rfl
    rw [if_pos (by omega), if_pos (by omega), e1, e2, e3]
    congr 1
    omega
theorem refPutFixed_ev (n : Nat) (l : List Int) (hn : n < 18446744073709551616) (hl : l.length + 8 < 140737488355328) : Ev (fun k => staddleref01_PutFixed.f k l (n : Int) 8) (l ++ fx 8 n) := by
  have h := refPutFixed_l0 8 0 n l hn (by omega) (by omega)
  have hj : Ev (fun k => staddleref01_PutFixed.j0 k (n : Int) 8 l false) (l ++ fx 8 n) := by
    refine Ev.step (fun k => ?_) h
    simp only [staddleref01_PutFixed.j0]
    rw [if_neg (by decide)]
    rfl
  refine Ev.congr (fun k => ?_) hj
  unfold staddleref01_PutFixed.f
  rw [Option.bind_some, if_pos (by simp only [List.length_nil]; omega), Option.bind_some, if_neg (by decide), List.nil_append]
  rfl
theorem refEncode_ev (s : ByteArray) (q d : Int) (q0 : 0 ≤ q) : Ev (fun k => staddleref02_Encode.f k s q d) (enc s q d) := by
  unfold enc
  by_cases h : chk s q d = 0
  · rw [if_pos h]
    obtain ⟨h1, h2, h3⟩ := chk_zero h
    have hp := refPutFixed_ev (q.toNat * 256 + d.toNat) (bytesOf s) (by omega) (by rw [bytesOf_length]; omega)
    refine Ev.congr (f := fun k => (staddleref01_PutFixed.f k (bytesOf s) ((q.toNat * 256 + d.toNat : Nat) : Int) 8).bind fun t112 => some (t112, 0)) (fun k => ?_) (Ev.bind hp (Ev.now _))
    unfold staddleref02_Encode.f
    have e : IntKind.u64.wrap ((IntKind.u64.wrap (q * 256)) + (IntKind.u64.wrap d)) = ((q.toNat * 256 + d.toNat : Nat) : Int) := by
      rw [wU64 (n := q * 256) (by omega) (by omega), wU64 (n := d) (by omega) (by omega), wU64 (by omega) (by omega)]
      omega
    rw [refCheck_eq, Option.bind_some, if_pos h, if_pos (by omega), e]
  · rw [if_neg h]
    refine Ev.congr (f := fun _ => some ([], chk s q d)) (fun k => ?_) (Ev.now _)
    unfold staddleref02_Encode.f
    rw [refCheck_eq, Option.bind_some, if_neg h]
/-! ### Reading -/
def dec (l : List Int) : ByteArray × Int × Int × Int :=
  if l.length < 8 ∨ 72 < l.length ∨ 1 < fxd (l.drop (l.length - 8)) % 256 then ((⟨#[]⟩ : ByteArray), 0, 0, 20)
  else (strOfNums (l.take (l.length - 8)), ((fxd (l.drop (l.length - 8)) / 256 : Nat) : Int), ((fxd (l.drop (l.length - 8)) % 256 : Nat) : Int), 0)
theorem fxd_head (l : List Int) (h : IsB l) (h8 : 8 ≤ l.length) : rd l ((l.length - 8 : Nat) : Int) = ((fxd (l.drop (l.length - 8)) % 256 : Nat) : Int) := by
  have hlt : l.length - 8 < l.length := by omega
  rw [List.drop_eq_getElem_cons hlt]
  have hb := h _ (List.getElem_mem hlt)
  have e : rd l ((l.length - 8 : Nat) : Int) = l[l.length - 8] := by
    unfold rd
    rw [Int.toNat_natCast, List.getD_eq_getElem?_getD, List.getElem?_eq_getElem hlt]
    rfl
  rw [e, fxd]
  omega
theorem fxd8 (l : List Int) (h : IsB l) (h8 : 8 ≤ l.length) : fxd (l.drop (l.length - 8)) < 18446744073709551616 := by
  have := fxd_lt _ (h.drop (l.length - 8))
  rw [List.length_drop, show l.length - (l.length - 8) = 8 by omega] at this
  exact Nat.lt_of_lt_of_le this (by decide)
theorem wlen (l : List Int) (hl : l.length ≤ 140737488351232) (h8 : 8 ≤ l.length) : wrap64 ((l.length : Int) - 8) = ((l.length - 8 : Nat) : Int) := by
  rw [w64 (by omega) (by omega)]
  omega
theorem and255 (n : Nat) (h : n < 18446744073709551616) : Go.bits .and .u64 (n : Int) 255 = ((n % 256 : Nat) : Int) := by
  have h2 : Go.bits .and .u64 (n : Int) (2 ^ 8 - 1) = (n : Int) % 2 ^ 8 := bits_mask .u64 64 (by decide) (fun n h0 h1 => by rw [wrapU64]; omega) 8 (by decide) (n : Int) (by omega) (by omega)
  have h3 : ((2 : Int) ^ 8 - 1) = 255 := by decide
  rw [h3] at h2
  rw [h2]
  omega
theorem Decode_ev (l : List Int) (hb : IsB l) (hl : l.length ≤ 140737488351232) : Ev (fun k => ikey_Decode.f k l) (dec l) := by
  unfold dec
  by_cases h8 : l.length < 8
  · rw [if_pos (.inl h8)]
    refine Ev.congr (f := fun _ => some _) (fun k => ?_) (Ev.now _)
    unfold ikey_Decode.f
    rw [if_pos (by rw [w64 (by omega) (by omega)]; omega)]
  · have hw := wlen l hl (by omega)
    by_cases h72 : 72 < l.length
    · rw [if_pos (.inr (.inl h72))]
      refine Ev.congr (f := fun _ => some _) (fun k => ?_) (Ev.now _)
      unfold ikey_Decode.f
      rw [hw, if_neg (by omega), if_pos (by omega)]
    · have hr := fxd_head l hb (by omega)
      by_cases h1 : 1 < fxd (l.drop (l.length - 8)) % 256
      · rw [if_pos (.inr (.inr h1))]
        refine Ev.congr (f := fun _ => some _) (fun k => ?_) (Ev.now _)
        unfold ikey_Decode.f
        rw [hw, if_neg (by omega), if_neg (by omega), if_pos (by omega), if_pos (by omega), hr, if_pos (by omega)]
      · rw [if_neg (by omega)]
        have hf := Fixed_ev (l.drop (l.length - 8)) (hb.drop _) 8 (by omega) (by omega)
        have hlen : (l.drop (l.length - 8)).length = 8 := by rw [List.length_drop]; omega
        rw [if_neg (by omega), List.take_of_length_le (by omega)] at hf
        have hlt := fxd8 l hb (by omega)
        refine Ev.congr (f := fun k => (codec_Fixed.f k (l.drop (l.length - 8)) ((8 : Nat) : Int)).bind fun bt => some (strOfNums (l.take (l.length - 8)), bt.1 / 256, wrap64 (Go.bits .and .u64 bt.1 255), 0)) (fun k => ?_) (Ev.bind hf ?_)
        · unfold ikey_Decode.f
          rw [hw, if_neg (by omega), if_neg (by omega), if_pos (by omega), if_pos (by omega), hr, if_neg (by omega), if_pos (by omega), Int.toNat_natCast]
          rfl
        · simp only []
          rw [and255 _ hlt, w64 (by omega) (by omega)]
          exact Ev.now _
theorem refFixed_l0 (l : List Int) (hb : IsB l) (hl : l.length ≤ 8) : ∀ (i : Nat), i ≤ l.length → Ev (fun k => staddleref01_Fixed.l0 k l ((fxd (l.drop i) : Nat) : Int) ((i : Int) - 1)) (((fxd l : Nat) : Int), 0)
  | 0, _ => by
    refine Ev.step (f := fun _ => some (((fxd l : Nat) : Int), 0)) (fun k => ?_) (Ev.now _)
    simp only [staddleref01_Fixed.l0]
    rw [if_neg (by omega), List.drop_zero]
  | i + 1, hi => by
    have ih := refFixed_l0 l hb hl i (by omega)
    have hlt : i < l.length := by omega
    have hd := List.drop_eq_getElem_cons hlt
    have hc := hb _ (List.getElem_mem hlt)
    have hq := fxd_lt _ (hb.drop i)
    have hpow : 256 ^ (l.drop i).length ≤ 18446744073709551616 := by
      rw [List.length_drop]
      exact Nat.le_trans (Nat.pow_le_pow_right (by decide) (show l.length - i ≤ 8 by omega)) (by decide)
    have e0 : rd l (((i + 1 : Nat) : Int) - 1) = l[i] := by
      unfold rd
      rw [show (((i + 1 : Nat) : Int) - 1).toNat = i by omega, List.getD_eq_getElem?_getD, List.getElem?_eq_getElem hlt]
      rfl
    have ed : fxd (l.drop i) = (l[i]).toNat + 256 * fxd (l.drop (i + 1)) := by rw [hd, fxd]
    refine Ev.step (fun k => ?_) ih
    simp only [staddleref01_Fixed.l0]
    rw [if_pos (by omega), if_pos (by omega), if_pos (by omega), e0]
    generalize fxd (l.drop i) = x at *
    generalize fxd (l.drop (i + 1)) = y at *
    generalize l[i] = c at *
    have e1 : IntKind.u64.wrap ((IntKind.u64.wrap ((y : Int) * 256)) + (IntKind.u64.wrap c)) = (x : Int) := by
      rw [wU64 (n := (y : Int) * 256) (by omega) (by omega), wU64 (n := c) (by omega) (by omega), wU64 (by omega) (by omega)]
      omega
    have e2 : wrap64 (((i + 1 : Nat) : Int) - 1 - 1) = (i : Int) - 1 := by rw [w64 (by omega) (by omega)]; omega
    rw [e1, e2]
theorem refFixed_ev (l : List Int) (hb : IsB l) (h8 : l.length = 8) : Ev (fun k => staddleref01_Fixed.f k l 8) (((fxd l : Nat) : Int), 0) := by
  have h := refFixed_l0 l hb (by omega) l.length (Nat.le_refl _)
  rw [List.drop_length, h8] at h
  have hj : Ev (fun k => staddleref01_Fixed.j0 k l 8 false) (((fxd l : Nat) : Int), 0) := by
    refine Ev.step (fun k => ?_) h
    simp only [staddleref01_Fixed.j0]
    rw [if_neg (by decide), if_neg (by omega), show wrap64 (8 - 1) = (8 : Int) - 1 from w64 (by decide) (by decide)]
    rfl
  refine Ev.congr (fun k => ?_) hj
  unfold staddleref01_Fixed.f
  rw [if_neg (by decide)]
  rfl
theorem refDecode_ev (l : List Int) (hb : IsB l) (hl : l.length ≤ 140737488351232) : Ev (fun k => staddleref02_Decode.f k l) (dec l) := by
  unfold dec
  have jt : Ev (fun k => staddleref02_Decode.j0 k l true) ((⟨#[]⟩ : ByteArray), 0, 0, 20) := by
    refine Ev.step (f := fun _ => some _) (fun k => ?_) (Ev.now _)
    simp only [staddleref02_Decode.j0]
    rw [if_pos trivial]
  by_cases h8 : l.length < 8
  · rw [if_pos (.inl h8)]
    refine Ev.congr (fun k => ?_) jt
    unfold staddleref02_Decode.f
    rw [if_pos (by omega)]
  · have hw := wlen l hl (by omega)
    by_cases h72 : 72 < l.length
    · rw [if_pos (.inr (.inl h72))]
      refine Ev.congr (fun k => ?_) jt
      unfold staddleref02_Decode.f
      rw [if_neg (by omega)]
      congr 1
      simp
      omega
    · have hlen : (l.drop (l.length - 8)).length = 8 := by rw [List.length_drop]; omega
      have hf := refFixed_ev (l.drop (l.length - 8)) (hb.drop _) hlen
      have hlt := fxd8 l hb (by omega)
      have jf : Ev (fun k => staddleref02_Decode.j0 k l false) (if l.length < 8 ∨ 72 < l.length ∨ 1 < fxd (l.drop (l.length - 8)) % 256 then ((⟨#[]⟩ : ByteArray), 0, 0, 20)
          else (strOfNums (l.take (l.length - 8)), ((fxd (l.drop (l.length - 8)) / 256 : Nat) : Int), ((fxd (l.drop (l.length - 8)) % 256 : Nat) : Int), 0)) := by
        refine Ev.step (f := fun k => (staddleref01_Fixed.f k (l.drop (l.length - 8)) 8).bind fun bt168 => (if (Int.tmod bt168.1 256) > 1 then (some ((⟨#[]⟩ : ByteArray), 0, 0, 20)) else (some (strOfNums (l.take (l.length - 8)), IntKind.u64.wrap (Int.tdiv bt168.1 256), wrap64 (Int.tmod bt168.1 256), 0)))) (fun k => ?_) (Ev.bind hf ?_)
        · simp only [staddleref02_Decode.j0]
          rw [if_neg (by decide), hw, if_pos (by omega), if_pos (by omega), Int.toNat_natCast]
        · simp only []
          generalize fxd (l.drop (l.length - 8)) = x at *
          have et : Int.tmod (x : Int) 256 = ((x % 256 : Nat) : Int) := rfl
          have ed : Int.tdiv (x : Int) 256 = ((x / 256 : Nat) : Int) := rfl
          rw [et, ed]
          by_cases h1 : 1 < x % 256
          · have hor : l.length < 8 ∨ 72 < l.length ∨ 1 < x % 256 := .inr (.inr h1)
            rw [if_pos hor]
            exact Ev.congr (fun k => by rw [if_pos (by omega)]) (Ev.now _)
          · have hor : ¬ (l.length < 8 ∨ 72 < l.length ∨ 1 < x % 256) := by omega
            rw [if_neg hor]
            exact Ev.congr (fun k => by rw [if_neg (by omega), wU64 (by omega) (by omega), w64 (by omega) (by omega)]) (Ev.now _)
      refine Ev.congr (fun k => ?_) jf
      unfold staddleref02_Decode.f
      rw [if_neg (by omega)]
      congr 1
      simp
      omega
/-! ### Order -/
def kcmp (s1 : ByteArray) (q1 d1 : Int) (s2 : ByteArray) (q2 d2 : Int) : Int :=
  if Lib.compareBytes s1.data.toList s2.data.toList = 0 then (if ikey_cmp q2 q1 = 0 then ikey_cmp d2 d1 else ikey_cmp q2 q1) else Lib.compareBytes s1.data.toList s2.data.toList
theorem Compare_eq (s1 : ByteArray) (q1 d1 : Int) (s2 : ByteArray) (q2 d2 : Int) : ikey_Compare.f s1 q1 d1 s2 q2 d2 = some (kcmp s1 q1 d1 s2 q2 d2) := rfl
theorem icmp_spec (x y : Int) : (ikey_cmp x y = -1 ∧ x < y) ∨ (ikey_cmp x y = 1 ∧ y < x) ∨ (ikey_cmp x y = 0 ∧ x = y) := by
  unfold ikey_cmp
  split
  · exact .inl ⟨rfl, by assumption⟩
  · split
    · exact .inr (.inl ⟨rfl, by assumption⟩)
    · exact .inr (.inr ⟨rfl, by omega⟩)
theorem refCompare_ev (s1 : ByteArray) (q1 d1 : Int) (s2 : ByteArray) (q2 d2 : Int) : Ev (fun k => staddleref02_Compare.f k s1 q1 d1 s2 q2 d2) (kcmp s1 q1 d1 s2 q2 d2) := by
  have j (b : Bool) : Ev (fun k => staddleref02_Compare.j0 k b s1 q1 d1 s2 q2 d2) (if b = true then -1 else if q1 < q2 then 1 else if d1 < d2 then 1 else 0) := by
    refine Ev.step (f := fun _ => some (if b = true then -1 else if q1 < q2 then 1 else if d1 < d2 then 1 else 0)) (fun k => ?_) (Ev.now _)
    simp only [staddleref02_Compare.j0]
    split
    · rfl
    · split
      · rfl
      · split <;> rfl
  unfold kcmp
  rcases cmp_spec s1.data.toList s2.data.toList with ⟨e, h1, h2, h3⟩ | ⟨e, h1, h2, h3⟩ | ⟨e, h1, h2, h3⟩
  · rw [e, if_neg (by decide)]
    refine Ev.congr (f := fun _ => some (-1)) (fun k => ?_) (Ev.now _)
    unfold staddleref02_Compare.f
    rw [ByteArray.toList_eq, ByteArray.toList_eq, if_pos h1]
  · rw [e, if_neg (by decide)]
    refine Ev.congr (f := fun _ => some 1) (fun k => ?_) (Ev.now _)
    unfold staddleref02_Compare.f
    rw [ByteArray.toList_eq, ByteArray.toList_eq, h1, if_neg (by decide), if_pos h2]
  · rw [e, if_pos rfl]
    have hu : ∀ k, staddleref02_Compare.f k s1 q1 d1 s2 q2 d2 = if q1 > q2 then staddleref02_Compare.j0 k true s1 q1 d1 s2 q2 d2 else if q1 = q2 then staddleref02_Compare.j0 k (decide (d1 > d2)) s1 q1 d1 s2 q2 d2 else staddleref02_Compare.j0 k false s1 q1 d1 s2 q2 d2 := by
      intro k
      unfold staddleref02_Compare.f
      rw [ByteArray.toList_eq, ByteArray.toList_eq, h1, h2, if_neg (by decide), if_neg (by decide)]
    refine Ev.congr hu ?_
    rcases icmp_spec q2 q1 with ⟨f, g⟩ | ⟨f, g⟩ | ⟨f, g⟩
    · rw [f, if_neg (by decide)]
      have := j true
      rw [if_pos rfl] at this
      exact Ev.congr (fun k => by rw [if_pos (by omega)]) this
    · rw [f, if_neg (by decide)]
      have := j false
      rw [if_neg (by decide), if_pos (by omega)] at this
      exact Ev.congr (fun k => by rw [if_neg (by omega), if_neg (by omega)]) this
    · rw [f, if_pos rfl]
      have h := j (decide (d1 > d2))
      refine Ev.congr (fun k => by rw [if_neg (by omega), if_pos (by omega)]) ?_
      rcases icmp_spec d2 d1 with ⟨f2, g2⟩ | ⟨f2, g2⟩ | ⟨f2, g2⟩
      · rw [f2]
        rw [if_pos (by simp; omega)] at h
        exact h
      · rw [f2]
        rw [if_neg (by simp; omega), if_neg (by omega), if_pos (by omega)] at h
        exact h
      · rw [f2]
        rw [if_neg (by simp; omega), if_neg (by omega), if_neg (by omega)] at h
        exact h
end Go.Proofs.Ytlbnibkmjiapaaa.Q
