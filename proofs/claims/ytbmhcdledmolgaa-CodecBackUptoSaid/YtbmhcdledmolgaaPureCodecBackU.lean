/- What is proved: staddlelaw01.CodecBack answers true for every number, text, size and bytes, the text and the bytes at most 1048576 long (what the '..UptoSaid' statement asks). -/
import Derived.Test.YtbmhcdledmolgaaP10
import Derived.Test.YtbmhcdledmolgaaQAwake01
import Derived.Test.YtbmhcdledmolgaaQFix
namespace Go.Proofs.Ytbmhcdledmolgaa.Pure
open Go.RowKit Go.Proofs.Ytbmhcdledmolgaa.P Go.Proofs.YtbmhcdledmolgaaW.PrintWords Go.Proofs.YtbmhcdledmolgaaW.PrintMore Go.Proofs.Ytbmhcdledmolgaa.Q Go.Proofs.Ytbmhcdledmolgaa.M
theorem fx_mod (s n : Nat) : fx s n = fx s (n % 256 ^ s) := by
  induction s generalizing n with
  | zero => rfl
  | succ s ih =>
    rw [fx, fx, Nat.pow_succ, Nat.mul_comm (256 ^ s) 256, Nat.mod_mul_right_mod, ih (n / 256), ih (n % (256 * 256 ^ s) / 256), Nat.mod_mul_right_div_self, Nat.mod_mod]
theorem shl_one (s : Nat) (hs : s < 8) : shl .u64 1 ((8 * s : Nat) : Int) = ((256 ^ s : Nat) : Int) := by
  have h : 1 * 2 ^ (8 * s) < 18446744073709551616 := by
    have : ∀ s : Fin 8, 1 * 2 ^ (8 * s.val) < 18446744073709551616 := by decide
    exact this ⟨s, hs⟩
  have := shl64 1 (8 * s) (by omega) h
  rw [Nat.one_mul, pow256] at this
  exact this
theorem CodecBackU (a0 : Int) (a1 : ByteArray) (a2 : Int) (l3 : List Int) (w0 : (Lit.int .u64 a0).wf = true) (h1 : a1.size ≤ 1048576) (w2 : (Lit.int .i64 a2).wf = true) (h3 : l3.length ≤ 1048576) (w3 : ∀ x ∈ l3, (Lit.int .u8 x).wf = true) :
    ∃ k, staddlelaw01_CodecBack.f k a0 a1 a2 l3 = some true := by
  have hB := IsB.of_wf w3
  obtain ⟨n0, n1⟩ := wf_u64 w0
  obtain ⟨s0, s1⟩ := wf_i64 w2
  obtain ⟨n, rfl⟩ := Int.eq_ofNat_of_zero_le n0
  have hn : n < 18446744073709551616 := by omega
  have hu10 := uv_len64 hn
  have hupos := uv_pos n
  have htl : (tx (bytesOf a1)).length ≤ 1048586 := by
    unfold tx
    rw [List.length_append, bytesOf_length]
    have := uv_len64 (n := a1.size) (by omega)
    omega
  have huv : IsB (uv n ++ l3) := (uv_IsB n).append hB
  have hU := Uvarint_ev (uv n ++ l3) huv
  have hud : uvd (uv n ++ l3) 0 0 = (n, (uv n).length, 0) := by
    have := uvd_uv l3 n 0 0 (by omega) (by simpa using hn)
    simpa using this
  rw [hud] at hU
  have htx : IsB (tx (bytesOf a1) ++ l3) := (tx_IsB (IsB.bytesOf a1)).append hB
  have hT := Text_ev (tx (bytesOf a1) ++ l3) htx (by rw [List.length_append]; omega)
  rw [txd_tx (bytesOf a1) l3 (by rw [bytesOf_length]; omega), str_bytesOf] at hT
  have hfew : ((uv n).length = 1) ∨ 0 < n / 2 ^ (7 * ((uv n).length - 1)) := by
    rcases Nat.lt_or_ge (uv n).length 2 with h | h
    · exact .inl (by omega)
    · obtain ⟨d, hd⟩ : ∃ d, (uv n).length = d + 2 := ⟨(uv n).length - 2, by omega⟩
      have := uv_few d n hd
      rw [hd, show d + 2 - 1 = d + 1 by omega]
      exact .inr (Nat.div_pos this (Nat.two_pow_pos _))
  -- the last part: fixed bytes
  have j2 : Ev (fun k => staddlelaw01_CodecBack.j1 k (n : Int) a2 l3 true true) true := by
    by_cases hs : a2 < 1 ∨ 8 < a2
    · have hj : ∀ k, staddlelaw01_CodecBack.j1 (k + 1) (n : Int) a2 l3 true true = staddlelaw01_CodecBack.j2 k (n : Int) a2 l3 true true true := by
        intro k
        simp only [staddlelaw01_CodecBack.j1]
        by_cases h : a2 < 1
        · rw [if_pos h]
        · rw [if_neg h]
          congr 1
          simp
          omega
      refine Ev.step hj (Ev.step (f := ?f1) (fun k => ?h1) ?g1)
      case h1 => simp only [staddlelaw01_CodecBack.j2, if_true]; rfl
      case g1 => exact Ev.bind (PutFixed_out (n : Int) a2 [] hs (by decide)) (Ev.now _)
    · obtain ⟨s, rfl⟩ := Int.eq_ofNat_of_zero_le (show 0 ≤ a2 by omega)
      have hs1 : 1 ≤ s := by omega
      have hs8 : s ≤ 8 := by omega
      have hj : ∀ k, staddlelaw01_CodecBack.j1 (k + 1) (n : Int) (s : Int) l3 true true = staddlelaw01_CodecBack.j2 k (n : Int) (s : Int) l3 true true false := by
        intro k
        simp only [staddlelaw01_CodecBack.j1]
        rw [if_neg (by omega)]
        congr 1
        simp
        omega
      have hP := PutFixed_ev n s [] hs8 (by decide)
      rw [List.nil_append] at hP
      have hF := Fixed_ev (fx s n ++ l3) ((fx_IsB s n).append hB) s hs1 hs8
      rw [if_neg (by rw [List.length_append, fx_length]; omega), List.take_left' (fx_length s n), fxd_fx] at hF
      have hlen := fx_length s n
      refine Ev.step hj (Ev.step (f := ?f2) (fun k => ?h2) ?g2)
      case h2 => simp only [staddlelaw01_CodecBack.j2, if_true]; rfl
      case g2 =>
        refine Ev.ifF (by decide) (Ev.bind hP (Ev.some_ (Ev.ifT (by rw [hlen]; simp; omega) (Ev.some_ (Ev.ifT (by rw [List.nil_append, hlen]; omega) ?_)))))
        rw [List.nil_append]
        refine Ev.bind hF ?_
        by_cases h8 : s < 8
        · have e8 : IntKind.u64.wrap (wrap64 (8 * (s : Int))) = ((8 * s : Nat) : Int) := by rw [w64 (by omega) (by omega), wU64 (by omega) (by omega)]; omega
          rw [e8, shl_one s h8]
          have hp : (0 : Int) < ((256 ^ s : Nat) : Int) := by exact_mod_cast Nat.pow_pos (by decide)
          refine Ev.ifT (by omega) (Ev.ifT (by omega) (Ev.ifF (by omega) (Ev.ifT (by omega) (Ev.ifT ?_ (Ev.now _)))))
          rw [Int.tmod_eq_emod_of_nonneg (by omega)]
          rfl
        · obtain rfl : s = 8 := by omega
          refine Ev.ifF (by omega) (Ev.ifT (by omega) (Ev.ifT ?_ (Ev.now _)))
          rw [Nat.mod_eq_of_lt]
          exact hn
  have j0 : Ev (fun k => staddlelaw01_CodecBack.j0 k (n : Int) a2 l3 true (uv n) false) true := by
    refine Ev.step (f := ?f3) (fun k => ?h3) ?g3
    case h3 => simp only [staddlelaw01_CodecBack.j0]; rfl
    case g3 =>
      refine Ev.ifF (by decide) ?_
      by_cases h1' : (uv n).length = 1
      · exact Ev.ifT (by omega) j2
      · have e7 : IntKind.u64.wrap (wrap64 (7 * wrap64 (((uv n).length : Int) - 1))) = ((7 * ((uv n).length - 1) : Nat) : Int) := by
          rw [w64 (n := ((uv n).length : Int) - 1) (by omega) (by omega), w64 (by omega) (by omega), wU64 (by omega) (by omega)]
          omega
        rw [e7]
        have hsr : shr .u64 (n : Int) ((7 * ((uv n).length - 1) : Nat) : Int) = ((n / 2 ^ (7 * ((uv n).length - 1)) : Nat) : Int) := by
          unfold shr
          rw [Int.toNat_natCast, Nat.min_eq_left (show 7 * ((uv n).length - 1) ≤ IntKind.u64.bits from (show 7 * ((uv n).length - 1) ≤ 64 by omega))]
          simp
        rw [hsr]
        refine Ev.ifF (by omega) (Ev.ifT (by omega) (Ev.ifT (by omega) ?_))
        have hd : decide (((n / 2 ^ (7 * ((uv n).length - 1)) : Nat) : Int) > 0) = true := by
          rcases hfew with h | h
          · exact absurd h h1'
          · simp only [decide_eq_true_eq]
            omega
        rw [hd]
        exact j2
  have hPU := PutUvarint_ev n [] hn (by decide)
  rw [List.nil_append] at hPU
  have hPT := PutText_ev [] a1 (by simp; omega)
  rw [List.nil_append] at hPT
  have h : Ev (fun k => staddlelaw01_CodecBack.f k (n : Int) a1 a2 l3) true := by
    unfold staddlelaw01_CodecBack.f
    refine Ev.bind awake_ev (Ev.bind hPU (Ev.some_ (Ev.ifT (by simp; omega) (Ev.some_ (Ev.ifT (by rw [List.nil_append]; omega) ?_)))))
    rw [List.nil_append]
    refine Ev.bind hU (Ev.bind hPT (Ev.some_ (Ev.ifT (by simp; omega) (Ev.some_ (Ev.ifT (by rw [List.nil_append]; omega) ?_)))))
    rw [List.nil_append]
    refine Ev.bind hT ?_
    exact Ev.ifT rfl (Ev.ifT rfl (Ev.ifT rfl (Ev.ifT rfl (Ev.ifT rfl j0))))
  exact h.rounds
end Go.Proofs.Ytbmhcdledmolgaa.Pure
