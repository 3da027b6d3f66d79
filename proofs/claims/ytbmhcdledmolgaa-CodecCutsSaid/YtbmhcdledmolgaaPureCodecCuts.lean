/- What is proved: staddlelaw01.CodecCuts answers true for all numbers, texts and cuts (texts at most 2^47 - 4096 long, as the row hands them). -/
import Derived.Test.YtbmhcdledmolgaaP8
import Derived.Test.YtbmhcdledmolgaaQAwake01
set_option linter.unusedVariables false
namespace Go.Proofs.Ytbmhcdledmolgaa.Pure
open Go.RowKit Go.Proofs.Ytbmhcdledmolgaa.P Go.Proofs.YtbmhcdledmolgaaW.PrintWords Go.Proofs.YtbmhcdledmolgaaW.PrintMore Go.Proofs.Ytbmhcdledmolgaa.Q Go.Proofs.Ytbmhcdledmolgaa.M
theorem ba_ext' {a b : ByteArray} (h : a.data.toList = b.data.toList) : a = b := by
  obtain ⟨⟨a⟩⟩ := a
  obtain ⟨⟨b⟩⟩ := b
  cases h
  rfl
theorem tmod_cut (x : Int) (n : Nat) (h0 : 0 ≤ x) (hn : 0 < n) : 0 ≤ Int.tmod x (n : Int) ∧ Int.tmod x (n : Int) < (n : Int) := by
  rw [Int.tmod_eq_emod_of_nonneg h0]
  exact ⟨Int.emod_nonneg _ (by omega), Int.emod_lt_of_pos _ (by omega)⟩
theorem uvd_cut0 (n j : Nat) (hn : n < 18446744073709551616) (hj : j < (uv n).length) : (uvd ((uv n).take j) 0 0).2.2 = 10 := by
  rw [uvd_cut n 0 0 j (by omega) (by simpa using hn) hj]
theorem same_uv (n m : Nat) (hn : n < 18446744073709551616) (hm : m < 18446744073709551616) : (((strOfNums (uv n)).toList == (strOfNums (uv m)).toList) == ((n : Int) == (m : Int))) = true := by
  rw [beq_iff_eq]
  by_cases h : n = m
  · subst h; simp
  · have h1 : (strOfNums (uv n)).toList ≠ (strOfNums (uv m)).toList := fun g => h (by
      rw [ByteArray.toList_eq, ByteArray.toList_eq] at g
      exact uv_inj hn hm (str_inj (uv_IsB n) (uv_IsB m) (ba_ext' g)))
    have h2 : (n : Int) ≠ (m : Int) := by omega
    rw [beq_eq_false_iff_ne.2 h1, beq_eq_false_iff_ne.2 h2]
theorem same_tx (s t : ByteArray) (hs : s.size ≤ 140737488351232) (ht : t.size ≤ 140737488351232) : (((strOfNums (tx (bytesOf s))).toList == (strOfNums (tx (bytesOf t))).toList) == (s.toList == t.toList)) = true := by
  rw [beq_iff_eq]
  by_cases h : s = t
  · subst h; simp
  · have h1 : (strOfNums (tx (bytesOf s))).toList ≠ (strOfNums (tx (bytesOf t))).toList := fun g => h (by
      rw [ByteArray.toList_eq, ByteArray.toList_eq] at g
      exact bytesOf_inj (tx_inj (by rw [bytesOf_length]; omega) (by rw [bytesOf_length]; omega) (str_inj (tx_IsB (IsB.bytesOf s)) (tx_IsB (IsB.bytesOf t)) (ba_ext' g))))
    have h2 : s.toList ≠ t.toList := fun g => h (by rw [ByteArray.toList_eq, ByteArray.toList_eq] at g; exact ba_ext' g)
    rw [beq_eq_false_iff_ne.2 h1, beq_eq_false_iff_ne.2 h2]
theorem cuts_j1 (n m : Nat) (s t : ByteArray) (x : Int) (hn : n < 18446744073709551616) (hm : m < 18446744073709551616) (hs : s.size ≤ 140737488351232) (ht : t.size ≤ 140737488351232) (hx : 0 ≤ x) :
    Ev (fun k => staddlelaw01_CodecCuts.j1 k (n : Int) (m : Int) s t x true (uv n) (tx (bytesOf s))) true := by
  have hup := uv_pos n
  have htp : 0 < (tx (bytesOf s)).length := by unfold tx; rw [List.length_append]; have := uv_pos (bytesOf s).length; omega
  have htl : (tx (bytesOf s)).length ≤ 140737488351242 := by
    unfold tx
    rw [List.length_append, bytesOf_length]
    have := uv_len64 (n := s.size) (by omega)
    omega
  obtain ⟨c0, c1⟩ := tmod_cut x (uv n).length hx (by omega)
  obtain ⟨d0, d1⟩ := tmod_cut x (tx (bytesOf s)).length hx htp
  have hU := Uvarint_ev ((uv n).take (Int.tmod x ((uv n).length : Int)).toNat) ((uv_IsB n).take _)
  have eU := uvd_cut0 n (Int.tmod x ((uv n).length : Int)).toNat hn (by omega)
  have hT := Text_ev ((tx (bytesOf s)).take (Int.tmod x ((tx (bytesOf s)).length : Int)).toNat) ((tx_IsB (IsB.bytesOf s)).take _) (by rw [List.length_take]; omega)
  rw [txd_cut (bytesOf s) _ (by rw [bytesOf_length]; omega) (by omega)] at hT
  have hP := PutUvarint_ev m [] hm (by simp)
  have hQ := PutText_ev [] t (by simp; omega)
  rw [List.nil_append] at hP hQ
  obtain ⟨c, hc⟩ : ∃ c, c = Int.tmod x ((uv n).length : Int) := ⟨_, rfl⟩
  obtain ⟨d, hd⟩ : ∃ d, d = Int.tmod x ((tx (bytesOf s)).length : Int) := ⟨_, rfl⟩
  rw [← hc] at c0 c1 hU eU
  rw [← hd] at d0 d1 hT
  refine Ev.step (f := ?f1) (fun k => ?h1) ?g1
  case h1 =>
    simp only [staddlelaw01_CodecCuts.j1]
    rw [← hc, ← hd, if_neg (by omega), if_pos c0, if_pos (by omega)]
  refine Ev.bind hU ?_
  refine Ev.congr (f := ?f2) (fun k => ?h2) ?g2
  case h2 => rw [if_neg (by omega), if_pos d0, if_pos (by omega)]
  refine Ev.bind hT (Ev.bind hP (Ev.bind hQ ?_))
  refine Ev.ifT trivial (Ev.ifT ?_ (Ev.ifT rfl (Ev.ifT (same_uv n m hn hm) ?_)))
  · rw [eU]; rfl
  · rw [same_tx s t hs ht]
    exact Ev.now _
theorem CodecCuts : staddlelaw01_CodecCuts.Pure := by
  intro a0 a1 s t x w0 w1 hs ht w4
  obtain ⟨n0, n1⟩ := wf_u64 w0
  obtain ⟨m0, m1⟩ := wf_u64 w1
  obtain ⟨x0, x1⟩ := wf_i64 w4
  obtain ⟨n, rfl⟩ := Int.eq_ofNat_of_zero_le n0
  obtain ⟨m, rfl⟩ := Int.eq_ofNat_of_zero_le m0
  have hn : n < 18446744073709551616 := by omega
  have hm : m < 18446744073709551616 := by omega
  have hup := uv_pos n
  have htp : 0 < (tx (bytesOf s)).length := by unfold tx; rw [List.length_append]; have := uv_pos (bytesOf s).length; omega
  have j0 : Ev (fun k => staddlelaw01_CodecCuts.j0 k (n : Int) (m : Int) s t x true (uv n) (tx (bytesOf s)) false) true := by
    by_cases hx : x < 0
    · have e : wrap64 (-(wrap64 (x + 1))) = -(x + 1) := by
        rw [w64 (n := x + 1) (by omega) (by omega)]
        exact w64 (by omega) (by omega)
      have h := cuts_j1 n m s t (-(x + 1)) hn hm hs ht (by omega)
      rw [← e] at h
      refine Ev.step (fun k => ?_) h
      simp only [staddlelaw01_CodecCuts.j0]
      rw [if_neg (by decide), if_pos hx]
    · have h := cuts_j1 n m s t x hn hm hs ht (by omega)
      refine Ev.step (fun k => ?_) h
      simp only [staddlelaw01_CodecCuts.j0]
      rw [if_neg (by decide), if_neg hx]
  have hP := PutUvarint_ev n [] hn (by simp)
  have hQ := PutText_ev [] s (by simp; omega)
  rw [List.nil_append] at hP hQ
  have hz : (((tx (bytesOf s)).length : Int) == 0) = false := beq_eq_false_iff_ne.2 (by omega)
  have h : Ev (fun k => staddlelaw01_CodecCuts.f k (n : Int) (m : Int) s t x) true := by
    unfold staddlelaw01_CodecCuts.f
    refine Ev.bind awake_ev (Ev.bind hP (Ev.bind hQ (Ev.ifF (by omega) ?_)))
    rw [hz]
    exact j0
  exact h.rounds
end Go.Proofs.Ytbmhcdledmolgaa.Pure
