/- What is proved: for every edit staddlelaw13.EditParts answers true. No condition but that the argument can stand in memory. -/
import Derived.Test.YthkkbgehmiobaaaP25
import Derived.Test.YthkkbgehmiobaaaQA
import Derived.Test.YthkkbgehmiobaaaRdEdit
namespace Go.Proofs.Ythkkbgehmiobaaa.Pure
open Go.RowKit Go.Proofs.YthkkbgehmiobaaaW.PrintWords Go.Proofs.YthkkbgehmiobaaaW.PrintLast Go.Proofs.YthkkbgehmiobaaaW.PrintMore Go.Proofs.Ythkkbgehmiobaaa.P Go.Proofs.Ythkkbgehmiobaaa.M Go.Proofs.Ythkkbgehmiobaaa.Q
theorem KW_of {L : List S44} (h : ∀ x ∈ L, Rd.wfF x) : KW L := fun x hx => ⟨(wf_u64 (h x hx).2.2.2.1.1).1, (wf_u64 (h x hx).2.2.2.2.1).1⟩
theorem str_app (l r : List Int) : strOfNums l ++ strOfNums r = strOfNums (l ++ r) := by
  apply ba_ext
  simp [strOfNums, ByteArray.data_append]
theorem uv_zero : uv (0 : Int).toNat = [0] := uv_small (by decide)
theorem uv_zero' : uv (0 : Nat) = [0] := uv_small (by decide)
theorem lay_head (a b c : Int) : lay a b c [] [] = (uv a.toNat ++ (uv b.toNat ++ uv c.toNat)) ++ [0, 0] := by
  unfold lay
  rw [List.length_nil, List.length_nil, uv_zero']
  simp [dbs, fbs]
theorem lay_dels (D : List S40) : lay 0 0 0 D [] = [0, 0, 0] ++ ((uv D.length ++ dbs D) ++ [0]) := by
  unfold lay
  rw [List.length_nil, uv_zero', uv_zero]
  simp [fbs]
theorem lay_adds (L : List S44) : lay 0 0 0 [] L = [0, 0, 0, 0] ++ (uv L.length ++ fbs L) := by
  unfold lay
  rw [List.length_nil, uv_zero', uv_zero]
  simp [dbs]
theorem EditPartsS (a b c : Int) (D : List S40) (L : List S44) (hw : (Lit.int .u64 a).wf = true ∧ (Lit.int .u64 b).wf = true ∧ (Lit.int .u64 c).wf = true ∧ (∀ x ∈ D, (Lit.int .i64 x.f0).wf = true ∧ (Lit.int .u64 x.f1).wf = true) ∧ (∀ x ∈ L, Rd.wfF x)) (hD : D.length * 16 ≤ 140737488351232) (hL : L.length * 88 ≤ 140737488351232) :
    ∃ k, staddlelaw13_EditParts.f k a b c D L = some true := by
  have a0 := (wf_u64 hw.1).1
  have b0 := (wf_u64 hw.2.1).1
  have c0 := (wf_u64 hw.2.2.1).1
  have kw := KW_of hw.2.2.2.2
  have h1 : Ev (fun k => edit_Encode.f k a b c D L) (eblt a b c D L) := Enc_ev a b c D L a0 b0 c0 kw
  have h2 : Ev (fun k => edit_Encode.f k a b c [] []) (eblt a b c [] []) := Enc_ev a b c [] [] a0 b0 c0 (fun _ h => by cases h)
  have h3 : Ev (fun k => edit_Encode.f k 0 0 0 D []) (eblt 0 0 0 D []) := Enc_ev 0 0 0 D [] (by decide) (by decide) (by decide) (fun _ h => by cases h)
  have h4 : Ev (fun k => edit_Encode.f k 0 0 0 [] L) (eblt 0 0 0 [] L) := Enc_ev 0 0 0 [] L (by decide) (by decide) (by decide) kw
  have h : Ev (fun k => staddlelaw13_EditParts.f k a b c D L) true := by
    unfold staddlelaw13_EditParts.f
    refine Ev.bind (a := true) (Ev.now _) (Ev.bind h1 (Ev.bind h2 (Ev.bind h3 (Ev.bind h4 ?_))))
    rw [eblt_err a b c D L, eblt_err a b c [] [], eblt_err 0 0 0 D [], eblt_err 0 0 0 [] L]
    by_cases hE : eck a b c D L = 0
    case neg =>
      refine Ev.ifF hE (Ev.ifT rfl ?_)
      by_cases e2 : eck a b c [] [] = 0
      case neg => exact Ev.ifF e2 (Ev.now _)
      refine Ev.ifT e2 ?_
      by_cases e3 : eck 0 0 0 D [] = 0
      case neg => exact Ev.ifF e3 (Ev.now _)
      refine Ev.ifT e3 ?_
      have e4 : eck 0 0 0 [] L ≠ 0 := by
        intro e4
        have z2 := eck_zero e2
        have z3 := eck_zero e3
        have z4 := eck_zero e4
        exact hE (eck_ok z3.1 z4.2.1 z2.2.2.1 z2.2.2.2.1 z2.2.2.2.2.1 z3.2.2.2.2.2.1 z4.2.2.2.2.2.2)
      rw [bne_iff_ne.mpr e4]
      exact Ev.now _
    have z := eck_zero hE
    have e2 : eck a b c [] [] = 0 := eck_head hE
    have e3 : eck 0 0 0 D [] = 0 := eck_ok z.1 (by simp) (by decide) (by decide) (by decide) z.2.2.2.2.2.1 rfl
    have e4 : eck 0 0 0 [] L = 0 := eck_ok (by simp) z.2.1 (by decide) (by decide) (by decide) rfl z.2.2.2.2.2.2
    have l1 : (eblt a b c D L).1 = lay a b c D L := by unfold eblt; rw [if_pos hE]
    have l2 : (eblt a b c [] []).1 = (uv a.toNat ++ (uv b.toNat ++ uv c.toNat)) ++ [0, 0] := by unfold eblt; rw [if_pos e2, lay_head]
    have l3 : (eblt 0 0 0 D []).1 = [0, 0, 0] ++ ((uv D.length ++ dbs D) ++ [0]) := by unfold eblt; rw [if_pos e3, lay_dels]
    have l4 : (eblt 0 0 0 [] L).1 = [0, 0, 0, 0] ++ (uv L.length ++ fbs L) := by unfold eblt; rw [if_pos e4, lay_adds]
    have n2 := lay_len a0 b0 c0 e2
    have n3 := lay_len (a := 0) (b := 0) (c := 0) (by decide) (by decide) (by decide) e3
    have n4 := lay_len (a := 0) (b := 0) (c := 0) (by decide) (by decide) (by decide) e4
    rw [lay_head] at n2
    rw [lay_dels] at n3
    rw [lay_adds] at n4
    rw [l1, l2, l3, l4]
    have pa := uv_pos a.toNat
    have pb := uv_pos b.toNat
    have pc := uv_pos c.toNat
    have pd := uv_pos D.length
    have pl_ := uv_pos L.length
    generalize hX : uv a.toNat ++ (uv b.toNat ++ uv c.toNat) = X at *
    have hXl : 3 ≤ X.length := by rw [← hX]; simp only [List.length_append]; omega
    generalize hY : uv D.length ++ dbs D = Y at *
    have hYl : 1 ≤ Y.length := by rw [← hY]; simp only [List.length_append]; omega
    generalize hZ : uv L.length ++ fbs L = Z at *
    have hZl : 1 ≤ Z.length := by rw [← hZ]; simp only [List.length_append]; omega
    have m2 : (X ++ [0, 0]).length = X.length + 2 := by simp
    have m3 : ([0, 0, 0] ++ (Y ++ [0]) : List Int).length = Y.length + 4 := by simp
    have m4 : ([0, 0, 0, 0] ++ Z : List Int).length = Z.length + 4 := by simp
    rw [m2] at n2
    rw [m3] at n3
    rw [m4] at n4
    rw [m2, m3, m4]
    have w2 : wrap64 (((X.length + 2 : Nat) : Int) - 2) = (X.length : Int) := by rw [w64 (by omega) (by omega)]; omega
    have w3 : wrap64 (((Y.length + 4 : Nat) : Int) - 1) = ((Y.length + 3 : Nat) : Int) := by rw [w64 (by omega) (by omega)]; omega
    rw [w2, w3]
    clear w2 w3
    have t2 : (X ++ [0, 0]).take X.length = X := List.take_left ..
    have t3 : (([0, 0, 0] ++ (Y ++ [0]) : List Int).take (Y.length + 3)).drop 3 = Y := by
      rw [List.drop_take, show Y.length + 3 - 3 = Y.length from by omega]
      exact List.take_left ..
    have t4 : ([0, 0, 0, 0] ++ Z : List Int).drop 4 = Z := rfl
    refine Ev.ifT hE (Ev.ifT e2 (Ev.ifT e3 (Ev.ifT e4 (Ev.ifF (by omega) (Ev.ifF (by omega) (Ev.ifF (by omega) (Ev.ifT rfl (Ev.ifT (by omega) (Ev.ifT (by omega) ?_)))))))))
    rw [Int.toNat_natCast, t2]
    refine Ev.some_ (Ev.ifT (by omega) (Ev.ifT (by omega) ?_))
    rw [Int.toNat_natCast, t3]
    refine Ev.some_ (Ev.ifT (by rw [str_size, str_size]; omega) (Ev.ifT (by omega) ?_))
    rw [t4]
    refine Ev.some_ ?_
    rw [str_app, str_app]
    refine Ev.ifT (by rw [str_size, str_size, List.length_append]; omega) ?_
    have e : lay a b c D L = X ++ Y ++ Z := by rw [← hX, ← hY, ← hZ]; unfold lay; simp
    rw [e, beq_self_eq_true]
    exact Ev.now _
  exact h.rounds
end Go.Proofs.Ythkkbgehmiobaaa.Pure
