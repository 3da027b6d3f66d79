/- What is proved: for all entries, every interval, every cut and all bytes behind staddlelaw11.BlockCuts answers true, where the arguments' bulk is small. -/
import Derived.Test.YtppkpleagnddeaaBC
import Derived.Test.YtppkpleagnddeaaQReads
namespace Go.Proofs.Ytppkpleagnddeaa.Pure
open Go.RowKit Go.Proofs.YtppkpleagnddeaaW.PrintWords Go.Proofs.YtppkpleagnddeaaW.PrintLast Go.Proofs.YtppkpleagnddeaaW.PrintMore Go.Proofs.Ytppkpleagnddeaa.P Go.Proofs.Ytppkpleagnddeaa.M Go.Proofs.Ytppkpleagnddeaa.Q Go.Proofs.Ytppkpleagnddeaa.B

theorem opn_ev (t : List Int) (hb : IsB t) (hl : t.length ≤ 4000000) : ∃ K, ∀ k, K ≤ k → Opn k t := by
  obtain ⟨K1, e1⟩ := open_g_ev t hb hl
  cases h : og t with
  | none =>
    rw [h] at e1
    exact ⟨K1, fun k hk => ⟨none, e1 k hk, by omega, fun x hx => by cases hx⟩⟩
  | some x =>
    rw [h] at e1
    obtain ⟨o1, o2, o3⟩ := og_some h
    obtain ⟨b1, b2, b3⟩ := blt_zero o2
    have hfew := rg_few hb hl o1
    obtain ⟨f1, _, _, _⟩ := rg_facts hb o1
    obtain ⟨iv, hiv⟩ : ∃ iv : Nat, x.2 = (iv : Int) := ⟨x.2.toNat, by omega⟩
    have hlen : x.1.length * 3 ≤ t.length := by
      have := o1
      unfold rg at this
      by_cases h5 : t.length < 5
      · rw [if_pos h5] at this; cases this
      · rw [if_neg h5] at this
        by_cases hm : mk4 t ≤ (t.length - 5) / 4
        · rw [if_pos hm] at this
          obtain ⟨l, hl2, hx⟩ := Option.map_eq_some_iff.1 this
          have h3 := pr_len11 _ _ _ [] l (hb.take _) IsB.nil hl2
          rw [List.length_nil, List.length_take] at h3
          have : x.1 = l := by rw [← hx]
          rw [this]
          omega
        · rw [if_neg hm] at this; cases this
    obtain ⟨K2, e2⟩ := Ev.all (f := fun n k => block_Build.f k x.1 (n : Int)) (r := fun n => blt x.1 (n : Int)) 17 (fun n _ => Build_evg x.1 (n : Int) (by omega) f1)
    refine ⟨K1 + K2, fun k hk => ⟨some x, e1 k (by omega), by omega, fun y hy => ?_⟩⟩
    obtain rfl := Option.some.inj hy
    refine ⟨by omega, iv, by omega, by omega, hiv, fun n h1 h16 => ⟨_, _, e2 k (by omega) n (by omega), fun hn => ?_⟩⟩
    rw [hn, ← hiv]
    refine ⟨o2, ?_⟩
    rw [ByteArray.toList_eq, ByteArray.toList_eq] at o3
    exact ba_ext o3
theorem BlockCutsU (l0 : List S42) (a1 a2 : Int) (more : List Int) (_h0 : l0.length * 48 ≤ 140737488351232) (w0 : ∀ x ∈ l0, (Lit.int .u64 x.f0.f1).wf = true ∧ (Lit.int .i64 x.f0.f2).wf = true ∧ x.f0.f0.size ≤ 9223372036854775807 ∧ x.f1.size ≤ 9223372036854775807) (_w1 : (Lit.int .i64 a1).wf = true) (w2 : (Lit.int .i64 a2).wf = true)
    (h3 : more.length ≤ 1048576) (w3 : ∀ x ∈ more, (Lit.int .u8 x).wf = true) : ∃ k, B.Cuts k l0 a1 a2 more ∧ true = true := by
  have hl := cut_len l0
  have hq : ∀ e ∈ cut l0, 0 ≤ e.f0.f1 := fun e he => (wf_u64 (w0 e (cut_mem he)).1).1
  obtain ⟨ha0, ha1⟩ := wf_i64 w2
  obtain ⟨K1, e1⟩ := Build_ev (cut l0) a1 hl hq
  by_cases hz : (blt (cut l0) a1).2 = 0
  · obtain ⟨b1, b2, b3⟩ := blt_zero hz
    obtain ⟨iv, rfl⟩ : ∃ iv : Nat, a1 = (iv : Int) := ⟨a1.toNat, by omega⟩
    rw [blt_ok (by omega) (by omega) b3] at e1
    obtain ⟨_, lb⟩ := lay_length iv (cut l0) (Fit.of b3 hq) hl
    have hb := lay_IsB iv (by omega) (cut l0)
    have hcv : 0 ≤ cv a2 := by unfold cv; split <;> omega
    have hr0 := Int.tmod_nonneg (((lay iv (cut l0)).length + 1 : Nat) : Int) hcv
    have hr1 := Int.tmod_lt_of_pos (cv a2) (show (0 : Int) < (((lay iv (cut l0)).length + 1 : Nat) : Int) by omega)
    obtain ⟨n, hn⟩ : ∃ n : Nat, Int.tmod (cv a2) (((lay iv (cut l0)).length + 1 : Nat) : Int) = (n : Int) := ⟨_, (Int.toNat_of_nonneg hr0).symm⟩
    obtain ⟨K2, e2⟩ := opn_ev ((lay iv (cut l0)).take n) (hb.take n) (by rw [List.length_take]; omega)
    obtain ⟨K3, e3⟩ := opn_ev (lay iv (cut l0) ++ more) (hb.append (IsB.of_wf w3)) (by rw [List.length_append]; omega)
    refine ⟨K1 + K2 + K3, ⟨ha0, ha1, _, _, e1 _ (by omega), fun _ => ⟨by omega, by omega, n, by omega, hn, e2 _ (by omega), e3 _ (by omega)⟩⟩, rfl⟩
  · exact ⟨K1, ⟨ha0, ha1, _, _, e1 _ (Nat.le_refl _), fun h => absurd h hz⟩, rfl⟩
end Go.Proofs.Ytppkpleagnddeaa.Pure
