/- What wal's Put, and the document's, come to: pieces laid from a place on. -/
import Derived.Test.YtejhmfimfgjmhaaP3
import Derived.Test.YtejhmfimfgjmhaaP7
import Derived.Test.YtejhmfimfgjmhaaQMask
import Derived.Test.YtejhmfimfgjmhaaQFix
namespace Go.Proofs.Ytejhmfimfgjmhaa.Q
open Go.RowKit Go.Proofs.YtejhmfimfgjmhaaW.PrintWords Go.Proofs.YtejhmfimfgjmhaaW.PrintLast Go.Proofs.YtejhmfimfgjmhaaW.PrintMore Go.Proofs.Ytejhmfimfgjmhaa.P Go.Proofs.Ytejhmfimfgjmhaa.M
set_option linter.unusedVariables false

/-! ### a piece -/
def psum (kind : Int) (b : List Int) : Nat := (mask (crc (kind :: b))).toNat
theorem psum_lt (kind : Int) (b : List Int) : psum kind b < 4294967296 := by have := mask_range (crc (kind :: b)); unfold psum; omega
theorem psum_int (kind : Int) (b : List Int) : ((psum kind b : Nat) : Int) = mask (crc (kind :: b)) := by have := mask_range (crc (kind :: b)); unfold psum; omega
theorem sum_eq (kind : Int) (b : List Int) (h0 : 0 ≤ kind) (h1 : kind < 256) (hb : IsB b) (hl : b.length < 140737488355327) : wal_sum.f kind b = some ((psum kind b : Nat) : Int) := by
  unfold wal_sum.f
  rw [Option.bind_some, if_pos (by simp only [List.length_cons, List.length_nil]; omega)]
  have hr := crc_range (kind :: b)
  have e : ([kind] ++ b : List Int) = kind :: b := rfl
  rw [e, Crc_eq (kind :: b) (IsB.cons h0 h1 hb), Option.bind_some, Mask_eq _ hr.1 hr.2, Option.bind_some, psum_int]
def pc (kind : Int) (b : List Int) : List Int := fx 4 (psum kind b) ++ fx 2 b.length ++ [kind] ++ b
theorem pc_length (kind : Int) (b : List Int) : (pc kind b).length = 7 + b.length := by
  unfold pc
  simp only [List.length_append, fx_length, List.length_cons, List.length_nil]
theorem pc_IsB {kind : Int} {b : List Int} (h0 : 0 ≤ kind) (h1 : kind < 256) (hb : IsB b) : IsB (pc kind b) :=
  (((fx_IsB _ _).append (fx_IsB _ _)).append (IsB.cons h0 h1 IsB.nil)).append hb
/-! ### what is laid -/
def pad (a : Nat) : Nat := if 128 - a % 128 < 7 then 128 - a % 128 else 0
theorem at_pad (a : Nat) : wal_at a = a + pad a := by unfold wal_at pad; split <;> rfl
theorem left_pad (a : Nat) : wal_left a = 128 - (a + pad a) % 128 := by unfold wal_left pad; split <;> omega
theorem pad_le (a : Nat) : pad a ≤ 6 := by unfold pad; split <;> omega
theorem pad_mod (a : Nat) : (a + pad a) % 128 ≤ 121 := by unfold pad; split <;> omega
theorem pad_121 (a : Nat) (h : ¬ a % 128 = 121) : (a + pad a) % 128 ≠ 121 := by unfold pad; split <;> omega
theorem left_le (a : Nat) : 7 ≤ wal_left a ∧ wal_left a ≤ 128 := by unfold wal_left; split <;> omega
theorem n_le (a m : Nat) : wal_n a m ≤ m ∧ wal_n a m + 7 ≤ wal_left a := by have := left_le a; unfold wal_n; split <;> omega
theorem n_small (a m : Nat) : wal_n a m ≤ 121 := by have := left_le a; have := n_le a m; omega
theorem n_eq (a m : Nat) : wal_n a m = m ∨ (wal_n a m + 7 = wal_left a ∧ wal_n a m < m) := by have := left_le a; unfold wal_n; split <;> omega
theorem n_mod (a b m : Nat) (h : a % 128 = b % 128) : wal_n a m = wal_n b m := by unfold wal_n wal_left; rw [h]
theorem pad_same (a b : Nat) (h : a % 128 = b % 128) : pad a = pad b := by unfold pad; rw [h]
theorem kind_range (begun : Bool) (n m : Nat) : 1 ≤ wal_kind begun n m ∧ wal_kind begun n m ≤ 4 := by
  unfold wal_kind
  cases begun <;> simp only [Bool.true_eq_false, if_true, if_false] <;> split <;> decide
/-- pieces, from a place on -/
def lay : Nat → Nat → List Int → Bool → List Int
  | 0, _, _, _ => []
  | d + 1, a, r, begun =>
    if begun = true ∧ r.length = 0 then [] else
      List.replicate (pad a) 0 ++ pc (wal_kind begun (wal_n a r.length) r.length) (r.take (wal_n a r.length)) ++ lay d (a + pad a + (7 + wal_n a r.length)) (r.drop (wal_n a r.length)) true
/-- rounds, at the most -/
def mu (a m : Nat) (begun : Bool) : Nat := 2 * m + (if a % 128 = 121 then 1 else 0) + (if begun = true then 0 else 2)
theorem mu_step (a m : Nat) (begun : Bool) (h : ¬ (begun = true ∧ m = 0)) : mu (a + pad a + (7 + wal_n a m)) (m - wal_n a m) true + 1 ≤ mu a m begun ∧ mu (a + pad a + (7 + wal_n a m)) (m - wal_n a m) true + wal_n a m ≤ mu a m begun := by
  have h1 := n_le a m
  have h2 := n_eq a m
  have h3 := left_pad a
  have h4 := pad_mod a
  have hb : begun = false ∨ m ≠ 0 := by
    cases begun
    · exact .inl rfl
    · right; intro e; exact h ⟨rfl, e⟩
  generalize wal_n a m = n at *
  generalize wal_left a = lf at *
  unfold mu
  rw [if_pos rfl]
  by_cases h121 : a % 128 = 121
  · have hp : pad a = 0 := by unfold pad; rw [if_neg (by omega)]
    rw [hp] at *
    rw [if_pos h121]
    cases hb with
    | inl hb => subst hb; simp only [Bool.false_eq_true, if_false]; split <;> omega
    | inr hb => split <;> split <;> omega
  · rw [if_neg h121]
    cases hb with
    | inl hb => subst hb; simp only [Bool.false_eq_true, if_false]; split <;> omega
    | inr hb =>
      have hn : 1 ≤ n := by
        rcases h2 with h2 | h2
        · omega
        · have := pad_121 a h121
          omega
      split <;> split <;> omega
theorem lay_fuel : ∀ (d e a : Nat) (r : List Int) (begun : Bool), mu a r.length begun < d → d ≤ e → lay e a r begun = lay d a r begun
  | 0, _, _, _, _, h, _ => by omega
  | d + 1, 0, _, _, _, _, h => by omega
  | d + 1, e + 1, a, r, begun, h, he => by
    unfold lay
    by_cases hc : begun = true ∧ r.length = 0
    · rw [if_pos hc, if_pos hc]
    · rw [if_neg hc, if_neg hc]
      have hm := (mu_step a r.length begun hc).1
      rw [lay_fuel d e _ (r.drop (wal_n a r.length)) true (by rw [List.length_drop]; omega) (by omega)]
/-- the pieces and their places: what is laid of them -/
theorem pl_ev : ∀ (d a : Nat) (r : List Int) (begun : Bool), IsB r → mu a r.length begun < d → a + 14 * mu a r.length begun < 900000000 →
    ∃ ps, Ev (fun k => wal_pl k a r begun) ps ∧ ∀ (a0 : Nat) (out : List Int), a0 + out.length = a → wal_fin a0 out ps = some (out ++ lay d a r begun)
  | 0, _, _, _, _, h, _ => by omega
  | d + 1, a, r, begun, hb, hd, ha => by
    by_cases hc : begun = true ∧ r.length = 0
    · refine ⟨[], ?_, ?_⟩
      · refine Ev.step (f := fun _ => some []) (fun k => ?_) (Ev.now _)
        unfold wal_pl
        rw [if_pos hc]
      · intro a0 out h0
        unfold lay
        rw [if_pos hc, List.append_nil]
        rfl
    · have hm := mu_step a r.length begun hc
      have hn := n_le a r.length
      have hn2 := n_small a r.length
      have hp := pad_le a
      have hmu : 2 * r.length ≤ mu a r.length begun := by unfold mu; omega
      obtain ⟨ps, h1, h2⟩ := pl_ev d (a + pad a + (7 + wal_n a r.length)) (r.drop (wal_n a r.length)) true (hb.drop _) (by rw [List.length_drop]; omega) (by rw [List.length_drop]; omega)
      have hk := kind_range begun (wal_n a r.length) r.length
      refine ⟨(wal_at a, pc (wal_kind begun (wal_n a r.length) r.length) (r.take (wal_n a r.length))) :: ps, ?_, ?_⟩
      · have hl : (r.take (wal_n a r.length)).length = wal_n a r.length := by rw [List.length_take]; omega
        have hpl := pc_length (wal_kind begun (wal_n a r.length) r.length) (r.take (wal_n a r.length))
        rw [hl] at hpl
        have e3 : wal_at a + (pc (wal_kind begun (wal_n a r.length) r.length) (r.take (wal_n a r.length))).length = a + pad a + (7 + wal_n a r.length) := by rw [at_pad, hpl]
        refine Ev.step (f := fun k => (codec_PutFixed.f k [] ((psum (wal_kind begun (wal_n a r.length) r.length) (r.take (wal_n a r.length)) : Nat) : Int) 4).bind fun p0 => ((codec_PutFixed.f k p0 ((wal_n a r.length : Nat) : Int) 2).bind fun p1 =>
          (if p1.length < 1000 then
            ((wal_pl k (wal_at a + (p1 ++ [wal_kind begun (wal_n a r.length) r.length] ++ r.take (wal_n a r.length)).length) (r.drop (wal_n a r.length)) true).bind fun ps =>
              some ((wal_at a, p1 ++ [wal_kind begun (wal_n a r.length) r.length] ++ r.take (wal_n a r.length)) :: ps))
          else none))) (fun k => ?_) ?_
        · have e1 : IntKind.u64.wrap ((psum (wal_kind begun (wal_n a r.length) r.length) (r.take (wal_n a r.length)) : Nat) : Int) = ((psum (wal_kind begun (wal_n a r.length) r.length) (r.take (wal_n a r.length)) : Nat) : Int) := by
            have := psum_lt (wal_kind begun (wal_n a r.length) r.length) (r.take (wal_n a r.length))
            exact wU64 (by omega) (by omega)
          have e2 : IntKind.u64.wrap ((wal_n a r.length : Nat) : Int) = ((wal_n a r.length : Nat) : Int) := wU64 (by omega) (by omega)
          rw [wal_pl, if_neg hc, if_pos ⟨by omega, by omega⟩, sum_eq _ _ (by omega) (by omega) (hb.take _) (by omega), Option.bind_some, e1, e2]
        · refine Ev.bind (PutFixed_ev _ 4 [] (by omega) (by simp)) (Ev.bind (PutFixed_ev (wal_n a r.length) 2 _ (by omega) (by simp [fx_length])) ?_)
          refine Ev.ifT (by simp [fx_length]) ?_
          have e4 : ([] ++ fx 4 (psum (wal_kind begun (wal_n a r.length) r.length) (r.take (wal_n a r.length))) ++ fx 2 (wal_n a r.length) ++ [wal_kind begun (wal_n a r.length) r.length] ++ r.take (wal_n a r.length)) = pc (wal_kind begun (wal_n a r.length) r.length) (r.take (wal_n a r.length)) := by
            unfold pc
            rw [hl, List.nil_append]
          rw [e4, e3]
          exact Ev.bind h1 (Ev.now _)
      · intro a0 out h0
        have hl : (r.take (wal_n a r.length)).length = wal_n a r.length := by rw [List.length_take]; omega
        have hpl := pc_length (wal_kind begun (wal_n a r.length) r.length) (r.take (wal_n a r.length))
        rw [hl] at hpl
        rw [wal_fin, if_pos ⟨by rw [at_pad]; omega, by rw [at_pad]; omega, by omega⟩]
        have e : wal_at a - a0 - out.length = pad a := by rw [at_pad]; omega
        rw [e, h2 a0 _ (by simp only [List.length_append, List.length_replicate, hpl]; omega), lay, if_neg hc]
        simp only [List.append_assoc]
/-- what is laid of a record -/
def putB (a : Nat) (r : List Int) : List Int := lay (2 * r.length + 4) (a % 128) r false
theorem mu_put (a : Nat) (r : List Int) : mu a r.length false < 2 * r.length + 4 := by unfold mu; simp only [Bool.false_eq_true, if_false]; split <;> omega
theorem Put_ev (a : Int) (r : List Int) (ha : 0 ≤ a) (hb : IsB r) (hl : r.length ≤ 131072) : Ev (fun k => wal_Put.f k a r) (putB a.toNat r, 0) := by
  unfold wal_Put.f
  have e : (Int.tmod a 128).toNat = a.toNat % 128 := by rw [Int.tmod_eq_emod_of_nonneg ha]; omega
  rw [e]
  refine Ev.ifF (by omega) (Ev.ifF (by omega) ?_)
  have hmu := mu_put (a.toNat % 128) r
  obtain ⟨ps, h1, h2⟩ := pl_ev (2 * r.length + 4) (a.toNat % 128) r false hb hmu (by omega)
  refine Ev.bind h1 ?_
  rw [h2 _ [] (by simp), List.nil_append]
  exact Ev.now _
theorem Put_neg (a : Int) (r : List Int) (ha : a < 0) : Ev (fun k => wal_Put.f k a r) ([], 1) := by
  unfold wal_Put.f
  exact Ev.ifT ha (Ev.now _)
theorem Put_long (a : Int) (r : List Int) (ha : 0 ≤ a) (hl : 131072 < r.length) : Ev (fun k => wal_Put.f k a r) ([], 90) := by
  unfold wal_Put.f
  exact Ev.ifF (by omega) (Ev.ifT (by omega) (Ev.now _))
end Go.Proofs.Ytejhmfimfgjmhaa.Q
