-- By this session's wip/hprint.py: the kit's print.py with functions by hand beside it. Not trusted: Lean checks it.
import Derived.Test.YtejhmfimfgjmhaaP0
import Derived.Test.YtejhmfimfgjmhaaP3
import Derived.Test.YtejhmfimfgjmhaaP5
import Derived.Deep.WholeRow
import Derived.LoopIn
import Derived.LoopNIn
import Derived.OneCell
import Derived.OwnWalkIn
import Derived.RangeFuncBound
import Derived.RangeFuncCalls
import Derived.RangeFuncLeaves
import Derived.RangeFuncNested
import Derived.Shelf.Abstract
import Derived.TacticsInMore
import Derived.Test.YtejhmfimfgjmhaaSeqSt
namespace Go.Proofs.Ytejhmfimfgjmhaa.P
open Go.RowKit Go.Proofs.YtejhmfimfgjmhaaW.PrintWords Go.Proofs.YtejhmfimfgjmhaaW.PrintLast Go.Proofs.YtejhmfimfgjmhaaW.PrintMore
attribute [local go_sem] max2_int min2_int max_two min_two max_three min_three max_four min_four   -- for this text's walks alone
set_option linter.unusedVariables false
set_option linter.unusedSimpArgs false

/-! ### wal_Put: function 10 -/
section walPut
attribute [local go_sem] Oper.semAt_some
open Go.Shelf Go.Proofs.Ytejhmfimfgjmhaa.Sq
/-- a piece's kind -/
def wal_kind (begun : Bool) (n m : Nat) : Int := if begun = false then (if n = m then 1 else 2) else (if n = m then 4 else 3)
def wal_at (at_ : Nat) : Nat := if 128 - at_ % 128 < 7 then at_ + (128 - at_ % 128) else at_
def wal_left (at_ : Nat) : Nat := if 128 - at_ % 128 < 7 then 128 else 128 - at_ % 128
def wal_n (at_ m : Nat) : Nat := if m < wal_left at_ - 7 then m else wal_left at_ - 7
/-- a record's pieces, from a place on: where each begins, its bytes -/
def wal_pl : Nat → Nat → List Int → Bool → Option (List (Nat × List Int))
  | 0, _, _, _ => none
  | k + 1, at_, rec, begun =>
    if begun = true ∧ rec.length = 0 then some [] else
    if at_ < 1000000000 ∧ rec.length < 1000000000 then
      ((wal_sum.f (wal_kind begun (wal_n at_ rec.length) rec.length) (rec.take (wal_n at_ rec.length))).bind fun sm =>
        ((codec_PutFixed.f k [] (IntKind.u64.wrap sm) 4).bind fun p0 => ((codec_PutFixed.f k p0 (IntKind.u64.wrap (wal_n at_ rec.length : Int)) 2).bind fun p1 =>
          (if p1.length < 1000 then
            ((wal_pl k (wal_at at_ + (p1 ++ [wal_kind begun (wal_n at_ rec.length) rec.length] ++ rec.take (wal_n at_ rec.length)).length) (rec.drop (wal_n at_ rec.length)) true).bind fun ps =>
              some ((wal_at at_, p1 ++ [wal_kind begun (wal_n at_ rec.length) rec.length] ++ rec.take (wal_n at_ rec.length)) :: ps))
          else none))))
    else none
/-- where the iterator stands: rounds, place, what is left, whether it has begun, the pieces to come -/
structure WSt where
  k : Nat
  a : Nat
  rst : List Int
  beg : Bool
  ps : List (Nat × List Int)
  ok : wal_pl k a rst beg = some ps
theorem WSt.step (s : WSt) : (s.ps = [] ∧ s.beg = true ∧ s.rst.length = 0) ∨
    (¬ (s.beg = true ∧ s.rst.length = 0) ∧ s.a < 1000000000 ∧ s.rst.length < 1000000000 ∧ ∃ (k : Nat) (sm : Int) (p0 p1 : List Int) (s' : WSt), s.k = k + 1 ∧
      wal_sum.f (wal_kind s.beg (wal_n s.a s.rst.length) s.rst.length) (s.rst.take (wal_n s.a s.rst.length)) = some sm ∧ codec_PutFixed.f k [] (IntKind.u64.wrap sm) 4 = some p0 ∧ codec_PutFixed.f k p0 (IntKind.u64.wrap (wal_n s.a s.rst.length : Int)) 2 = some p1 ∧ p1.length < 1000 ∧
      s'.k = k ∧ s'.a = wal_at s.a + (p1 ++ [wal_kind s.beg (wal_n s.a s.rst.length) s.rst.length] ++ s.rst.take (wal_n s.a s.rst.length)).length ∧ s'.rst = s.rst.drop (wal_n s.a s.rst.length) ∧ s'.beg = true ∧
      s.ps = (wal_at s.a, p1 ++ [wal_kind s.beg (wal_n s.a s.rst.length) s.rst.length] ++ s.rst.take (wal_n s.a s.rst.length)) :: s'.ps) := by
  obtain ⟨k, a, rec, beg, ps, ok⟩ := s
  cases k with
  | zero => simp [wal_pl] at ok
  | succ k =>
    have h := ok
    unfold wal_pl at h
    split at h
    · rename_i hc
      cases h
      exact .inl ⟨rfl, hc⟩
    · rename_i hc
      split at h
      · rename_i hb
        obtain ⟨sm, h1, h⟩ := Option.bind_eq_some_iff.mp h
        obtain ⟨p0, h2, h⟩ := Option.bind_eq_some_iff.mp h
        obtain ⟨p1, h3, h⟩ := Option.bind_eq_some_iff.mp h
        split at h
        · rename_i hp
          obtain ⟨ps', h4, h⟩ := Option.bind_eq_some_iff.mp h
          cases h
          exact .inr ⟨hc, hb.1, hb.2, k, sm, p0, p1, ⟨k, _, _, true, ps', h4⟩, rfl, h1, h2, h3, hp, rfl, rfl, rfl, rfl, rfl⟩
        · cases h
      · cases h
/-- a round is handed the first piece to come: its place, and a row of its bytes -/
def wal_Rd (s : WSt) (args : Array Value) (s' : WSt) (W0 W : World) : Prop := ∃ (f : Nat) (p : List Int) (A : Option Addr) (c : Nat), s.ps = (f, p) :: s'.ps ∧ args = #[.int .i64 (f : Int), .slice A p.length c] ∧ p.length ≤ c ∧ (∃ g, A = some ⟨g, 0, none⟩ ∧ W0.heap.size ≤ g ∧ ∃ cs, W.heap[g]? = some (.cells cs 5 (0, 0))) ∧ Kd.C (Kd.int .u8) W A p.length p
def wal_Kp (n₀ ba br : Nat) (W W' : World) : Prop := Below n₀ W W' ∧ W'.heap[ba]? = W.heap[ba]? ∧ W'.heap[br]? = W.heap[br]?
theorem wal_w (n : Nat) (h : n ≤ 9223372036854775807) : wrap64 (n : Int) = (n : Int) := by unfold wrap64; omega
theorem wal_w2 (a b n : Nat) (e : n = a + b) (h : n ≤ 9223372036854775807) : wrap64 ((a : Int) + (b : Int)) = (n : Int) := by subst e; unfold wrap64; omega
theorem wal_w3 (a b n : Nat) (e : n = a + b) : (a : Int) + (b : Int) = (n : Int) := by omega
def wal_T16 : Bool × List (List Nat × List Nat) := (true, [([], []), ([], []), ([1], [1]), ([0, 2], [0, 2]), ([], []), ([], []), ([4, 5], [4, 5]), ([3, 6, 3], [3, 6]), ([7, 7, 0, 1, 2, 3, 4, 5, 6, 7], [0, 7])])
def wal_B16 : List Nat := [0, 0, 2, 7, 0, 0, 48, 127, 255]
theorem wal_tab16 : rtab .any (opsOf Try.f23 16) = wal_T16 := by kernel_rfl
theorem wal_bits16 : waitsOk wal_T16.2 wal_B16 = true := by kernel_rfl
theorem wal_block {e base : Nat} {W : World} {ok : Nat → Prop} {v : Value} {xs : List Int} (h : Kd.R (Kd.int .u8) e W base ok v xs) (hne : xs ≠ []) : ∃ g c cs, v = .slice (some ⟨g, 0, none⟩) xs.length c ∧ base ≤ g ∧ xs.length ≤ c ∧ W.heap[g]? = some (.cells cs e (0, 0)) := by
  obtain ⟨_, inner, ho, _⟩ := h
  rcases ho.2 with ⟨_, h0⟩ | ⟨g, cap, cur, hv, hbg, hg, hc, _⟩
  · exact absurd (List.eq_nil_of_length_eq_zero h0) hne
  · exact ⟨g, cap, cur, hv, hbg, hc, hg⟩
set_option maxRecDepth 100000 in
set_option maxHeartbeats 1000000 in
theorem wal_pieces_calls (at_ : Int) (A : Option Addr) (n c : Nat) (w : World) : Calls Try.prog 16 #[.int .i64 at_, .slice A n c] w fun e w' =>
    e = .returned (.func (.func 23) #[] #[.pointer (some ⟨w.heap.size + 1, 0, none⟩), .pointer (some ⟨w.heap.size, 0, none⟩)]) ∧
    w' = (w.alloc (.cells #[.int .i64 at_] 3)).alloc (.cells #[.slice A n c] 23) := by
  go_enter Try.func16, Try.ntmps16
  go_wp2
  go_ret
  exact ⟨rfl, rfl⟩
set_option maxRecDepth 100000 in
set_option maxHeartbeats 8000000 in
theorem wal_pieces1 (l ba br n₀ : Nat) (w0 : World) (hn₀ : n₀ = w0.heap.size) (A : Option Addr) (c : Nat) (s0 : WSt) (hC : Kd.C (Kd.int .u8) w0 A s0.rst.length s0.rst) (hc : s0.rst.length ≤ c) (hbeg : s0.beg = false)
    (J : WSt → World → Prop) (hJ : ∀ s X Y, J s X → Kept X Y (fun k => k = ba ∨ k = br) → J s Y)
    (hY : ∀ s args s' W0 W1, J s W0 → Kept W0 W1 (fun k => k = ba ∨ k = br) → wal_Rd s args s' W0 W1 → YieldAt Fence.wide 1 Try.prog l args W1 fun e W' => e = .returned (.bool true) ∧ J s' W' ∧ wal_Kp n₀ ba br W1 W')
    (W : World) (hne : ba ≠ br) (hba : n₀ ≤ ba) (hbr : n₀ ≤ br) (hW : Below n₀ w0 W) (hA : W.heap[ba]? = some (.cells #[.int .i64 (s0.a : Int)] 3 (0, 0))) (hR : W.heap[br]? = some (.cells #[.slice A s0.rst.length c] 23 (0, 0))) (h0 : J s0 W) :
    CallsIn Fence.wide 2 Try.prog 23 #[.func (.yield l) #[] #[], .pointer (some ⟨br, 0, none⟩), .pointer (some ⟨ba, 0, none⟩)] W fun e W' => (∃ v, e = .returned v) ∧ (∃ s : WSt, s.ps = [] ∧ J s W') ∧ Below n₀ w0 W' := by
  refine callsIn_of_wp Try.func23 rfl trivial ?_ rfl
  simp only [Try.ntmps23, List.size_toArray, List.length_cons, List.length_nil, Nat.reduceAdd, Nat.reduceSub, Array.replicate_succ, Array.replicate_zero, List.push_toArray, List.append_toArray, List.nil_append, List.cons_append]
  refine wpIn_wide.2 ?_
  go_wp2
  go_loopg [4] s0.k (fun gk v4 wx => ∃ (s : WSt) (A : Option Addr) (c : Nat), s.k = gk ∧ v4 = .bool s.beg ∧ Aside0 (Kd.C (Kd.int .u8) w0 A s.rst.length s.rst) ∧ Aside0 (s.rst.length ≤ c) ∧ Aside0 (Below n₀ w0 wx) ∧
    Aside0 (wx.heap[ba]? = some (.cells #[.int .i64 (s.a : Int)] 3 (0, 0))) ∧ Aside0 (wx.heap[br]? = some (.cells #[.slice A s.rst.length c] 23 (0, 0))) ∧ Aside0 (J s wx))
  case atStart => exact ⟨s0, A, c, rfl, by rw [hbeg], ⟨hC⟩, ⟨hc⟩, ⟨hW⟩, ⟨hA⟩, ⟨hR⟩, ⟨h0⟩⟩
  case round =>
    obtain ⟨s, A1, c1, hk, rfl, HC, HCc, HW, HA, HR, HJ⟩ := hrel
    clear hC hc hA hR h0 hW hbeg
    have cA := cell_of_one HA.out
    have fA := free_of_one HA.out
    have cR := cell_of_one HR.out
    have fR := free_of_one HR.out
    rcases s.step with ⟨hps, hbg, hln⟩ | ⟨hnb, hab, hlb, k, sm, p0, p1, s', hks, hsm, hp0, hp1, hpl, e1, e2, e3, e4, e5⟩
    · rw [hbg]
      have hln' : (s.rst.length : Int) = 0 := by omega
      go_wp2
      go_end0
      exact ⟨⟨_, rfl⟩, ⟨s, hps, HJ.out⟩, HW.out⟩
    · obtain ⟨lf, hlf⟩ : ∃ x, wal_left s.a = x := ⟨_, rfl⟩
      obtain ⟨n, hn⟩ : ∃ x, wal_n s.a s.rst.length = x := ⟨_, rfl⟩
      obtain ⟨a1, ha1⟩ : ∃ x, wal_at s.a = x := ⟨_, rfl⟩
      rw [hn] at hsm hp1 e2 e3 e5
      rw [ha1] at e2 e5
      have hnn : n = (if s.rst.length < lf - 7 then s.rst.length else lf - 7) := by rw [← hn, ← hlf]; rfl
      have hl2 : lf = (if 128 - s.a % 128 < 7 then 128 else 128 - s.a % 128) := by rw [← hlf]; rfl
      have ha2 : a1 = (if 128 - s.a % 128 < 7 then s.a + (128 - s.a % 128) else s.a) := by rw [← ha1]; rfl
      have HA1 := Aside0.mk (show a1 ≤ 1000000200 from by rw [ha2]; split <;> omega)
      clear hlf hn ha1
      have hlf7 : 7 ≤ lf ∧ lf ≤ 128 := by rw [hl2]; split <;> omega
      have hn121 : n ≤ 121 ∧ n ≤ s.rst.length := by rw [hnn]; split <;> omega
      have HN := Aside0.mk (And.intro hlf7 (And.intro hn121 (And.intro hab hlb)))
      obtain ⟨bg, hbg⟩ : ∃ b, s.beg = b := ⟨_, rfl⟩
      rw [hbg] at hnb hsm e2 e5 ⊢
      have HS := Aside0.mk (And.intro hsm (And.intro hp0 (And.intro hp1 (And.intro e1 (And.intro e2 (And.intro e3 (And.intro e4 e5)))))))
      obtain ⟨L7, hL7⟩ : ∃ x : Int, (lf : Int) - 7 = x := ⟨_, rfl⟩
      have hmin : (if L7 < (s.rst.length : Int) then L7 else (s.rst.length : Int)) = (n : Int) := by rw [hnn, ← hL7]; split <;> split <;> omega
      have hw7 : wrap64 ((lf : Int) - 7) = L7 := by rw [← hL7]; unfold wrap64; omega
      have hw7' : IntKind.i64.wrap ((lf : Int) - 7) = L7 := (i64_w _).trans hw7
      clear hL7
      have hc15 : bg = true → decide (0 < (s.rst.length : Int)) = true := fun h => decide_eq_true (by have : s.rst.length ≠ 0 := fun h0 => hnb ⟨h, h0⟩; omega)
      have hc16 : bg = true → decide (0 < s.rst.length) = true := fun h => decide_eq_true (by have : s.rst.length ≠ 0 := fun h0 => hnb ⟨h, h0⟩; omega)
      clear hsm hp0 hp1 e1 e2 e3 e4 e5 hnb hlf7 hn121 hbg hnn
      cases bg
      all_goals first | replace hc15 := hc15 rfl | clear hc15
      all_goals first | replace hc16 := hc16 rfl | clear hc16
      all_goals go_upto_if 20 with fail
      all_goals go_cut [5] (fun v5 wc => v5 = .int .i64 (lf : Int) ∧ Aside0 (Below n₀ w0 wc) ∧ Aside0 (wc.heap[ba]? = some (.cells #[.int .i64 (a1 : Int)] 3 (0, 0))) ∧ Aside0 (wc.heap[br]? = some (.cells #[.slice A1 s.rst.length c1] 23 (0, 0))) ∧ Aside0 (J s wc))
      all_goals first
        | (case first =>
            by_cases h7 : 128 - s.a % 128 < 7
            · have h7b : decide (128 - (s.a : Int) % 128 < 7) = true := decide_eq_true (by omega)
              go_wp2
              go_meet
              case rel =>
                have ea : (s.a : Int) + (128 - (s.a : Int) % 128) = (a1 : Int) := by rw [ha2, if_pos h7]; omega
                rw [ea]
                exact ⟨by rw [hl2, if_pos h7]; rfl, ⟨HW.out.setCell (p := ⟨ba, 0, none⟩) hba _⟩, ⟨one_setCell HA.out⟩, ⟨blk_far HR.out (Ne.symm hne) _⟩, ⟨hJ _ _ _ HJ.out (Kept.setCell (Kept.refl _ _) (.inl (.inl rfl)) _)⟩⟩
            · have h7b : decide (128 - (s.a : Int) % 128 < 7) = false := decide_eq_false (by omega)
              go_wp2
              go_meet
              case rel =>
                have ea : a1 = s.a := by rw [ha2, if_neg h7]
                have el : (128 - (s.a : Int) % 128) = (lf : Int) := by rw [hl2, if_neg h7]; omega
                rw [ea, el]
                exact ⟨rfl, HW, HA, HR, HJ⟩)
        | skip
      all_goals clear cA fA cR fR HW HA HR HJ hl2 ha2
      all_goals obtain ⟨rfl, HW, HA, HR, HJ⟩ := hcut
      all_goals have cA := cell_of_one HA.out
      all_goals have fA := free_of_one HA.out
      all_goals have cR := cell_of_one HR.out
      all_goals have fR := free_of_one HR.out
      all_goals by_cases hnm : n = s.rst.length
      all_goals first | have hnm1 : ((n : Int) == (s.rst.length : Int)) = true := beq_iff_eq.mpr (by omega) | have hnm1 : ((n : Int) == (s.rst.length : Int)) = false := beq_eq_false_iff_ne.mpr (by omega)
      all_goals first | have hnm2 : (n == s.rst.length) = true := beq_iff_eq.mpr hnm | have hnm2 : (n == s.rst.length) = false := beq_eq_false_iff_ne.mpr hnm
      all_goals obtain ⟨hsm, hp0, hp1, e1, e2, e3, e4, e5⟩ := HS.out
      all_goals first | (obtain ⟨κ, hκ⟩ : ∃ x, wal_kind false n s.rst.length = x := ⟨_, rfl⟩; rw [hκ] at hsm e2 e5) | (obtain ⟨κ, hκ⟩ : ∃ x, wal_kind true n s.rst.length = x := ⟨_, rfl⟩; rw [hκ] at hsm e2 e5)
      all_goals simp [wal_kind, hnm] at hκ
      all_goals have HK := Aside0.mk hκ
      all_goals clear hκ
      all_goals clear hnm
      all_goals have HS2 := Aside0.mk (And.intro hsm (And.intro hp0 (And.intro hp1 (And.intro e1 (And.intro e2 (And.intro e3 (And.intro e4 e5)))))))
      all_goals clear hsm hp0 hp1 e1 e2 e3 e4 e5 HS
      all_goals go_upto_region 15 with fail
      all_goals clear hmin hw7 hw7' hnm1 hnm2
      all_goals obtain ⟨hlf7, ⟨hn1, hn2⟩, hab2, hlb2⟩ := HN.out
      all_goals obtain ⟨i5, hi5, _, hs5, _⟩ := info_parts info5
      all_goals obtain ⟨hcT, hAT, hCT⟩ := print_take_of (P := Try.prog) (Value.int .u8) (0 : Int) 23 5 .i64 Try.underlying23 hi5 hs5 A1 c1 s.rst (n : Int) (by omega) (by omega) HCc.out
      all_goals rw [Int.toNat_natCast] at hcT hAT hCT
      all_goals have HRT := Aside0.mk (show Kd.C (Kd.int .u8) w0 A1 (s.rst.take n).length (s.rst.take n) from Kd.C_of_reads (h1 := fun _ => rfl) (hAT _ (Kd.reads_of_C HC.out)))
      all_goals have HCT := Aside0.mk hCT
      all_goals obtain ⟨T, hT⟩ : ∃ x, s.rst.take n = x := ⟨_, rfl⟩
      all_goals rw [hT] at hcT HRT HCT HS2
      all_goals have htl : T.length = n := by rw [← hT, List.length_take]; omega
      all_goals have HT := Aside0.mk (And.intro hT htl)
      all_goals clear hT htl hAT hCT hi5 hs5 hlf7 hn1 hn2 hab2 hlb2
      all_goals go_upto_region 16 with (first
        | (go_at_call 19; with_reducible refine (wal_sum.calls _ A1 c1 T sm _ (Kd.C_below HRT.out (by rw [← hn₀]; exact HW.out)) HCT.out (by have hq := HS2.out.1; rw [← HK.out] at hq; exact hq)).mono ?_; rintro e w2 ⟨rfl, hb2⟩; have HB2 := Aside0.mk hb2; clear hb2)
        | (go_at_call 24; have hq := codec_PutFixed.calls k none 0 [] (IntKind.u64.wrap sm) 4 p0 w2 (Kd.C_nil _ _) (Nat.le_refl _) HS2.out.2.1; rw [List.length_nil] at hq; with_reducible refine hq.mono ?_; clear hq; rintro e w3 ⟨v3, rfl, ho3, hb3⟩; have HO3 := Aside0.mk ho3; have HB3 := Aside0.mk (below_step HB2.out hb3); clear ho3 hb3; obtain ⟨Ao3, co3, eo3⟩ := Kd.R_slice HO3.out; subst eo3)
        | (go_at_call 24; with_reducible refine (codec_PutFixed.calls k Ao3 co3 p0 (IntKind.u64.wrap (n : Int)) 2 p1 _ (Kd.R_reads' HO3.out).2.2 (Kd.R_reads' HO3.out).2.1 HS2.out.2.2.1).mono ?_; rintro e w4 ⟨v4, rfl, ho4, hb4⟩; have HO4 := Aside0.mk ho4; have HB4 := Aside0.mk (below_step HB3.out hb4); have HBw := Aside0.mk hb4; clear ho4 hb4))
      all_goals
        have HBc4 := Aside0.mk (below_step HB3.out HBw.out)
        have hR4 := blk_below HR.out HBc4.out
        clear HB4 HB2 HO3 cA fA cR fR
        refine start_ (n := 9) (S := fun w' => w'.cell? ⟨br, 0, none⟩ = some (.slice A1 s.rst.length c1)) (ds := []) #[false, false, false, false, false, false, false, false, false] (by kernel_rfl) rfl rfl ((blk_cell (blk_drew hR4) 0).trans rfl) (fun hHeld => ?_)
        refine with_tabW wal_tab16 wal_bits16 (fun HT_ HW_ => ?_)
        have HO5 := Aside0.mk (Kd.R_drew HO4.out)
        have HR5 := Aside0.mk (blk_drew hR4)
        have HBw5 := Aside0.mk (below_drew1 HBw.out)
        clear HO4 HBw HBc4 hR4
        generalize w4.drew = w5 at HO5 HR5 HBw5 hHeld ⊢
        refine pure_ (i := 0) (N := some 56) (v := ?_) (a' := ?_) #[true, false, false, false, false, false, false, false, false] rfl rfl (any_of HT_.out (by kernel_rfl)) (fun _ _ _ h => h) (Or.inl ⟨by rfl, ?_⟩) ?_ ?_
        rotate_left
        · intro w'
          go_simp
          with_reducible rfl
        rotate_left
        · simp only [Act.put, List.setIfInBounds_toArray, List.set_cons_zero, List.set_cons_succ, i64_w, i32_w]
          rfl
        refine pure_ (i := 1) (N := some 57) (v := ?_) (a' := ?_) #[true, true, false, false, false, false, false, false, false] rfl rfl (any_of HT_.out (by kernel_rfl)) (fun _ _ _ h => h) (Or.inl ⟨by rfl, ?_⟩) ?_ ?_
        rotate_left
        · intro w'
          go_simp
          with_reducible rfl
        rotate_left
        · simp only [Act.put, List.setIfInBounds_toArray, List.set_cons_zero, List.set_cons_succ, i64_w, i32_w]
          rfl
        refine pure_ (i := 5) (N := some 61) (v := ?_) (a' := ?_) #[true, true, false, false, false, true, false, false, false] rfl rfl (any_of HT_.out (by kernel_rfl)) (fun _ _ _ h => h) (Or.inl ⟨by rfl, ?_⟩) ?_ ?_
        rotate_left
        · intro w'
          go_simp
          with_reducible rfl
        rotate_left
        · simp only [Act.put, List.setIfInBounds_toArray, List.set_cons_zero, List.set_cons_succ, i64_w, i32_w]
          rfl
        refine take_ (i := 4) (N := some 60) (v := ?_) (a' := ?_) #[true, true, false, false, true, true, false, false, false] rfl rfl (take_ofW HT_.out HW_.out (by kernel_rfl)) (fun _ _ _ h => h) (Or.inl ⟨by rfl, ?_⟩) hHeld ?_ ?_
        rotate_left
        · rintro w' s0
          go_simp
          with_reducible rfl
        rotate_left
        · simp only [Act.put, List.setIfInBounds_toArray, List.set_cons_zero, List.set_cons_succ, i64_w, i32_w]
          rfl
        refine pure_ (i := 6) (N := some 62) (v := ?_) (a' := ?_) #[true, true, false, false, true, true, true, false, false] rfl rfl (any_of HT_.out (by kernel_rfl)) (fun _ _ _ h => h) (Or.inl ⟨by rfl, ?_⟩) ?_ ?_
        rotate_left
        · intro w'
          go_simp
          with_reducible rfl
        rotate_left
        · simp only [Act.put, List.setIfInBounds_toArray, List.set_cons_zero, List.set_cons_succ, i64_w, i32_w]
          rfl
        refine one_ (i := 2) (N := some 58) #[true, true, true, false, true, true, true, false, false] rfl rfl (one_of HT_.out (by kernel_rfl)) (by decide) (fun K hK => ?_)
        refine value_ (w1 := ?_) (v := ?_) (by rfl) rfl ?_ ?_
        rotate_left 2
        · go_simp
          constructor
          · rfl
          · rfl
        refine hK.out _ _ ((blk_cell (blk_alloc HR5.out _) 0).trans rfl) (fun hHeld => ?_)
        clear hK K
        refine norm_ (a' := ?_) ?_ ?_
        rotate_left
        · show Act.put _ (some 58) _ = _
          simp only [Act.put, List.setIfInBounds_toArray, List.set_cons_zero, List.set_cons_succ, i64_w, i32_w]
          rfl
        refine one_ (i := 3) (N := some 59) #[true, true, true, true, true, true, true, false, false] rfl rfl (one_of HT_.out (by kernel_rfl)) (by decide) (fun K hK => ?_)
        refine Kd.R_append_step (Kd.int .u8) (w0 := w3) w3.heap.size (by rfl) (.tmp 56) (.tmp 58) 23 5 (.int .u8 0) 1 rfl Try.underlying23 info5 rfl (by decide) (by omega) v4 p1 κ [_] (fun _ => True) (fun _ => False) rfl rfl ?aP (fun _ hk => hk.elim) ?aF ?aO ?aB ?aS ?aL ?_
        (case aP => exact h_cell HK.out.symm)
        (case aB => exact HBw5.out)
        (case aF => exact (fun _ _ => trivial))
        (case aO => exact HO5.out)
        (case aS => exact HBw5.out.size)
        (case aL => have := hpl; omega)
        intro v6 w6 ho hb hg hat
        have HO6 := Aside0.mk ho
        have HBw6 := Aside0.mk hb
        have HR6 := Aside0.mk (blk_grown HR5.out hg (Kd.R_ne HO5.out HR5.out (by decide)))
        clear ho hb hg hat HO5 HR5 HBw5
        obtain ⟨Ao6, co6, eo6⟩ := Kd.R_slice HO6.out
        subst eo6
        refine hK.out _ _ ((blk_cell HR6.out 0).trans rfl) (fun hHeld => ?_)
        clear hK K
        refine norm_ (a' := ?_) ?_ ?_
        rotate_left
        · show Act.put _ (some 59) _ = _
          simp only [Act.put, List.setIfInBounds_toArray, List.set_cons_zero, List.set_cons_succ, i64_w, i32_w]
          rfl
        refine one_ (i := 7) (N := some 63) #[true, true, true, true, true, true, true, true, false] rfl rfl (one_of HT_.out (by kernel_rfl)) (by decide) (fun K hK => ?_)
        have HT6 := Aside0.mk (Kd.C_below HRT.out (show Below w0.heap.size w0 w6 from by have hz := HW.out.size; have hy := HW.out; rw [hn₀] at hy; exact hy.trans ((below_step HB3.out HBw6.out).mono hz)))
        refine Kd.R_append_rows_step (Kd.int .u8) (w0 := w3) w3.heap.size (by rfl) (.tmp 59) (.tmp 62) 23 5 (.int .u8 0) 1 rfl Try.underlying23 info5 rfl (by decide) (by omega) _ (p1 ++ [κ]) T A1 T.length c1 (fun _ => True) (fun _ => False) rfl rfl ?bO ?bR (fun _ _ h => h) (fun _ h => h.elim) ?bF ?bB ?bS ?bL ?_
        (case bO => exact HO6.out)
        (case bR => exact HT6.out)
        (case bF => exact (fun _ _ => trivial))
        (case bB => exact HBw6.out)
        (case bS => exact HBw6.out.size)
        (case bL => have h1 := hpl; have h2 := HT.out.2; have h3 := HN.out.2.1.1; simp only [List.length_append, List.length_cons, List.length_nil]; omega)
        intro v7 w7 ho hb hg hat
        have HO7 := Aside0.mk ho
        have HBw7 := Aside0.mk hb
        have HR7 := Aside0.mk (blk_grown HR6.out hg (Kd.R_ne HO6.out HR6.out (by decide)))
        clear ho hb hg hat HO6 HR6 HBw6 HT6
        refine hK.out _ _ ((blk_cell HR7.out 0).trans rfl) (fun hHeld => ?_)
        clear hK K
        refine norm_ (a' := ?_) ?_ ?_
        rotate_left
        · show Act.put _ (some 63) _ = _
          simp only [Act.put, List.setIfInBounds_toArray, List.set_cons_zero, List.set_cons_succ, i64_w, i32_w]
          rfl
        refine pure_ (i := 8) (N := some 8) (v := ?_) (a' := ?_) #[true, true, true, true, true, true, true, true, true] rfl rfl (any_of HT_.out (by kernel_rfl)) (fun _ _ _ h => h) (Or.inl ⟨by rfl, ?_⟩) ?_ ?_
        rotate_left
        · intro w'
          go_simp
          with_reducible rfl
        rotate_left
        · simp only [Act.put, List.setIfInBounds_toArray, List.set_cons_zero, List.set_cons_succ, i64_w, i32_w]
          rfl
        refine done_ (done_of HT_.out (by kernel_rfl)) ?_
        obtain ⟨hsm, hp0, hp1, e1, e2, e3, e4, e5⟩ := HS2.out
        obtain ⟨p, hp, hO7, f2, f5⟩ : ∃ p : List Int, p.length = p1.length + 1 + T.length ∧ Kd.R (Kd.int .u8) 5 w7 w3.heap.size (fun _ => True) v7 p ∧ s'.a = a1 + p.length ∧ s.ps = (a1, p) :: s'.ps := ⟨_, by simp; omega, HO7.out, e2, e5⟩
        clear e2 e5
        have e2 := f2
        have e5 := f5
        clear f2 f5
        have HBc7 := Aside0.mk (below_step HB3.out HBw7.out)
        obtain ⟨g, cg, cs, hv7, hbg7, hcg, hg7⟩ := wal_block hO7 (fun h0 => by rw [h0] at hp; simp only [List.length_nil] at hp; omega)
        subst hv7
        have hpL : p.length ≤ 1200 ∧ 1 ≤ p.length := by have h1 := hpl; have h2 := HT.out.2; have h3 := HN.out.2.1.1; omega
        have ha1 : a1 ≤ 1000000200 := HA1.out
        have hA7 := blk_below HA.out HBc7.out
        have cA7 := cell_of_one hA7
        obtain ⟨fn, tmps, assign, body, hy, hRn⟩ := hY s _ s' _ w7 HJ.out (Kept.of_below HBc7.out _) ⟨a1, p, some ⟨g, 0, none⟩, cg, e5, rfl, hcg, ⟨g, rfl, Nat.le_trans HB3.out.size hbg7, cs, hg7⟩, (Kd.R_reads' hO7).2.2⟩
        clear HO7 HR7 HBw7 hO7 hsm hp0 hp1 e5 hp
        have HNN := Aside0.mk (And.intro e1 (And.intro e2 (And.intro e3 e4)))
        clear e1 e2 e3 e4
        go_upto_region 17 with fail
        refine (wpIn_wide (n := 2)).1 ?_
        gi_wp2
        refine hRn.mono ?_
        rintro e W8 ⟨rfl, hJ8, hB8, hA8, hR8⟩
        have hA9 : W8.heap[ba]? = some (.cells #[.int .i64 (a1 : Int)] 3 (0, 0)) := hA8.trans hA7
        have hR9 : W8.heap[br]? = some (.cells #[.slice A1 s.rst.length c1] 23 (0, 0)) := hR8.trans (blk_below HR.out HBc7.out)
        clear hA8 hR8 hRn hy
        have HW8 := Aside0.mk (show Below n₀ w0 W8 from (HW.out.trans (HBc7.out.mono (by have := HW.out.size; omega))).trans hB8)
        have HJ8 := Aside0.mk hJ8
        have HA9 := Aside0.mk hA9
        have HR9 := Aside0.mk hR9
        clear hJ8 hB8 hA7 cA7 HBc7 HA HR HJ HW
        have cA9 := cell_of_one hA9
        have fA9 := free_of_one hA9
        have cR9 := cell_of_one hR9
        have fR9 := free_of_one hR9
        clear hA9 hR9
        gi_wp2
        obtain ⟨e1, e2, e3, e4⟩ := HNN.out
        obtain ⟨i5, hi5, _, hs5, _⟩ := info_parts info5
        have hn2 := HN.out.2.1.2
        obtain ⟨A8, hcD, hAD, hCD⟩ := print_drop_of (P := Try.prog) (Value.int .u8) (0 : Int) 23 5 .i64 Try.underlying23 hi5 hs5 A1 c1 s.rst (n : Int) (by omega) (by omega) HCc.out
        rw [Int.toNat_natCast] at hcD hAD hCD
        have HRD := Aside0.mk (show Kd.C (Kd.int .u8) w0 A8 (s.rst.drop n).length (s.rst.drop n) from Kd.C_of_reads (h1 := fun _ => rfl) (hAD _ (Kd.reads_of_C HC.out)))
        obtain ⟨D, hD⟩ : ∃ x, s.rst.drop n = x := ⟨_, rfl⟩
        rw [hD] at hcD HRD hCD e3
        have HCD := Aside0.mk hCD
        have hb9 : s'.a ≤ 9223372036854775807 := by rw [e2]; omega
        have ew : wrap64 ((a1 : Int) + (p.length : Int)) = (s'.a : Int) := wal_w2 _ _ _ e2 hb9
        have ew' : IntKind.i64.wrap ((a1 : Int) + (p.length : Int)) = (s'.a : Int) := (i64_w _).trans ew
        have ew2 : (a1 : Int) + (p.length : Int) = (s'.a : Int) := wal_w3 _ _ _ e2
        have ew3 : wrap64 (s'.a : Int) = (s'.a : Int) := wal_w _ hb9
        have ew3' : IntKind.i64.wrap (s'.a : Int) = (s'.a : Int) := (i64_w _).trans ew3
        have HE := Aside0.mk (And.intro e1 (And.intro e3 e4))
        clear e1 e2 e3 e4 hAD hCD hi5 hs5 hD hn2 hpL ha1 hpl hb9
        have cR10 : (W8.setCell ⟨ba, 0, none⟩ (.int .i64 (s'.a : Int))).cell? ⟨br, 0, none⟩ = some (.slice A1 s.rst.length c1) := cell_of_one (blk_far HR9.out (Ne.symm hne) _)
        have fR10 : (W8.setCell ⟨ba, 0, none⟩ (.int .i64 (s'.a : Int))).frozen? ⟨br, 0, none⟩ = false := free_of_one (blk_far HR9.out (Ne.symm hne) _)
        go_wp2
        obtain ⟨e1, e3, e4⟩ := HE.out
        go_roundg k
        case measure => omega
        case rel =>
          refine ⟨s', A8, c1 - n, e1, by rw [e4], ⟨by rw [e3]; exact HRD.out⟩, ⟨by rw [e3]; exact HCD.out⟩, ⟨(HW8.out.setCell (p := ⟨ba, 0, none⟩) hba _).setCell (p := ⟨br, 0, none⟩) hbr _⟩, ⟨blk_far (one_setCell HA9.out) hne _⟩, ⟨by rw [e3]; exact one_setCell (blk_far HR9.out (Ne.symm hne) _)⟩, ⟨hJ _ _ _ HJ8.out (Kept.setCell (Kept.setCell (Kept.refl _ _) (.inl (.inl rfl)) _) (.inl (.inr rfl)) _)⟩⟩
end walPut
section walPut2
attribute [local go_sem] Oper.semAt_some
open Go.Shelf Go.Proofs.Ytejhmfimfgjmhaa.Sq
/-- what is laid of the pieces, each at its place -/
def wal_fin (a : Nat) : List Int → List (Nat × List Int) → Option (List Int)
  | out, [] => some out
  | out, (f, p) :: ps => if a + out.length ≤ f ∧ f < 2000000000 ∧ p.length < 2000000000 then wal_fin a (out ++ List.replicate (f - a - out.length) 0 ++ p) ps else none
def wal_Put.f (k : Nat) (a0 : Int) (l1 : List Int) : Option (List Int × Int) :=
  if a0 < 0 then some (([] : List Int), 1) else if (l1.length : Int) > 131072 then some (([] : List Int), 90) else (wal_pl k (Int.tmod a0 128).toNat l1 false).bind fun ps => (wal_fin (Int.tmod a0 128).toNat [] ps).bind fun out => some (out, 0)
theorem wal_pl.mono : ∀ k a l b, LeO (wal_pl k a l b) (wal_pl (k + 1) a l b) := by
  intro k
  induction k with
  | zero => intro a l b r h; simp [wal_pl] at h
  | succ k ih =>
    intro a l b r h
    unfold wal_pl at h ⊢
    split at h
    · rename_i hc
      rw [if_pos hc]
      exact h
    · rename_i hc
      rw [if_neg hc]
      split at h
      · rename_i hb
        rw [if_pos hb]
        obtain ⟨sm, h1, h⟩ := Option.bind_eq_some_iff.mp h
        obtain ⟨p0, h2, h⟩ := Option.bind_eq_some_iff.mp h
        obtain ⟨p1, h3, h⟩ := Option.bind_eq_some_iff.mp h
        rw [h1, Option.bind_some, codec_PutFixed.mono _ _ _ _ _ h2, Option.bind_some, codec_PutFixed.mono _ _ _ _ _ h3, Option.bind_some]
        split at h
        · rename_i hp
          rw [if_pos hp]
          obtain ⟨ps', h4, h⟩ := Option.bind_eq_some_iff.mp h
          rw [ih _ _ _ _ h4, Option.bind_some]
          exact h
        · cases h
      · cases h
theorem wal_Put.mono : ∀ a0 a1 k, LeO (wal_Put.f k a0 a1) (wal_Put.f (k + 1) a0 a1) := by
  intro a0 a1 k r h
  unfold wal_Put.f at h ⊢
  split at h
  · rename_i hc; rw [if_pos hc]; exact h
  · rename_i hc
    rw [if_neg hc]
    split at h
    · rename_i hd; rw [if_pos hd]; exact h
    · rename_i hd
      rw [if_neg hd]
      obtain ⟨ps, h1, h⟩ := Option.bind_eq_some_iff.mp h
      rw [wal_pl.mono _ _ _ _ _ h1, Option.bind_some]
      exact h
theorem wal_seq (ba br : Nat) (w0 w : World) (A : Option Addr) (c : Nat) (s0 : WSt) (hC : Kd.C (Kd.int .u8) w0 A s0.rst.length s0.rst) (hc : s0.rst.length ≤ c) (hbeg : s0.beg = false) (hne : ba ≠ br) (hba : w0.heap.size ≤ ba) (hbr : w0.heap.size ≤ br) (hw : Below w0.heap.size w0 w)
    (hA : w.heap[ba]? = some (.cells #[.int .i64 (s0.a : Int)] 3 (0, 0))) (hR : w.heap[br]? = some (.cells #[.slice A s0.rst.length c] 23 (0, 0))) :
    SeqSt Fence.wide 2 Try.prog 23 #[.pointer (some ⟨br, 0, none⟩), .pointer (some ⟨ba, 0, none⟩)] (fun k => k = ba ∨ k = br) wal_Rd (wal_Kp w0.heap.size ba br) s0 (fun s => s.ps = []) w0 w := by
  intro l J W hW hJ hY h0
  refine (wal_pieces1 l ba br w0.heap.size w0 rfl A c s0 hC hc hbeg J hJ hY W hne hba hbr (hw.trans (hW.mono hw.size)) (blk_below hA hW) (blk_below hR hW) h0).mono fun _ _ h => h
/-- a row stays where something that is no cells is turned -/
theorem wal_C_row {W W' : World} {A : Option Addr} {n : Nat} {xs : List Int} {row : Option Nat} (h : Kd.C (Kd.int .u8) W A n xs) (hg : W.grownBy W' row) (hA : ∀ ad, A = some ad → ∃ cs e, W.heap[ad.block]? = some (.cells cs e (0, 0))) (hr : ∀ r, row = some r → ∃ o : Obj, W.heap[r]? = some o ∧ o.isCells = false) : Kd.C (Kd.int .u8) W' A n xs := by
  refine Kd.C_foot_neS (S := fun k => row = some k) (fun h => h) h ?_ W' (Kept.of_grown hg (Kept.refl W _) (fun k hk => .inl hk))
  intro ad ha hn he
  obtain ⟨cs, e, hb⟩ := hA ad ha
  obtain ⟨o, ho, hc⟩ := hr _ he
  rw [hb] at ho
  cases ho
  cases hc
theorem wal_R_row {W W' : World} {e base : Nat} {ok : Nat → Prop} {v : Value} {xs : List Int} {row : Option Nat} (h : Kd.R (Kd.int .u8) e W base ok v xs) (hg : W.grownBy W' row) (hr : ∀ r, row = some r → ∃ o : Obj, W.heap[r]? = some o ∧ o.isCells = false) : Kd.R (Kd.int .u8) e W' base ok v xs := by
  refine Kd.R_grown2 h rfl hg ?_
  intro k hk he
  obtain ⟨o, ho, hc⟩ := hr _ hk
  obtain ⟨_, inner, hown, _⟩ := h
  rcases hown.2 with ⟨rfl, h0⟩ | ⟨g, cap, cur, rfl, _, hg, _⟩
  · cases he
  · cases he
    rw [hg] at ho
    cases ho
    cases hc
end walPut2
section walPut2b
attribute [local go_sem] Oper.semAt_some
/-- append(row, bytes...): what the run hands back -/
theorem wal_rows_run {P : Program} {W : World} (base : Nat) (t ty e : TypeId) (ht : P.underlying t = some (.slice e)) (hinfo : (P.info? e).map (fun i => (i.zero, i.size, i.bytes)) = some (some (.int .u8 0), 1, 1))
    (v : Value) (xs ys : List Int) (ad : Addr) (m c : Nat) (ok : Nat → Prop) (HO : Kd.R (Kd.int .u8) e W base ok v xs) (HR : Kd.C (Kd.int .u8) W (some ad) m ys) (hfresh : ∀ k, W.heap.size ≤ k → ok k)
    (hbase : base ≤ W.heap.size) (hl : xs.length + m ≤ 140737488355328) :
    ∃ v1 w1, (Builtin.append_ #[t, t] ty #[v, .slice (some ad) m c]).run P W = .ok v1 w1 ∧ Kd.R (Kd.int .u8) e w1 base ok v1 (xs ++ ys) ∧ W.grownBy w1 v.ownBlock ∧ (v1.ownBlock = v.ownBlock ∨ ∃ b, v1.ownBlock = some b ∧ W.heap.size ≤ b) := by
  obtain ⟨i0, hi, hzz⟩ := Option.map_eq_some_iff.1 hinfo
  simp only [Prod.mk.injEq] at hzz
  obtain ⟨hz0, hz1, hz2⟩ := hzz
  have hm : ys.length = m := HR.1
  obtain ⟨hok, inner, hown, hr⟩ := HO
  obtain ⟨news, hnr, hnc⟩ := ReadsRow.inner_ HR
  have hnM : Reps ((Kd.int .u8).M W base (fun _ => False)) 1 ys news := hnr.imp_ (fun p c hp => hp)
  have hone : ∀ u ∈ news, u.oneCell' = true := by
    intro u hu
    obtain ⟨q, hq, rfl⟩ := List.mem_iff_getElem.1 hu
    have hl1 := hnM.1
    have hc := hnM.2 q _ (List.getElem?_eq_getElem (show q < ys.length by omega))
    have hc := (Kd.int .u8).K_one ((Kd.int .u8).K_of_M hc)
    refine hc _ ?_
    rw [List.mem_iff_getElem?]
    refine ⟨0, ?_⟩
    rw [List.getElem?_take, if_pos (by decide), List.getElem?_drop, Nat.mul_one, Nat.add_zero, List.getElem?_eq_getElem hq]
  obtain ⟨v1, w1, hrun, h2, hg, _, hat⟩ := run_append_own_at (P := P) W base t ty e i0 (.int .u8 0) 1 1 ht hi hz0 hz1 hz2 rfl (by decide) v xs.length inner hown ad m c news (by rw [hnM.1, hm]) hnc hone (by simp only [maxLen]; omega) (by omega) hbase
  have hat' : v1.ownBlock = v.ownBlock ∨ ∃ b, v1.ownBlock = some b ∧ W.heap.size ≤ b := by
    rcases hat with hat | hat
    · exact .inl hat
    · exact .inr ⟨_, hat, Nat.le_refl _⟩
  refine ⟨v1, w1, hrun, ⟨fun k hk => ?_, inner ++ news, by rw [List.length_append, hm]; exact h2, Kd.reps_append (hr.imp_ (fun _ _ hq => hq)) (hnM.imp_ (fun _ _ hq => hq))⟩, hg, hat'⟩
  rcases hat' with hat | ⟨b, hb, hle⟩
  · exact hok k (hat ▸ hk)
  · rw [hb] at hk
    injection hk with hk
    exact hfresh k (by omega)
theorem wal_app_in {F : Fence} {n : Nat} {P : Program} {w : World} {ops : Array Oper} {rest : List Oper} {o : Oper} {a : Act} {Q : Exit → Act → World → Prop}
    (hg : o.guard = none) (s x : Operand) (t t' : TypeId) (hop : o.op = Op.call { callee := Callee.builtin Builtin.append, args := #[s, x], argTypes := #[t, t'] }) (v u : Value) (hs : a.eval s = v) (hx : a.eval x = u)
    {v1 : Value} {w1 : World} (hrun : (Builtin.append_ #[t, t'] o.type #[v, u]).run P w = .ok v1 w1) (h : wpListIn F n P ops Q rest (a.put o.dst v1) w1) : wpListIn F n P ops Q (o :: rest) a w := by
  refine wpListIn_plain hg fun K hK' => ?_
  unfold Oper.wpIn
  refine ⟨?_, ?_⟩
  · simp [Oper.about, hop, resolve, Target.leads, Sem.run_pure]
  · rw [Oper.semAt_plain F _ _ (by rw [hop]; intro c hc'; cases hc')]
    simp [execOp, hop, resolve, invoke, builtin, hs, hx, hrun, Result.andThen]
    exact hK' _ _ h
theorem wal_own_cells {W : World} {e base : Nat} {ok : Nat → Prop} {v : Value} {xs : List Int} (h : Kd.R (Kd.int .u8) e W base ok v xs) : ∀ (j : Nat) (o : Obj), v.ownBlock = some j → W.heap[j]? = some o → o.isCells = true := by
  intro j o hj ho
  obtain ⟨_, inner, hown, _⟩ := h
  rcases hown.2 with ⟨rfl, h0⟩ | ⟨g, cap, cur, rfl, _, hg, _⟩
  · cases hj
  · cases hj
    rw [hg] at ho
    cases ho
    rfl
theorem wal_D (D : Int) (f a : Nat) (h : (f : Int) - (a : Int) = D) (h1 : f < 2000000000) (h2 : a < 128) : wrap64 D = D := by subst h; unfold wrap64; omega
end walPut2b
section walPut3
attribute [local go_sem] Oper.semAt_some
open Go.Shelf Go.Proofs.Ytejhmfimfgjmhaa.Sq
set_option maxRecDepth 100000 in
set_option maxHeartbeats 2000000 in
theorem wal_Put.calls (k : Nat) (a0 : Int) (A1 : Option Addr) (c1 : Nat) (l1 : List Int) (r1 : List Int) (r2 : Int) (w : World) (hr1 : Kd.C (Kd.int .u8) w A1 l1.length l1) (hc1 : l1.length ≤ c1) (h : wal_Put.f k a0 l1 = some (r1, r2)) :
    Calls Try.prog 10 #[.int .i64 a0, .slice A1 l1.length c1] w fun e w' => ∃ v0_ : Value, e = .returned (.tuple #[v0_, .int .i64 r2]) ∧ Kd.R (Kd.int .u8) 5 w' w.heap.size (fun _ => True) v0_ r1 ∧ Below w.heap.size w w' := by
  have HR1 := Aside0.mk hr1
  have HC1 := Aside0.mk hc1
  clear hr1 hc1
  unfold wal_Put.f at h
  by_cases c3 : a0 < 0
  · rw [if_pos c3] at h
    cases h
    go_enter Try.func10, Try.ntmps10
    go_wp2
    go_ret2
    exact ⟨_, rfl, Kd.R_nil _ _ _ _ _, below_alloc (Below.refl _ _) _⟩
  · rw [if_neg c3] at h
    by_cases c4 : (l1.length : Int) > 131072
    · rw [if_pos c4] at h
      cases h
      go_enter Try.func10, Try.ntmps10
      go_wp2
      go_ret2
      exact ⟨_, rfl, Kd.R_nil _ _ _ _ _, below_alloc (Below.refl _ _) _⟩
    · rw [if_neg c4] at h
      obtain ⟨ps, h1, h⟩ := Option.bind_eq_some_iff.mp h
      obtain ⟨out, h2, h⟩ := Option.bind_eq_some_iff.mp h
      cases h
      have hm : Int.tmod a0 128 = a0 % 128 := Int.tmod_eq_emod_of_nonneg (by omega)
      obtain ⟨a, ha⟩ : ∃ a : Nat, Int.tmod a0 128 = (a : Int) := ⟨(Int.tmod a0 128).toNat, by omega⟩
      have ha2 : a < 128 := by omega
      rw [ha, Int.toNat_natCast] at h1 h2
      clear hm
      have H1 := Aside0.mk h1
      have H2 := Aside0.mk h2
      clear h1 h2
      refine (callsIn_wide (n := 3)).1 ?_
      refine callsIn_of_wp_marks Try.func10 rfl trivial ?_ rfl
      simp only [Try.ntmps10, List.size_toArray, List.length_cons, List.length_nil, Nat.reduceAdd, Nat.reduceSub, Array.replicate_succ, Array.replicate_zero, List.push_toArray, List.append_toArray, List.nil_append, List.cons_append]
      refine wpIn_wide.2 ?_
      go_wp2_with (first
        | (go_at_call 16; refine (wal_pieces_calls _ _ _ _ _).mono ?_; rintro e w2 ⟨rfl, rfl⟩))
      rename_i Q9 K9 hK9
      obtain ⟨W1, hW1⟩ : ∃ W1, (((w.alloc (.cells #[.int .i64 (a : Int)] 3)).alloc (.cells #[.slice none 0 0] 23)).alloc (.cells #[.int .i64 (a : Int)] 3)).alloc (.cells #[.slice A1 l1.length c1] 23) = W1 := ⟨_, rfl⟩
      have hs1 : W1.heap.size = w.heap.size + 4 := by rw [← hW1]; simp
      have g0 : W1.heap[w.heap.size]? = some (.cells #[.int .i64 (a : Int)] 3 (0, 0)) := by rw [← hW1]; exact blk_alloc (blk_alloc (blk_alloc (blk_new w _) _) _) _
      have g1 : W1.heap[w.heap.size + 1]? = some (.cells #[.slice none 0 0] 23 (0, 0)) := by
        rw [← hW1]
        have := blk_new (w.alloc (.cells #[.int .i64 (a : Int)] 3)) (.cells #[.slice none 0 0] 23)
        rw [World.size_alloc] at this
        exact blk_alloc (blk_alloc this _) _
      have g2 : W1.heap[w.heap.size + 1 + 1]? = some (.cells #[.int .i64 (a : Int)] 3 (0, 0)) := by
        rw [← hW1]
        have := blk_new ((w.alloc (.cells #[.int .i64 (a : Int)] 3)).alloc (.cells #[.slice none 0 0] 23)) (.cells #[.int .i64 (a : Int)] 3)
        rw [World.size_alloc, World.size_alloc] at this
        exact blk_alloc this _
      have g3 : W1.heap[w.heap.size + 1 + 1 + 1]? = some (.cells #[.slice A1 l1.length c1] 23 (0, 0)) := by
        rw [← hW1]
        have := blk_new (((w.alloc (.cells #[.int .i64 (a : Int)] 3)).alloc (.cells #[.slice none 0 0] 23)).alloc (.cells #[.int .i64 (a : Int)] 3)) (.cells #[.slice A1 l1.length c1] 23)
        rw [World.size_alloc, World.size_alloc, World.size_alloc] at this
        exact this
      have hb1 : Below w.heap.size w W1 := by rw [← hW1]; exact below_alloc (below_alloc (below_alloc (below_alloc (Below.refl _ _) _) _) _) _
      rw [hW1]
      clear hW1
      refine (wpIn_wide (n := 3)).1 ?_
      obtain ⟨s0, es1, es2, es3, es4⟩ : ∃ s0 : WSt, s0.a = a ∧ s0.rst = l1 ∧ s0.beg = false ∧ s0.ps = ps := ⟨⟨k, a, l1, false, ps, H1.out⟩, rfl, rfl, rfl, rfl⟩
      refine wpIn_rangeFunc_st (σ := WSt) rfl (by decide) (gf := 23) (lb := #[.pointer (some ⟨w.heap.size + 1 + 1 + 1, 0, none⟩), .pointer (some ⟨w.heap.size + 1 + 1, 0, none⟩)]) rfl trivial (enters_of Try.func23 (by kernel_rfl) rfl)
        (wal_seq (w.heap.size + 1 + 1) (w.heap.size + 1 + 1 + 1) w W1 A1 c1 s0 (by rw [es2]; exact HR1.out) (by rw [es2]; exact HC1.out) es3 (by omega) (by omega) (by omega) hb1 (by rw [es1]; exact g2) (by rw [es2]; exact g3)) (by omega) ?kt ?kb (Below.refl _ _) ?ps ?own
        (fun s W => ∃ (v : Value) (out : List Int), W.heap[w.heap.size + 1]? = some (.cells #[v] 23 (0, 0)) ∧ W.heap[w.heap.size]? = some (.cells #[.int .i64 (a : Int)] 3 (0, 0)) ∧
          Kd.R (Kd.int .u8) 5 W w.heap.size (fun k => w.heap.size + 4 ≤ k) v out ∧ wal_fin a out s.ps = some r1 ∧ w.heap.size + 4 ≤ W.heap.size) ?iO ?iK ?i0 ?rO
        (fun args => { tmps := #[.int .i64 a0, .slice A1 l1.length c1, .pointer (some ⟨w.heap.size, 0, none⟩), undef, .slice none 0 0, .int .i64 0, .pointer (some ⟨w.heap.size + 1, 0, none⟩), args[0]!, args[1]!, .bool false,
          .int .i64 a0, .bool false, .bool false, .slice A1 l1.length c1, .int .i64 (l1.length : Int), .bool false, .int .i64 a0, .int .i64 (a : Int), .int .i64 (a : Int), .slice A1 l1.length c1,
          .func (.func 23) #[] #[.pointer (some ⟨w.heap.size + 1 + 1 + 1, 0, none⟩), .pointer (some ⟨w.heap.size + 1 + 1, 0, none⟩)],
          args[0]!, args[1]!, undef, undef, undef, undef, undef, undef, undef, undef, undef, undef, undef, undef], defers := [] }) ?assign ?body ?done
      case kt => exact fun h k => ⟨h.1.trans k.1, k.2.1.trans h.2.1, k.2.2.trans h.2.2⟩
      case kb =>
        intro W l o o' hl hlo ho1 ho2
        exact ⟨⟨rfl, rfl, rfl, by simp, fun k hk => World.putObj_heap_other (by omega)⟩, World.putObj_heap_other (by omega), World.putObj_heap_other (by omega)⟩
      case ps =>
        rintro s args s' W0 W ⟨f, p, A, c, _, rfl, _⟩
        rfl
      case own =>
        rintro k (rfl | rfl) <;> omega
      case iO =>
        rintro s W W' row ⟨v, out, x1, x2, x3, x4, x5⟩ hg hr
        have hr2 : ∀ r, row = some r → ∃ o : Obj, W.heap[r]? = some o ∧ o.isCells = false := fun r e => (hr r e).2
        exact ⟨v, out, blk_grown x1 hg (fun e => by have := (hr _ e.symm).1; omega), blk_grown x2 hg (fun e => by have := (hr _ e.symm).1; omega), wal_R_row x3 hg hr2, x4, Nat.le_trans x5 hg.size⟩
      case iK =>
        rintro s A B ⟨v, out, x1, x2, x3, x4, x5⟩ hk
        exact ⟨v, out, blk_kept x1 hk (by omega), blk_kept x2 hk (by omega), Kd.R_kept x3 hk (fun k hk => by omega), x4, Nat.le_trans x5 hk.1⟩
      case i0 => exact ⟨_, [], g1, g0, Kd.R_nil _ _ _ _ _, by rw [es4]; exact H2.out, by omega⟩
      case rO =>
        rintro s args s' W0 _ W W' row ⟨f, p, A, c, x1, x2, x3, ⟨g, rfl, x7, cs, x4⟩, x6⟩ hg hr
        have hr2 : ∀ r, row = some r → ∃ o : Obj, W.heap[r]? = some o ∧ o.isCells = false := fun r e => (hr r e).2
        refine ⟨f, p, _, c, x1, x2, x3, ⟨g, rfl, x7, cs, blk_grown x4 hg ?_⟩, wal_C_row x6 hg (fun ad ha => by cases ha; exact ⟨cs, _, x4⟩) hr2⟩
        intro e
        obtain ⟨o, ho, hc⟩ := hr2 _ e.symm
        rw [x4] at ho
        cases ho
        cases hc
      case assign =>
        rintro l s args s' W0 W K ⟨f, p, A, c, _, rfl, _⟩ hK
        gi_wp2
        exact hK
      case body =>
        rintro l s args s' W0 W1' W9 ⟨v, out, x1, x2, x3, x4, x5⟩ hk0 ⟨l', o, o', hl', ho', hc', rfl⟩ ⟨f, p, A, c, y1, rfl, y3, ⟨g, rfl, y6, cs, y4⟩, y5⟩
        have gP := grownBy_putObj' W1' l' o'
        have hr2 : ∀ r, some l' = some r → ∃ o : Obj, W1'.heap[r]? = some o ∧ o.isCells = false := fun r e => by cases e; exact ⟨o, ho', hc'⟩
        have hgo : some g ≠ v.ownBlock := by
          have := Kd.R_ne_new x3 (g - W0.heap.size)
          rwa [Nat.add_sub_cancel' y6] at this
        replace x1 := blk_grown (blk_kept x1 hk0 (by omega)) gP (fun e => by cases e; omega)
        replace x2 := blk_grown (blk_kept x2 hk0 (by omega)) gP (fun e => by cases e; omega)
        replace x3 := wal_R_row (Kd.R_kept x3 hk0 (fun k hk => by omega)) gP hr2
        replace x5 := Nat.le_trans x5 (Nat.le_trans hk0.1 gP.size)
        clear hr2 gP hk0 y6
        generalize W1'.putObj l' o' = W at *
        clear ho' hc'
        rw [y1] at x4
        unfold wal_fin at x4
        split at x4
        rotate_left
        · cases x4
        rename_i hcond
        obtain ⟨z1, z2, z3⟩ := hcond
        obtain ⟨Av, cv, ev⟩ := Kd.R_slice x3
        subst ev
        obtain ⟨q, hq⟩ : ∃ q : Nat, f - a - out.length = q := ⟨_, rfl⟩
        rw [hq] at x4
        obtain ⟨D1, hD1⟩ : ∃ D1 : Int, (f : Int) - (a : Int) = D1 := ⟨_, rfl⟩
        have u1 : D1 - (out.length : Int) = (q : Int) := by omega
        obtain ⟨v1, w1, hrun1, o1, gr1, at1⟩ := Kd.R_zeros_run (P := Try.prog) (Kd.int .u8) w.heap.size 23 3 23 5 (.int .u8 0) 1 Try.underlying23 (k := .i64) Try.underlying3 info5 rfl (by decide) (by decide) _ out 0 rfl (fun k hk => by omega) x3 .i64 (q : Int) (by omega) (by omega) (by omega)
        rw [Int.toNat_natCast] at o1
        obtain ⟨Av1, cv1, ev1⟩ := Kd.R_slice o1
        subst ev1
        have ol1 : (out ++ List.replicate q 0).length = out.length + q := by simp
        rw [ol1] at hrun1 o1 at1
        have gx1 := blk_grown x1 gr1 (Kd.R_ne x3 x1 (by decide))
        have gx2 := blk_grown x2 gr1 (Kd.R_ne x3 x2 (by decide))
        have ne1 : ∀ k, some k = (Value.slice Av1 (out.length + q) cv1).ownBlock → k ≠ w.heap.size ∧ k ≠ w.heap.size + 1 := fun k hk => by have := o1.1 k hk.symm; omega
        have hs1w := gr1.size
        have o2 := Kd.R_far o1 (p := ⟨w.heap.size + 1, 0, none⟩) (fun k hk => by show k ≠ w.heap.size + 1; omega) (.slice Av1 (out.length + q) cv1)
        have hg1 : g ≠ w.heap.size + 1 := blk_ne y4 x1 (by decide)
        have c2 : Kd.C (Kd.int .u8) (w1.setCell ⟨w.heap.size + 1, 0, none⟩ (.slice Av1 (out.length + q) cv1)) (some ⟨g, 0, none⟩) p.length p :=
          Kd.C_foot_neS (S := fun k => (Value.slice Av out.length cv).ownBlock = some k ∨ k = w.heap.size + 1) (fun h => h) y5 (fun ad ha _ hs => by cases ha; rcases hs with hs | hs; exact hgo hs.symm; exact hg1 hs) _
            (Kept.setCell (Kept.of_grown gr1 (Kept.refl W _) (fun k hk => .inl (.inl hk))) (.inl (.inr rfl)) _)
        obtain ⟨v2, w2, hrun2, o3, gr2, at2⟩ := wal_rows_run (P := Try.prog) w.heap.size 23 23 5 Try.underlying23 info5 _ (out ++ List.replicate q 0) p ⟨g, 0, none⟩ p.length c _ o2 c2 (fun k hk => by rw [World.size_setCell] at hk; omega) (by rw [World.size_setCell]; omega) (by rw [ol1]; omega)
        obtain ⟨Av2, cv2, ev2⟩ := Kd.R_slice o3
        subst ev2
        have ol2 : (out ++ List.replicate q 0 ++ p).length = out.length + q + p.length := by simp; omega
        rw [ol2] at hrun2 o3 at2
        have cO0 := cell_of_one x1
        have fO0 := free_of_one x1
        have cA0 := cell_of_one x2
        have cO1 := cell_of_one gx1
        have fO1 := free_of_one gx1
        have gx3 := one_setCell (u := .slice Av1 (out.length + q) cv1) gx1
        have cO2 := cell_of_one gx3
        have gx4 := blk_grown gx3 gr2 (fun e => (ne1 _ e).2 rfl)
        have cO3 := cell_of_one gx4
        have fO3 := free_of_one gx4
        have hs2w := gr2.size
        rw [World.size_setCell] at hs2w
        have hq9 : q ≤ 9223372036854775807 := by omega
        have u2 : wrap64 D1 = D1 := wal_D D1 f a hD1 z2 ha2
        have u3 : wrap64 (q : Int) = (q : Int) := wal_w _ hq9
        have u2' : IntKind.i64.wrap D1 = D1 := (i64_w _).trans u2
        have u3' : IntKind.i64.wrap (q : Int) = (q : Int) := (i64_w _).trans u3
        gi_wp2_with (first
          | (gi_at_builtin; refine wal_app_in rfl _ _ _ _ rfl _ _ rfl rfl hrun1 ?_)
          | (gi_at_builtin; refine wal_app_in rfl _ _ _ _ rfl _ _ rfl rfl hrun2 ?_))
        clear u2 u3 u2' u3' hrun1 hrun2
        have kw : KeepsOthers W (w2.setCell ⟨w.heap.size + 1, 0, none⟩ (.slice Av2 (out.length + q + p.length) cv2)) :=
          ((KeepsOthers.of_grownBy gr1 (fun j o hj ho => wal_own_cells x3 j o hj ho)).trans (KeepsOthers.setCell _ _ _)).trans ((KeepsOthers.of_grownBy gr2 (fun j o hj ho => wal_own_cells o2 j o hj ho)).trans (KeepsOthers.setCell _ _ _))
        have bw : Below w.heap.size W (w2.setCell ⟨w.heap.size + 1, 0, none⟩ (.slice Av2 (out.length + q + p.length) cv2)) :=
          ((((Below.refl w.heap.size W).grown gr1 (by omega) (Kd.R_base x3)).setCell (p := ⟨w.heap.size + 1, 0, none⟩) (by show w.heap.size ≤ w.heap.size + 1; omega) _).grown gr2 (by rw [World.size_setCell]; omega) (Kd.R_base o2)).setCell (p := ⟨w.heap.size + 1, 0, none⟩) (by show w.heap.size ≤ w.heap.size + 1; omega) _
        have far : ∀ k, k < w.heap.size + 4 → k ≠ w.heap.size + 1 → (w2.setCell ⟨w.heap.size + 1, 0, none⟩ (.slice Av2 (out.length + q + p.length) cv2)).heap[k]? = W.heap[k]? := by
          intro k hk hk1
          refine (Below.heap_setCell _ _ _ k hk1).trans ((gr2.block k (by rw [World.size_setCell]; omega) ?_).trans ((Below.heap_setCell _ _ _ k hk1).trans (gr1.block k (by omega) ?_)))
          · intro e
            have := o2.1 k e.symm
            omega
          · intro e
            have := x3.1 k e.symm
            omega
        exact ⟨kw, ⟨bw, far _ (by omega) (by omega), far _ (by omega) (by omega)⟩, _, one_setCell gx4, (far _ (by omega) (by omega)).trans x2, _, Kd.R_far o3 (p := ⟨w.heap.size + 1, 0, none⟩) (fun k hk => by show k ≠ w.heap.size + 1; omega) _, x4, by omega⟩
      case done =>
        rintro D s W hD hE ⟨v, out, x1, x2, x3, x4, x5⟩ hB hK
        rw [hE] at x4
        cases x4
        have cO := cell_of_one x1
        refine hK9 _ _ ?_
        go_wp2
        refine ⟨by simp, .inl ⟨_, _, rfl, run_takeDeferred hK, ?_⟩⟩
        refine ⟨.tuple #[v, .int .i64 0], by simp [results, Try.f10, go_sem], ⟨v, rfl, Kd.R_mono (wal_R_row x3 (grownBy_putObj' _ D _) (fun r e => by cases e; exact ⟨_, hK, rfl⟩)) (fun _ _ => trivial), ?_⟩⟩
        exact (ownFrom_below (β := Unit) (Nat.le_refl _) (by omega)).putObj (B := w.heap.size) (s := ()) _ hB (by omega) hK rfl
end walPut3

end Go.Proofs.Ytejhmfimfgjmhaa.P
