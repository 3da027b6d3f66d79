/- bloom's Build: what it comes to. -/
import Derived.Test.YthdemdjobgbpdaaTM
import Derived.Test.YthdemdjobgbpdaaQFlt
namespace Go.Proofs.Ythdemdjobgbpdaa.T
open Go.RowKit Go.Shelf Go.Proofs.YthdemdjobgbpdaaW.PrintWords Go.Proofs.YthdemdjobgbpdaaW.PrintLast Go.Proofs.YthdemdjobgbpdaaW.PrintMore Go.Proofs.Ythdemdjobgbpdaa.P Go.Proofs.Ythdemdjobgbpdaa.Q
attribute [local go_sem] Oper.semAt_some
set_option linter.unusedVariables false
/-- a bit is set -/
def setBit (L : List Int) (x : Int) : List Int := L.set (x / 8).toNat (Go.bits .or .u8 (rdOf 0 L (x / 8)) (2 ^ (x % 8).toNat % 256))
def setBits (h all : Int) (pre : List Nat) (L : List Int) : List Int := pre.foldl (fun L i => setBit L (bitAt h all i)) L
theorem setBits_len (h all : Int) (pre : List Nat) (L : List Int) : (setBits h all pre L).length = L.length := by
  unfold setBits
  induction pre generalizing L with
  | nil => rfl
  | cons a t ih => rw [List.foldl_cons, ih]; unfold setBit; rw [List.length_set]
def rowsB (k : Nat) (all : Int) (probes : Nat) : List ByteArray → List Int → Option (List Int)
  | [], L => some L
  | s :: t, L => (bloom_Hash.f k s).bind fun h => if 0 ≤ h then rowsB k all probes t (setBits h all (List.range probes) L) else none
def bloomB (k : Nat) (keys : List ByteArray) (b : Nat) : Option (List Int × Int) :=
  if okBits b = true then
    if keys.length ≤ 300 then (fIntOf b 4604390187031047700).bind fun p => (fIntOf b (floatOfInt .f64 (keys.length : Int))).bind fun s =>
      if (0 ≤ p ∧ p < 256) ∧ 0 ≤ s ∧ s < 65536 then
        (rowsB k (8 * ((max 64 s + 7) / 8)) (max 1 p).toNat keys (List.replicate ((max 64 s + 7) / 8).toNat 0)).map fun L => (L ++ [max 1 p], 0)
      else none
    else none
  else some ([], 100)
theorem fIntOf_some {b c : Nat} {n : Int} (h : fIntOf b c = some n) : ∃ r, (∀ (t : TypeId) (w : World), Sem.run Try.prog (binOp .mul t (.float .f64 b) (.float .f64 c)) w = .ok (.float .f64 r) w) ∧ (∀ w : World, Sem.run Try.prog (convert 24 3 (.float .f64 r)) w = .ok (.int .i64 n) w) := by
  unfold fIntOf at h
  obtain ⟨r, h1, h2⟩ := Option.bind_eq_some_iff.mp h
  exact ⟨r, fun t w => run_float_arith w .mul t .f64 b c r h1, fun w => run_convert_float_int w _ _ .f64 .i64 r n (by kernel_rfl) (by kernel_rfl) h2⟩
theorem cv_len (n : Nat) (w : World) : Sem.run Try.prog (convert 3 24 (.int .i64 (n : Int))) w = .ok (.float .f64 (floatOfInt .f64 (n : Int))) w := run_convert_int_float w _ _ .i64 .f64 (n : Int) (by kernel_rfl) (by kernel_rfl)
theorem tb_i (i : Nat) (h : i ≤ 300) : wrap64 ((i : Int) + 1) = (i : Int) + 1 := by unfold wrap64; omega
theorem blk_lt2 {w : World} {g : Nat} {o : Obj} (h : w.heap[g]? = some o) : g < w.heap.size := (Array.getElem?_eq_some_iff.1 h).1
theorem mk_row (w : World) (n : Nat) (h : n < 100000) : Sem.run Try.prog (Instr.makeSlice 27 (.int .i64 (n : Int)) (.int .i64 ((n : Int) + 1))) w = .ok (.slice (some ⟨w.heap.size, 0, none⟩) n (n + 1)) (w.alloc (.cells (madeCells #[.int .u8 0] (n + 1)) 5)) := by
  obtain ⟨i5, hi5, hz5, hs5, hb5⟩ := info_parts info5
  have h := run_makeSlice (P := Try.prog) (w := w) 27 5 i5 _ Try.underlying27 hi5 hz5 .i64 .i64 (n : Int) ((n : Int) + 1) (by omega) (by omega) (by rw [hs5]; omega) (by rw [hb5]; omega) (by omega)
  rw [hs5] at h
  have e1 : ((n : Int) + 1).toNat = n + 1 := by omega
  rw [e1, Int.toNat_natCast, Nat.mul_one] at h
  exact h
theorem made_R (w : World) (n : Nat) (h : n < 100000) : Kd.R (Kd.int .u8) 5 (w.alloc (.cells (madeCells #[.int .u8 0] (n + 1)) 5)) w.heap.size (fun _ => True) (.slice (some ⟨w.heap.size, 0, none⟩) (List.replicate n (0 : Int)).length (n + 1)) (List.replicate n 0) := by
  refine Kd.R_of_own ?_ (fun _ _ => trivial)
  rw [List.length_replicate]
  refine ⟨by simp [encs], .inr ⟨w.heap.size, n + 1, _, rfl, Nat.le_refl _, blk_new w _, by omega, by simp [maxLen]; omega, by simp [size_madeCells], ?_⟩⟩
  simp [madeCells, encs]
  apply List.ext_getElem
  · simp
  · intro i h1 h2
    simp [Nat.mod_one]
theorem sz_w (s : Int) (h0 : 0 ≤ s) (h1 : s < 65536) : ∃ (n : Nat) (m : Int), (max 64 s + 7) / 8 = (n : Int) ∧ n < 100000 ∧ 0 < n ∧ (if 64 < s then s else 64) = m ∧ wrap64 (m + 7) = m + 7 ∧ (m + 7).tdiv 8 = (n : Int) ∧ wrap64 (n : Int) = (n : Int) := by
  refine ⟨((max 64 s + 7) / 8).toNat, max 64 s, by omega, by omega, by omega, by split <;> omega, by unfold wrap64; omega, ?_, by unfold wrap64; omega⟩
  rw [Int.tdiv_eq_ediv_of_nonneg (by omega)]
  omega
/-- the marks that ranges over functions leave -/
def Marks (B : Nat) (w : World) (Ds : List Nat) : Prop := Ds.Nodup ∧ ∀ D ∈ Ds, (B ≤ D ∧ D < w.heap.size) ∧ w.heap[D]? = some (.deferred (some []))
def markOf (D : Nat) : Deferred := { target := .collected D, args := #[] }
theorem Marks.keep {B : Nat} {w w1 : World} {Ds : List Nat} (h : Marks B w Ds) (hs : w.heap.size ≤ w1.heap.size) (hm : ∀ D ∈ Ds, B ≤ D → D < w.heap.size → w1.heap[D]? = w.heap[D]?) : Marks B w1 Ds :=
  ⟨h.1, fun D hD => ⟨⟨(h.2 D hD).1.1, Nat.lt_of_lt_of_le (h.2 D hD).1.2 hs⟩, (hm D hD (h.2 D hD).1.1 (h.2 D hD).1.2).trans (h.2 D hD).2⟩⟩
theorem R_turn {W W' : World} {B e base : Nat} {ok : Nat → Prop} {v : Value} {xs : List Int} {row : Option Nat} (h : Kd.R (Kd.int .u8) e W base ok v xs) (hg : W.grownBy W' row) (hr : ∀ r, row = some r → B ≤ r ∧ ∃ o : Obj, W.heap[r]? = some o ∧ o.isCells = false) : Kd.R (Kd.int .u8) e W' base ok v xs :=
  Kd.R_mono (Kd.R_grown (Kd.R_bound h) hg (fun k hk he => by
    obtain ⟨_, _, _, q, hq, cells, hc⟩ := hk
    obtain ⟨_, o, ho, hi⟩ := hr k he.symm
    rw [hc] at ho
    injection ho with ho
    subst ho
    cases hi)) (fun _ hk => hk.1)
theorem leaves_marks {F : Fence} {n : Nat} {P : Program} {fn : Func} {tmps : Array Value} {R : Ending → World → Prop} {u : FrameMode} (hu : u ≠ .run) : ∀ (Ds : List Nat) (B : Nat) (w : World), Marks B w Ds →
    (∀ w' : World, Below B w w' → (∀ k : Nat, (∀ x : Option (List Deferred), w.heap[k]? ≠ some (Obj.deferred x)) → w'.heap[k]? = w.heap[k]?) → LeavesInM F n P fn tmps R [] u w') → LeavesInM F n P fn tmps R (Ds.map markOf) u w
  | [], B, w, _, h => h w (Below.refl _ _) (fun _ _ => rfl)
  | D :: Ds, B, w, hm, h => by
    obtain ⟨⟨hB, hlt⟩, hD⟩ := hm.2 D List.mem_cons_self
    refine ⟨hu, .inl ⟨D, _, rfl, run_takeDeferred hD, ?_⟩⟩
    have hne : ∀ k, k ≠ D → (w.putObj D (.deferred none)).heap[k]? = w.heap[k]? := fun k hk => World.putObj_heap_other hk
    refine leaves_marks hu Ds B _ ⟨(List.nodup_cons.1 hm.1).2, fun D' hD' => ?_⟩ ?_
    · have hn : D' ≠ D := fun e => (List.nodup_cons.1 hm.1).1 (e ▸ hD')
      obtain ⟨⟨h1, h2⟩, h3⟩ := hm.2 D' (List.mem_cons_of_mem _ hD')
      exact ⟨⟨h1, Nat.lt_of_lt_of_le h2 (grownBy_putObj' w D (.deferred none)).size⟩, (hne D' hn).trans h3⟩
    · intro w' hb hk
      refine h w' (((Below.refl B w).grown (grownBy_putObj' w D (.deferred none)) (by omega) (fun k e => by cases e; exact hB)).trans hb) (fun k hk2 => ?_)
      have hkD : k ≠ D := fun e => hk2 _ (e ▸ hD)
      exact (hk k (fun x => by rw [hne k hkD]; exact hk2 x)).trans (hne k hkD)
set_option maxRecDepth 100000 in
set_option maxHeartbeats 4000000 in
theorem build_calls (k : Nat) (A0 : Option Addr) (c0 : Nat) (keys : List ByteArray) (b : Nat) (r : List Int × Int) (w : World) (hr0 : Kd.C Kd.string w A0 keys.length keys) (hc0 : keys.length ≤ c0) (hf : bloomB k keys b = some r) :
    Calls Try.prog 18 #[.slice A0 keys.length c0, .float .f64 b] w fun e w' => ∃ v, e = .returned (.tuple #[v, .int .i64 r.2]) ∧ Kd.R (Kd.int .u8) 5 w' w.heap.size (fun _ => True) v r.1 ∧ Below w.heap.size w w' := by
  have HR0 := Aside0.mk hr0
  have HC0 := Aside0.mk hc0
  clear hr0 hc0
  unfold bloomB at hf
  by_cases hok : okBits b = true
  case neg =>
    rw [if_neg hok] at hf
    injection hf with hf
    subst hf
    unfold okBits at hok
    by_cases hg : (FloatKind.f64.format.order b 0 == some .gt) = true
    · rw [hg, Bool.true_and] at hok
      have hl : (FloatKind.f64.format.order b 4632233691727265792 == some .lt || FloatKind.f64.format.order b 4632233691727265792 == some .eq) = false := by simpa using hok
      clear hok
      go_enter Try.func18, Try.ntmps18
      go_wp2
      go_ret2
      exact ⟨_, rfl, Kd.R_nil _ _ _ _ _, Below.refl _ _⟩
    · have hg : (FloatKind.f64.format.order b 0 == some .gt) = false := by simpa using hg
      clear hok
      go_enter Try.func18, Try.ntmps18
      go_wp2
      go_ret2
      exact ⟨_, rfl, Kd.R_nil _ _ _ _ _, Below.refl _ _⟩
  case pos =>
  rw [if_pos hok] at hf
  unfold okBits at hok
  rw [Bool.and_eq_true] at hok
  obtain ⟨hg, hl⟩ := hok
  split at hf
  case isFalse => cases hf
  rename_i hk300
  obtain ⟨p, hp, hf⟩ := Option.bind_eq_some_iff.mp hf
  obtain ⟨s, hs, hf⟩ := Option.bind_eq_some_iff.mp hf
  split at hf
  case isFalse => cases hf
  rename_i hb
  obtain ⟨⟨hp0, hp1⟩, hs0, hs1⟩ := hb
  obtain ⟨L, hL, hf⟩ := Option.map_eq_some_iff.1 hf
  subst hf
  rename_i hfa hfb
  clear hfa hfb
  obtain ⟨r1, h1, h2⟩ := fIntOf_some hp
  obtain ⟨r2, h3, h4⟩ := fIntOf_some hs
  obtain ⟨n, m, hn1, hn2, hn3, hn4, hn5, hn6, hn7⟩ := sz_w s hs0 hs1
  rw [hn1, Int.toNat_natCast] at hL
  obtain ⟨pr, hpr⟩ := Int.eq_ofNat_of_zero_le (show 0 ≤ max 1 p by omega)
  rw [hpr] at hL
  rw [Int.toNat_natCast] at hL
  have hpr2 : pr < 256 ∧ 0 < pr := by clear hn4 hn5 hn6 hn7; omega
  have hm1 : (if 1 < p then p else 1) = (pr : Int) := by clear hn4 hn5 hn6 hn7; split <;> omega
  rw [hpr]
  have h5 := mk_row (n := n) (h := hn2)
  have h7 := cv_len keys.length
  have h8 : Sem.run Try.prog (binOp .mul 24 (.float .f64 b) (.float .f64 (floatOfInt .f64 (keys.length : Int)))) w = .ok (.float .f64 r2) w := h3 _ _
  obtain ⟨fb, hfb⟩ : ∃ x, floatOfInt .f64 (keys.length : Int) = x := ⟨_, rfl⟩
  rw [hfb] at h7 h8 h3
  clear h8 hfb
  have h6 : wrap64 ((n : Int) + 1) = (n : Int) + 1 := by clear hn4 hn5 hn6 hn7; unfold wrap64; omega
  have HN := Aside0.mk hn2
  have HN3 := Aside0.mk hn3
  have HPR := Aside0.mk hpr2
  have HK3 := Aside0.mk hk300
  have HL := Aside0.mk hL
  clear hp hs hn1 hp0 hp1 hs0 hs1 hn2 hn3 hpr2 hk300 hL hf hpr
  refine (callsIn_wide (n := 3)).1 ?_
  refine callsIn_of_wp_marks Try.func18 rfl trivial ?_ rfl
  simp only [Try.ntmps18, List.size_toArray, List.length_cons, List.length_nil, Nat.reduceAdd, Nat.reduceSub, Array.replicate_succ, Array.replicate_zero, List.push_toArray, List.append_toArray, List.nil_append, List.cons_append]
  refine wpIn_wide.2 ?_
  go_wp2
  simp only [hn5, hn7, h6]
  obtain ⟨W, hW⟩ : ∃ W, (w.alloc (.cells (madeCells #[.int .u8 0] (n + 1)) 5)).alloc (.cells #[.slice (some ⟨w.heap.size, 0, none⟩) n (n + 1)] 27) = W := ⟨_, rfl⟩
  have HO := Aside0.mk (Kd.R_alloc (made_R w n HN.out) (.cells #[.slice (some ⟨w.heap.size, 0, none⟩) n (n + 1)] 27))
  have HX : Aside0 (W.heap[w.heap.size + 1]? = some (.cells #[.slice (some ⟨w.heap.size, 0, none⟩) n (n + 1)] 27 (0, 0))) := ⟨by
    rw [← hW]
    have := blk_new (w.alloc (.cells (madeCells #[.int .u8 0] (n + 1)) 5)) (.cells #[.slice (some ⟨w.heap.size, 0, none⟩) n (n + 1)] 27)
    rwa [World.size_alloc] at this⟩
  have HB : Aside0 (Below w.heap.size w W) := ⟨by rw [← hW]; exact below_alloc (below_alloc (Below.refl _ _) _) _⟩
  have HS : Aside0 (W.heap.size = w.heap.size + 2) := ⟨by rw [← hW]; simp⟩
  rw [hW] at HO ⊢
  clear hW h1 h2 h3 h4 h5 hn4 hn5 hn6 hn7 h6 h7 hm1 hg hl
  refine (wpIn_wide (n := 3)).1 ?_
  refine wpIn_loop (fun a' w' => ∃ (i : Nat) (L1 : List Int) (Ds : List Nat) (u10 u39 u40 u41 u42 u43 u44 u45 u46 u47 u59 : Value), Aside0 (i ≤ keys.length) ∧ Aside0 (rowsB k (8 * (n : Int)) pr (keys.drop i) L1 = some L) ∧ Aside0 (L1.length = n) ∧ Aside0 (Marks (w.heap.size + 2) w' Ds) ∧
      Aside0 (Kd.R (Kd.int .u8) 5 w' w.heap.size (fun _ => True) (.slice (some ⟨w.heap.size, 0, none⟩) L1.length (n + 1)) L1) ∧ Aside0 (w'.heap[w.heap.size + 1]? = some (.cells #[.slice (some ⟨w.heap.size, 0, none⟩) n (n + 1)] 27 (0, 0))) ∧ Aside0 (Below w.heap.size w w') ∧
      a' = { tmps := #[Value.slice A0 keys.length c0, Value.float FloatKind.f64 b, undef, undef, Value.slice none 0 0, Value.int IntKind.i64 0, Value.int IntKind.i64 (pr : Int), Value.int IntKind.i64 (n : Int), Value.pointer (some ⟨w.heap.size + 1, 0, none⟩), undef, u10, undef, Value.float FloatKind.f64 b, Value.bool true, Value.bool true, Value.float FloatKind.f64 b, Value.bool true, Value.bool true, Value.bool false, Value.float FloatKind.f64 b, Value.float FloatKind.f64 r1, Value.int IntKind.i64 p, Value.int IntKind.i64 (pr : Int), Value.float FloatKind.f64 b, Value.slice A0 keys.length c0, Value.int IntKind.i64 (keys.length : Int), Value.float FloatKind.f64 fb, Value.float FloatKind.f64 r2, Value.int IntKind.i64 s, Value.int IntKind.i64 m, Value.int IntKind.i64 (m + 7), Value.int IntKind.i64 (n : Int), Value.int IntKind.i64 (n : Int), Value.int IntKind.i64 (n : Int), Value.int IntKind.i64 ((n : Int) + 1), Value.slice (some ⟨w.heap.size, 0, none⟩) n (n + 1), Value.slice A0 keys.length c0, Value.int IntKind.i64 (keys.length : Int), Value.int IntKind.i64 (i : Int), u39, u40, u41, u42, u43, u44, u45, u46, u47, undef, undef, undef, undef, undef, undef, undef, undef, undef, undef, undef, u59, undef, undef, undef, undef, undef], defers := Ds.map markOf }) (fun a' _ => keys.length - (intOf (a'.tmps.getD 38 undef)).toNat) ?start ?round
  case start => exact ⟨0, List.replicate n 0, [], _, _, _, _, _, _, _, _, _, _, _, ⟨Nat.zero_le _⟩, HL, ⟨List.length_replicate ..⟩, ⟨List.nodup_nil, fun D hD => by cases hD⟩, HO, HX, HB, rfl⟩
  case round =>
    rintro a wr ⟨i, L1, Ds, u10, u39, u40, u41, u42, u43, u44, u45, u46, u47, u59, HI, HL1, HLn, HM, HO1, HX1, HB1, rfl⟩
    clear HO HX HB HL
    refine wpIn_wide.2 ?_
    by_cases c : i < keys.length
    · have c1 : decide ((i : Int) < (keys.length : Int)) = true := decide_eq_true (by omega)
      have c2 := eq_true (show (i : Int) < (keys.length : Int) by omega)
      have c3 := eq_true (show (0 : Int) ≤ (i : Int) by omega)
      obtain ⟨ad, eA, hc⟩ := Kd.at_string (Kd.C_below HR0.out HB1.out) (i : Int) (by omega) (by omega)
      subst eA
      rw [Int.toNat_natCast] at hc
      obtain ⟨ks, hks⟩ : ∃ x, rdOf ByteArray.empty keys (i : Int) = x := ⟨_, rfl⟩
      rw [hks] at hc
      have hdrop : keys.drop i = ks :: keys.drop (i + 1) := by
        rw [List.drop_eq_getElem_cons c, ← hks]
        simp [rdOf, c]
      have HD := Aside0.mk hdrop
      clear hdrop c hks
      have hw2 := tm_w3 n (by have := HN.out; omega)
      have hw3 := tm_w4 n (by clear hw2; have := HN.out; omega)
      go_wp2_with (first
        | (go_at_call 44; refine (probed_calls ks (8 * (n : Int)) (pr : Int) _).mono ?_; rintro e w2 ⟨rfl, rfl⟩))
      obtain ⟨W0, hW0⟩ : ∃ W0, ((wr.alloc (.cells #[.string ks] 9)).alloc (.cells #[.int .u64 (8 * (n : Int))] 33)).alloc (.cells #[.int .i64 (pr : Int)] 3) = W0 := ⟨_, rfl⟩
      have hs0 : W0.heap.size = wr.heap.size + 1 + 1 + 1 := by rw [← hW0]; simp
      have hK0 : W0.heap[wr.heap.size]? = some (.cells #[.string ks] 9 (0, 0)) := by
        rw [← hW0]
        exact blk_alloc (blk_alloc (blk_new wr _) _) _
      have hA0 : W0.heap[wr.heap.size + 1]? = some (.cells #[.int .u64 (8 * (n : Int))] 33 (0, 0)) := by
        rw [← hW0]
        have := blk_new (wr.alloc (.cells #[.string ks] 9)) (.cells #[.int .u64 (8 * (n : Int))] 33)
        rw [World.size_alloc] at this
        exact blk_alloc this _
      have hP0 : W0.heap[wr.heap.size + 1 + 1]? = some (.cells #[.int .i64 (pr : Int)] 3 (0, 0)) := by
        rw [← hW0]
        have := blk_new ((wr.alloc (.cells #[.string ks] 9)).alloc (.cells #[.int .u64 (8 * (n : Int))] 33)) (.cells #[.int .i64 (pr : Int)] 3)
        rwa [World.size_alloc, World.size_alloc] at this
      have hb0 : Below wr.heap.size wr W0 := by rw [← hW0]; exact below_alloc (below_alloc (below_alloc (Below.refl _ _) _) _) _
      rw [hW0]
      have HX0 := blk_below HX1.out hb0
      have HO0 := Kd.R_below HO1.out hb0
      have HB0 := below_step HB1.out hb0
      have HM0 : Marks (w.heap.size + 2) W0 Ds := HM.out.keep hb0.size (fun D _ _ hD => hb0.block D hD)
      have HMlt : ∀ D ∈ Ds, D < wr.heap.size := fun D hD => (HM.out.2 D hD).1.2
      have hws : w.heap.size + 2 ≤ wr.heap.size := by have := blk_lt HX1.out; omega
      have h8 : (8 * ((n : Nat) : Int)) < 18446744073709551616 ∧ 0 < 8 * (n : Int) := by clear hw2 hw3; have := HN.out; have := HN3.out; omega
      have HLx := HL1.out
      rw [HD.out] at HLx
      unfold rowsB at HLx
      obtain ⟨h, hh, HLx⟩ := Option.bind_eq_some_iff.mp HLx
      split at HLx
      case isFalse => cases HLx
      rename_i hh0
      have HL2 := Aside0.mk HLx
      clear HLx hW0 hw2 hw3 hc c1 c2 c3 HX1 HO1 HL1 HM hb0
      refine (wpIn_wide (n := 3)).1 ?_
      refine wpIn_rangeFunc_ownF rfl (by decide) (gf := 63) (lb := #[.pointer (some ⟨wr.heap.size, 0, none⟩), .pointer (some ⟨wr.heap.size + 1 + 1, 0, none⟩), .pointer (some ⟨wr.heap.size + 1, 0, none⟩)]) rfl trivial (enters_of Try.func63 (by kernel_rfl) rfl)
        (probed_stopsB W0.heap.size _ _ _ ks (8 * (n : Int)) h pr h8.2 h8.1 (by have := HPR.out; omega) k hh hh0 W0 (by omega) (by omega) (by omega) (Nat.le_refl _) ((blk_cell hK0 0).trans rfl) ((blk_cell hP0 0).trans rfl) ((blk_cell hA0 0).trans rfl)) keepB_t (keepB_b (by omega)) (Below.refl _ _) (fun _ => rfl)
        (fun pre W2 => ((Kd.R (Kd.int .u8) 5 W2 w.heap.size (fun _ => True) (.slice (some ⟨w.heap.size, 0, none⟩) (setBits h (8 * (n : Int)) (pre.map (·.1)) L1).length (n + 1)) (setBits h (8 * (n : Int)) (pre.map (·.1)) L1) ∧ W2.heap[w.heap.size + 1]? = some (.cells #[.slice (some ⟨w.heap.size, 0, none⟩) n (n + 1)] 27 (0, 0))) ∧ Marks (w.heap.size + 2) W2 Ds) ∧ Below w.heap.size w W2)
        (fun c pre W2 => False ∧ Below w.heap.size w W2)
        (OwnFrom.and (fun s A B row hs hg hr => ⟨⟨R_turn hs.1.1 hg hr, (hg.block _ (blk_lt hs.1.2) (fun e => by have := (hr _ e.symm).1; omega)).trans hs.1.2⟩, hs.2.keep hg.size (fun D hDs _ hD => hg.block D hD (fun e => by have := (hr D e.symm).1; have := HMlt D hDs; omega))⟩) (ownFrom_below (Nat.le_refl _) (by omega)))
        (fun c => OwnFrom.and (fun s A B row hs hg hr => hs) (ownFrom_below (Nat.le_refl _) (by omega)))
        ⟨⟨⟨HO0, HX0⟩, HM0⟩, HB0⟩
        (fun x => { tmps := #[Value.slice (some ad) keys.length c0, Value.float FloatKind.f64 b, undef, undef, Value.slice none 0 0, Value.int IntKind.i64 0, Value.int IntKind.i64 (pr : Int), Value.int IntKind.i64 (n : Int), Value.pointer (some ⟨w.heap.size + 1, 0, none⟩), undef, Value.string ks, .int .u64 (bitAt h (8 * (n : Int)) x.1), Value.float FloatKind.f64 b, Value.bool true, Value.bool true, Value.float FloatKind.f64 b, Value.bool true, Value.bool true, Value.bool false, Value.float FloatKind.f64 b, Value.float FloatKind.f64 r1, Value.int IntKind.i64 p, Value.int IntKind.i64 (pr : Int), Value.float FloatKind.f64 b, Value.slice (some ad) keys.length c0, Value.int IntKind.i64 (keys.length : Int), Value.float FloatKind.f64 fb, Value.float FloatKind.f64 r2, Value.int IntKind.i64 s, Value.int IntKind.i64 m, Value.int IntKind.i64 (m + 7), Value.int IntKind.i64 (n : Int), Value.int IntKind.i64 (n : Int), Value.int IntKind.i64 (n : Int), Value.int IntKind.i64 ((n : Int) + 1), Value.slice (some ⟨w.heap.size, 0, none⟩) n (n + 1), Value.slice (some ad) keys.length c0, Value.int IntKind.i64 (keys.length : Int), Value.int IntKind.i64 (i : Int), Value.bool true, Value.pointer (some (ad.add i)), Value.string ks, Value.string ks, Value.int .i64 (n : Int), Value.int .u64 (n : Int), Value.int .u64 (8 * (n : Int)), Value.int .i64 (pr : Int), .func (.func 63) #[] #[.pointer (some ⟨wr.heap.size, 0, none⟩), .pointer (some ⟨wr.heap.size + 1 + 1, 0, none⟩), .pointer (some ⟨wr.heap.size + 1, 0, none⟩)], .int .u64 (bitAt h (8 * (n : Int)) x.1), undef, undef, undef, undef, undef, undef, undef, undef, undef, undef, u59, undef, undef, undef, undef, undef], defers := [] }) ?assign ?body ?done ?stop
      case assign =>
        intro l x W K hK
        gi_wp2
        exact hK
      case body =>
        rintro l2 pre x W2 ⟨⟨⟨hR, hX⟩, hMk⟩, hB⟩ _
        obtain ⟨hx0, hx1⟩ := bitAt_in hh0 h8.2 x.1
        have hmap : (pre ++ [x]).map (·.1) = pre.map (·.1) ++ [x.1] := by rw [List.map_append]; rfl
        have hset : setBits h (8 * (n : Int)) (pre.map (·.1) ++ [x.1]) L1 = setBit (setBits h (8 * (n : Int)) (pre.map (·.1)) L1) (bitAt h (8 * (n : Int)) x.1) := by unfold setBits; rw [List.foldl_append]; rfl
        have hlen : (setBits h (8 * (n : Int)) (pre.map (·.1)) L1).length = n := (setBits_len _ _ _ _).trans HLn.out
        obtain ⟨xb, hxb⟩ : ∃ y, bitAt h (8 * (n : Int)) x.1 = y := ⟨_, rfl⟩
        obtain ⟨L2, hL2⟩ : ∃ y, setBits h (8 * (n : Int)) (pre.map (·.1)) L1 = y := ⟨_, rfl⟩
        rw [hxb] at hx0 hx1 hset ⊢
        rw [hL2] at hR hset hlen
        have HS2 := Aside0.mk hset
        have HLEN := Aside0.mk hlen
        have hq0 : 0 ≤ xb / 8 := by omega
        have hq1 : xb / 8 < L2.length := by omega
        obtain ⟨hcl, hfz⟩ := Kd.R_cell (0 : Int) hR (xb / 8) hq0 hq1
        have hcb : W2.cell? ⟨w.heap.size + 1, 0, none⟩ = some (.slice (some ⟨w.heap.size, 0, none⟩) n (n + 1)) := (blk_cell hX 0).trans rfl
        have hb1 : decide (xb / 8 < (n : Int)) = true := decide_eq_true (by omega)
        have hb2 : decide (0 ≤ xb / 8) = true := decide_eq_true hq0
        have hb3 := eq_true (show xb / 8 < (n : Int) by omega)
        have hb4 := eq_true hq0
        clear hset hlen
        gi_wp2
        obtain ⟨hR3, hg3⟩ := Kd.R_put hR (xb / 8) (Go.bits .or .u8 (rdOf 0 L2 (xb / 8)) (2 ^ (xb % 8).toNat % 256))
        have hlen3 : (setBits h (8 * (n : Int)) ((pre ++ [x]).map (·.1)) L1) = L2.set (xb / 8).toNat (Go.bits .or .u8 (rdOf 0 L2 (xb / 8)) (2 ^ (xb % 8).toNat % 256)) := by rw [hmap, HS2.out]; rfl
        have hlen4 : (setBits h (8 * (n : Int)) ((pre ++ [x]).map (·.1)) L1).length = L2.length := by rw [hlen3, List.length_set]
        refine ⟨KeepsOthers.setCell _ _ _, Below.heap_setCell _ _ _ _ (by show _ ≠ w.heap.size; omega), ⟨⟨?_, (hg3.block _ (blk_lt hX) (by simp)).trans hX⟩, hMk.keep hg3.size (fun D hD hDB hDl => hg3.block D hDl (fun e => by simp at e; omega))⟩, below_set (j := (xb / 8).toNat) hB (Nat.le_refl _)⟩
        show Kd.R (Kd.int .u8) _ _ _ _ (.slice _ (setBits h (8 * (n : Int)) ((pre ++ [x]).map (·.1)) L1).length _) (setBits h (8 * (n : Int)) ((pre ++ [x]).map (·.1)) L1)
        rw [hlen4, hlen3]
        exact hR3
      case done =>
        rintro D xs W2 hD hxs ⟨⟨⟨hR, hX⟩, hMk⟩, hB⟩ hK
        rw [hxs] at hR
        have hwi := tb_i i (by have := HI.out; have := HK3.out; omega)
        gi_wp2
        go_wp2
        simp only [hwi]
        have hl1 : keys.length > i := by
          have h1 := congrArg List.length HD.out
          rw [List.length_drop] at h1
          simp at h1
          omega
        refine ⟨⟨i + 1, setBits h (8 * (n : Int)) (List.range pr) L1, D :: Ds, ?_⟩, ?_⟩
        · repeat apply Exists.intro
          refine ⟨⟨by omega⟩, HL2, ⟨(setBits_len _ _ _ _).trans HLn.out⟩, ⟨⟨List.nodup_cons.2 ⟨fun hm => ?_, hMk.1⟩, fun D' hD' => ?_⟩⟩, ⟨hR⟩, ⟨hX⟩, ⟨hB⟩, rfl⟩
          · have := HMlt D hm; omega
          · rcases List.mem_cons.1 hD' with e | e
            · subst e; exact ⟨⟨by omega, blk_lt2 hK⟩, hK⟩
            · exact hMk.2 D' e
        · simp [intOf]
          omega
      case stop =>
        rintro D c pre W2 hD hpre ⟨h, _⟩ hK
        exact h.elim
    · have c1 : decide ((i : Int) < (keys.length : Int)) = false := decide_eq_false (by omega)
      have hi : i = keys.length := by have := HI.out; clear c1; omega
      have hc8 : wr.cell? ⟨w.heap.size + 1, 0, none⟩ = some (.slice (some ⟨w.heap.size, 0, none⟩) n (n + 1)) := (blk_cell HX1.out 0).trans rfl
      have hw8 : IntKind.u8.wrap (pr : Int) = (pr : Int) := by have := HPR.out; simp [IntKind.wrap, IntKind.bits, IntKind.signed]; omega
      have HO2 : Aside0 (Kd.R (Kd.int .u8) 5 wr w.heap.size (fun _ => True) (.slice (some ⟨w.heap.size, 0, none⟩) n (n + 1)) L1) := ⟨by have := HO1.out; rw [HLn.out] at this; exact this⟩
      obtain rfl : L1 = L := by
        have := HL1.out
        rw [hi, List.drop_length] at this
        exact Option.some.inj this
      go_wp2_with (first
        | ((with_reducible refine gate_builtin (b := .append) (xs := #[.tmp 60, .tmp 63]) rfl ?_); at_builtin; refine Kd.R_append (Kd.int .u8) (w0 := w) w.heap.size rfl (.tmp 60) (.tmp 63) 27 5 (.int .u8 0) 1 rfl Try.underlying27 info5 rfl (by decide) (by decide) (.slice (some ⟨w.heap.size, 0, none⟩) n (n + 1)) L1 (pr : Int) [.int .u8 (pr : Int)] (fun _ => True) (fun _ => False) rfl rfl rfl (fun _ hk => hk.elim) (fun _ _ => trivial) HO2.out HB1.out (below_size HB1.out) (by have := HLn.out; have := HN.out; omega) ?_
           intro v1 w8 ho hb hg hat
           have HM8 : Aside0 (Marks (w.heap.size + 2) w8 Ds) := ⟨HM.out.keep hg.size (fun D hD hDB hDl => hg.block D hDl (fun e => by simp [Value.ownBlock] at e; omega))⟩
           have HO8 := Aside0.mk ho
           have HB8 := Aside0.mk hb
           clear ho hb hg hat))
      refine leaves_marks (by simp) Ds (w.heap.size + 2) _ HM8.out ?_
      intro w' hbw hkw
      refine ⟨.tuple #[v1, .int .i64 0], by simp [results, Try.f18, go_sem], v1, rfl, Kd.R_mono (Kd.R_move (Kd.R_bound HO8.out) (fun k hk => hkw k (fun x e => by
        obtain ⟨_, _, _, q, hq, cells, hc⟩ := hk
        rw [hc] at e
        cases e))) (fun _ _ => trivial), HB8.out.trans (hbw.mono (by omega))⟩
end Go.Proofs.Ythdemdjobgbpdaa.T
