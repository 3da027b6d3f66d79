/- The walk of SstableTurns. -/
import Derived.Test.YthdemdjobgbpdaaQH
import Derived.WalkSpells
namespace Go.Proofs.Ythdemdjobgbpdaa.T
open Go.RowKit Go.Shelf Go.Proofs.YthdemdjobgbpdaaW.PrintWords Go.Proofs.YthdemdjobgbpdaaW.PrintLast Go.Proofs.YthdemdjobgbpdaaW.PrintMore Go.Proofs.Ythdemdjobgbpdaa.P Go.Proofs.Ythdemdjobgbpdaa.B Go.Proofs.Ythdemdjobgbpdaa.Q
attribute [local go_sem] Oper.semAt_some
set_option linter.unusedVariables false
set_option linter.unusedSimpArgs false
/-- which bit is turned -/
def turnAt (at_ : Int) (o : Nat) : Nat := ((if at_ < 0 then -(at_ + 1) else at_) % (8 * (o : Int))).toNat
/-- a byte with a bit turned -/
def turnB (bs : List Int) (m : Nat) : List Int := bs.set (m / 8) (Go.bits .xor .u8 (rd bs ((m / 8 : Nat) : Int)) (2 ^ (m % 8) % 256))
/-- what is known of a table with a bit turned -/
structure TurnAt (k : Nat) (L : List S47) (bs fl : List Int) (ps : List SPl) (user : ByteArray) (seq : Int) : Prop where
  op : ∃ e n0 n1 n2 n3 ns x idx iv, OpenOk k bs e n0 n1 n2 n3 ns fl x idx iv ps ∧ ns 4 = (L.length : Int)
  all : all_t k bs ps (L.length : Int) = some none
  get : ∃ v, get_f k bs fl ps user seq = some v ∧ (v = known L user seq ∨ v = (noText, 0, 122))
theorem TurnAt.open_calls {k : Nat} {L : List S47} {bs fl : List Int} {ps : List SPl} {user : ByteArray} {seq : Int} (h : TurnAt k L bs fl ps user seq) (A : Option Addr) (c : Nat) (w : World) (hC : Kd.C (Kd.int .u8) w A bs.length bs) (hc : bs.length ≤ c) :
    Calls Try.prog 13 #[.slice A bs.length c] w fun en w' => ∃ g, en = .returned (.tuple #[.pointer (some ⟨g, 0, none⟩), .int .i64 0]) ∧ w.heap.size ≤ g ∧ IsTab w' g bs fl ps (L.length : Int) ∧ Below w.heap.size w w' := by
  obtain ⟨e, n0, n1, n2, n3, ns, x, idx, iv, ok, h4⟩ := h.op
  rw [← h4]
  exact T.open_calls k A c bs e n0 n1 n2 n3 ns fl x idx iv ps w hC hc ok
/-- the number at the foot -/
structure FootAt (bs : List Int) (e o : Nat) (v0 v1 v2 v3 : Nat) : Prop where
  len : bs.length = e + 28
  o1 : 1 ≤ o
  oe : o ≤ e
  lt : e < 1000000000
  b0 : rd bs (e : Int) = (v0 : Int)
  b1 : rd bs ((e + 1 : Nat) : Int) = (v1 : Int)
  b2 : rd bs ((e + 2 : Nat) : Int) = (v2 : Int)
  b3 : rd bs ((e + 3 : Nat) : Int) = (v3 : Int)
  l0 : v0 < 256
  l1 : v1 < 256
  l2 : v2 < 256
  l3 : v3 < 256
  sum : v0 + v1 * 256 + v2 * 65536 + v3 * 16777216 = o
def Turns (k : Nat) (l : List S47) (blk iv : Int) (fb : Nat) (at_ : Int) (user : ByteArray) (seq : Int) : Prop :=
  ∃ r, tab_f k 1000 (cut3h l) blk iv fb = some r ∧ (-9223372036854775808 ≤ at_ ∧ at_ < 9223372036854775808) ∧
    ((r.2 ≠ 0 ∧ r.1 = []) ∨ (r.2 = 0 ∧ ∃ e o v0 v1 v2 v3, FootAt r.1 e o v0 v1 v2 v3 ∧ (∃ fl ps, TurnAt k (cut3h l) (turnB r.1 (turnAt at_ o)) fl ps user seq) ∧ staddleref08_Get.f k (cut3h l) user seq = some ((known (cut3h l) user seq).1, (known (cut3h l) user seq).2.1)))
theorem R_zero {e base n c : Nat} {ok : Nat → Prop} {w : World} {al : Addr} {xs : List Int} (h : Kd.R (Kd.int .u8) e w base ok (.slice (some al) n c) xs) : ∃ g, al = ⟨g, 0, none⟩ ∧ base ≤ g := by
  obtain ⟨_, inner, hown, _⟩ := h
  rcases hown.2 with ⟨h1, _⟩ | ⟨g, cap, cur, h1, h2, _⟩
  · cases h1
  · injection h1 with h3
    injection h3 with h3
    exact ⟨g, h3, h2⟩
theorem tt_sum (v0 v1 v2 v3 o : Nat) (l0 : v0 < 256) (l1 : v1 < 256) (l2 : v2 < 256) (l3 : v3 < 256) (h : v0 + v1 * 256 + v2 * 65536 + v3 * 16777216 = o) : IntKind.u64.wrap (IntKind.u64.wrap (IntKind.u64.wrap (IntKind.u64.wrap (v0 : Int) + IntKind.u64.wrap (IntKind.u64.wrap (v1 : Int) * 256)) + IntKind.u64.wrap (IntKind.u64.wrap (v2 : Int) * 65536)) + IntKind.u64.wrap (IntKind.u64.wrap (v3 : Int) * 16777216)) = (o : Int) := by
  have hw : ∀ y : Int, IntKind.u64.wrap y = y % 18446744073709551616 := fun y => by simp [IntKind.wrap, IntKind.bits, IntKind.signed]
  simp only [hw]
  omega
theorem tt_neg (a : Int) (h : a < 0) (h2 : -9223372036854775808 ≤ a) : wrap64 (-(wrap64 (a + 1))) = -(a + 1) := by unfold wrap64; omega
theorem tt_w (e i : Nat) (h : e < 1000000000) (hi : i < 10) : wrap64 ((e : Int) + (i : Int)) = ((e + i : Nat) : Int) := by unfold wrap64; omega
theorem tt_m (a : Int) (o : Nat) (M : Int) (h : (if a < 0 then -(a + 1) else a) = M) (h0 : 0 ≤ M) (ho : 1 ≤ o) : 0 ≤ M % (8 * (o : Int)) ∧ M % (8 * (o : Int)) < 8 * (o : Int) ∧ turnAt a o = (M % (8 * (o : Int))).toNat := by
  have h1 := Int.emod_lt_of_pos M (show 0 < 8 * (o : Int) by omega)
  have h2 := Int.emod_nonneg M (show 8 * (o : Int) ≠ 0 by omega)
  unfold turnAt
  rw [h]
  exact ⟨h2, h1, rfl⟩
theorem turnB_x (bs : List Int) (x : Int) (h : 0 ≤ x) : turnB bs x.toNat = bs.set (x / 8).toNat (Go.bits .xor .u8 (rdOf 0 bs (x / 8)) (2 ^ (x % 8).toNat % 256)) := by
  obtain ⟨m, rfl⟩ := Int.eq_ofNat_of_zero_le h
  have h1 : ((m : Int) / 8) = ((m / 8 : Nat) : Int) := by omega
  have h2 : ((m : Int) % 8) = ((m % 8 : Nat) : Int) := by omega
  rw [h1, h2, Int.toNat_natCast, Int.toNat_natCast, Int.toNat_natCast]
  rfl
theorem tt_o (o : Nat) (h : o < 1000000000) : wrap64 (o : Int) = (o : Int) := by unfold wrap64; omega
theorem tt_8o (o : Nat) (h : o < 1000000000) : wrap64 (8 * (o : Int)) = 8 * (o : Int) := by unfold wrap64; omega
set_option maxHeartbeats 8000000 in
set_option maxRecDepth 100000 in
theorem turns_calls (k : Nat) (A0 : Option Addr) (c0 : Nat) (l0 : List S47) (b1 i1 : Int) (f1 : Nat) (at_ : Int) (user : ByteArray) (seq : Int) (w : World) (hr0 : Kd.C k47 w A0 l0.length l0) (hc0 : l0.length ≤ c0) (hf : Turns k l0 b1 i1 f1 at_ user seq) :
    Calls Try.prog 6 #[.slice A0 l0.length c0, .agg #[.int .i64 b1, .int .i64 i1, .float .f64 f1], .int .i64 at_, .string user, .int .u64 seq] w fun e w' => e = .returned (.bool true) ∧ Below w.heap.size w w' := by
  have HR0 := Aside0.mk hr0
  have HC0 := Aside0.mk hc0
  have HF := Aside0.mk hf
  have hK0 := Aside0.mk (cut3h_len l0)
  have HRW : Aside0 (Kd.C k47 w A0 (cut3h l0).length (cut3h l0)) := ⟨by
    unfold cut3h
    split
    · exact Kd.C_take hr0 (by omega)
    · exact hr0⟩
  clear hr0 hc0 hf
  go_enter Try.func6, Try.ntmps6
  go_upto_region 1 with fail
  obtain ⟨w2, hw2⟩ : ∃ y, w.alloc (.cells #[.int .i64 b1, .int .i64 i1, .float .f64 f1] 26) = y := ⟨_, rfl⟩
  have HB2 : Aside0 (Below w.heap.size w w2) := ⟨by rw [← hw2]; exact below_alloc (Below.refl _ _) _⟩
  have BO2 : Aside0 (w2.heap[w.heap.size]? = some (.cells #[.int .i64 b1, .int .i64 i1, .float .f64 f1] 26 (0, 0))) := ⟨by rw [← hw2]; exact blk_new w _⟩
  rw [hw2]
  clear hw2
  go_upto_region 2 with (first
    | (go_at_call 9; with_reducible refine (awake_calls _).mono ?_; rintro e w3 ⟨rfl, hb⟩
       have BO3 := Aside0.mk (blk_below BO2.out hb)
       have HB3 := Aside0.mk (below_step HB2.out hb)
       clear hb))
  go_upto_if 28 with fail
  go_cut [0] (fun v0 wc => ∃ (c1 : Nat), v0 = .slice A0 (cut3h l0).length c1 ∧ Aside0 ((cut3h l0).length ≤ c1) ∧ Aside0 (Kd.C k47 wc A0 (cut3h l0).length (cut3h l0)) ∧ Aside0 (wc.heap[w.heap.size]? = some (.cells #[.int .i64 b1, .int .i64 i1, .float .f64 f1] 26 (0, 0))) ∧ Aside0 (Below w.heap.size w wc))
  case first =>
    by_cases c : 300 < l0.length
    · have hcut : cut3h l0 = l0.take 300 := by unfold cut3h; rw [if_pos c]
      have hlen : (l0.take 300).length = 300 := by rw [List.length_take]; omega
      have HRC : Aside0 (Kd.C k47 w3 A0 (l0.take 300).length (l0.take 300)) := ⟨Kd.C_take (Kd.C_below HR0.out HB3.out) (by omega)⟩
      have c4b0 : decide (300 < (l0.length : Int)) = true := decide_eq_true (by omega)
      have c4b1 : decide (300 < l0.length) = true := decide_eq_true c
      have c5b0 := eq_true (show 300 ≤ (l0.length : Int) by omega)
      have c5b1 : decide (300 ≤ (l0.length : Int)) = true := decide_eq_true (by omega)
      have c5b2 : (300 : Int) ≤ (c0 : Int) := by have := HC0.out; omega
      have c5b3 : 300 ≤ c0 := by have := HC0.out; omega
      (first | rw [c4b0] | rw [c4b1] | (simp only [i64_w, i32_w]; rw [c4b0]) | skip)
      go_wp2
      go_meet
      case rel =>
        refine ⟨c0, ?_, ⟨by rw [hcut, hlen]; exact c5b3⟩, ⟨by rw [hcut]; exact HRC.out⟩, BO3, HB3⟩
        rw [hcut, hlen]
    · have hcut : cut3h l0 = l0 := by unfold cut3h; rw [if_neg c]
      have c4b0 : decide (300 < (l0.length : Int)) = false := decide_eq_false (by omega)
      have c4b1 : decide (300 < l0.length) = false := decide_eq_false c
      have HRC : Aside0 (Kd.C k47 w3 A0 l0.length l0) := ⟨Kd.C_below HR0.out HB3.out⟩
      (first | rw [c4b0] | rw [c4b1] | (simp only [i64_w, i32_w]; rw [c4b0]) | skip)
      go_wp2
      go_meet
      case rel => exact ⟨c0, by rw [hcut], ⟨by rw [hcut]; exact HC0.out⟩, ⟨by rw [hcut]; exact HRC.out⟩, BO3, HB3⟩
  case rest =>
    clear HR0 HC0 BO2 BO3 HB2 HB3
    obtain ⟨c1, rfl, HC1, HR1, BO1, HB1⟩ := hcut
    obtain ⟨r1, hr1, hat, h1⟩ := HF.out
    clear HF
    generalize cut3h l0 = L at *
    have HR1E := Aside0.mk hr1
    have H1 := Aside0.mk h1
    have HAT := Aside0.mk hat
    clear hr1 h1 hat
    obtain ⟨bs1, e1⟩ := r1
    have k0 := (blk_cell BO1.out 0).trans (show _ = some (Value.int .i64 b1) from rfl)
    have k1 := (blk_cell BO1.out 1).trans (show _ = some (Value.int .i64 i1) from rfl)
    have k2 := (blk_cell BO1.out 2).trans (show _ = some (Value.float .f64 f1) from rfl)
    go_upto_region 5 with (first
      | (go_at_call 10; with_reducible refine (tab_calls k 1000 A0 c1 L b1 i1 f1 (bs1, e1) _ HR1.out HC1.out HR1E.out).mono ?_; rintro ex w4 ⟨v4, rfl, hob, hb⟩
         have HR4 := Aside0.mk (Kd.C_below HR1.out hb)
         have HB4 := Aside0.mk (below_step HB1.out hb)
         obtain ⟨A4, c4, e4⟩ := Kd.R_slice hob
         subst e4
         have HO4 := Aside0.mk (Kd.R_lower hob (below_size HB1.out))
         clear hob hb k0 k1 k2))
    by_cases he1 : e1 = 0
    case neg =>
      have hb1 : (e1 != 0) = true := bne_iff_ne.mpr he1
      clear he1 H1
      go_wp2
      go_ret
      exact ⟨rfl, HB4.out⟩
    case pos =>
    subst he1
    obtain ⟨_, e, o, v0, v1, v2, v3, ft, ⟨fl1, ps1, T1⟩, hrg⟩ := H1.out.resolve_left (fun h => h.1 rfl)
    have FT := Aside0.mk ft
    have T1 := Aside0.mk T1
    have HRG := Aside0.mk hrg
    have hbl := ft.len
    have hoe := ft.oe
    have ho1 := ft.o1
    have hlt := ft.lt
    clear H1 hrg ft
    have hwe : wrap64 ((bs1.length : Int) - 28) = (e : Int) := by rw [hbl]; exact to_w1 e (by omega)
    have q1 : decide ((e : Int) < 1) = false := decide_eq_false (by clear hwe; omega)
    have q1b : decide (e < 1) = false := decide_eq_false (by clear hwe; omega)
    go_upto_region 10 with fail
    try simp only [hwe]
    obtain ⟨z1, hz1⟩ : ∃ z, e + 1 = z := ⟨_, rfl⟩
    obtain ⟨z2, hz2⟩ : ∃ z, e + 2 = z := ⟨_, rfl⟩
    obtain ⟨z3, hz3⟩ : ∃ z, e + 3 = z := ⟨_, rfl⟩
    have hb0 := FT.out.b0
    have hb1 := FT.out.b1
    have hb2 := FT.out.b2
    have hb3 := FT.out.b3
    rw [hz1] at hb1
    rw [hz2] at hb2
    rw [hz3] at hb3
    have HOd := Aside0.mk (Kd.R_drew HO4.out)
    obtain ⟨al, eA, k0⟩ := Kd.at_int (Kd.R_reads' HOd.out).2.2 (e : Int) (Int.natCast_nonneg e) (by clear hwe; omega)
    obtain ⟨al1, eA1, k1⟩ := Kd.at_int (Kd.R_reads' HOd.out).2.2 (z1 : Int) (Int.natCast_nonneg z1) (by clear hwe; omega)
    obtain ⟨al2, eA2, k2⟩ := Kd.at_int (Kd.R_reads' HOd.out).2.2 (z2 : Int) (Int.natCast_nonneg z2) (by clear hwe; omega)
    obtain ⟨al3, eA3, k3⟩ := Kd.at_int (Kd.R_reads' HOd.out).2.2 (z3 : Int) (Int.natCast_nonneg z3) (by clear hwe; omega)
    obtain rfl : al = al1 := Option.some.inj (eA.symm.trans eA1)
    obtain rfl : al = al2 := Option.some.inj (eA.symm.trans eA2)
    obtain rfl : al = al3 := Option.some.inj (eA.symm.trans eA3)
    clear eA1 eA2 eA3
    subst eA
    rw [Int.toNat_natCast, hb0] at k0
    rw [Int.toNat_natCast, hb1] at k1
    rw [Int.toNat_natCast, hb2] at k2
    rw [Int.toNat_natCast, hb3] at k3
    have p0 := eq_true (show (0 : Int) ≤ (e : Int) by omega)
    have p1 := eq_true (show (0 : Int) ≤ (z1 : Int) by omega)
    have p2 := eq_true (show (0 : Int) ≤ (z2 : Int) by omega)
    have p3 := eq_true (show (0 : Int) ≤ (z3 : Int) by omega)
    have r0 := eq_true (show (e : Int) < (bs1.length : Int) by clear hwe; omega)
    have r1 := eq_true (show (z1 : Int) < (bs1.length : Int) by clear hwe; omega)
    have r2 := eq_true (show (z2 : Int) < (bs1.length : Int) by clear hwe; omega)
    have r3 := eq_true (show (z3 : Int) < (bs1.length : Int) by clear hwe; omega)
    have w1 : wrap64 ((e : Int) + 1) = (z1 : Int) := by rw [← hz1]; exact tt_w e 1 hlt (by decide)
    have w2_ : wrap64 ((e : Int) + 2) = (z2 : Int) := by rw [← hz2]; exact tt_w e 2 hlt (by decide)
    have w3_ : wrap64 ((e : Int) + 3) = (z3 : Int) := by rw [← hz3]; exact tt_w e 3 hlt (by decide)
    clear hb0 hb1 hb2 hb3 hz1 hz2 hz3 hwe hbl
    go_wp2_with fail
    refine start_ (n := 30) (S := fun w' => w'.cell? (al.add e) = some (.int .u8 (v0 : Int)) ∧ w'.cell? (al.add z1) = some (.int .u8 (v1 : Int)) ∧ w'.cell? (al.add z2) = some (.int .u8 (v2 : Int)) ∧ w'.cell? (al.add z3) = some (.int .u8 (v3 : Int))) (ds := []) #[false, false, false, false, false, false, false, false, false, false, false, false, false, false, false, false, false, false, false, false, false, false, false, false, false, false, false, false, false, false] (by kernel_rfl) rfl rfl ⟨(by exact k0), (by exact k1), (by exact k2), (by exact k3)⟩ (fun hHeld => ?_)
    refine pure_ (i := 0) (N := some 45) (v := ?_) (a' := ?_) #[true, false, false, false, false, false, false, false, false, false, false, false, false, false, false, false, false, false, false, false, false, false, false, false, false, false, false, false, false, false] rfl rfl (by kernel_rfl) (fun _ _ _ h => h) (Or.inl ⟨by rfl, ?_⟩) ?_ ?_
    rotate_left
    · intro w'
      go_simp
      with_reducible rfl
    rotate_left
    · simp only [Act.put, List.setIfInBounds_toArray, List.set_cons_zero, List.set_cons_succ, i64_w, i32_w]
      rfl
    refine pure_ (i := 1) (N := some 46) (v := ?_) (a' := ?_) #[true, true, false, false, false, false, false, false, false, false, false, false, false, false, false, false, false, false, false, false, false, false, false, false, false, false, false, false, false, false] rfl rfl (by kernel_rfl) (fun _ _ _ h => h) (Or.inl ⟨by rfl, ?_⟩) ?_ ?_
    rotate_left
    · intro w'
      go_simp
      with_reducible rfl
    rotate_left
    · simp only [Act.put, List.setIfInBounds_toArray, List.set_cons_zero, List.set_cons_succ, i64_w, i32_w]
      rfl
    refine pure_ (i := 2) (N := some 47) (v := ?_) (a' := ?_) #[true, true, true, false, false, false, false, false, false, false, false, false, false, false, false, false, false, false, false, false, false, false, false, false, false, false, false, false, false, false] rfl rfl (by kernel_rfl) (fun _ _ _ h => h) (Or.inl ⟨by rfl, ?_⟩) ?_ ?_
    rotate_left
    · intro w'
      go_simp
      with_reducible rfl
    rotate_left
    · simp only [Act.put, List.setIfInBounds_toArray, List.set_cons_zero, List.set_cons_succ, i64_w, i32_w]
      rfl
    refine pure_ (i := 5) (N := some 50) (v := ?_) (a' := ?_) #[true, true, true, false, false, true, false, false, false, false, false, false, false, false, false, false, false, false, false, false, false, false, false, false, false, false, false, false, false, false] rfl rfl (by kernel_rfl) (fun _ _ _ h => h) (Or.inl ⟨by rfl, ?_⟩) ?_ ?_
    rotate_left
    · intro w'
      go_simp
      with_reducible rfl
    rotate_left
    · simp only [Act.put, List.setIfInBounds_toArray, List.set_cons_zero, List.set_cons_succ, i64_w, i32_w]
      rfl
    refine pure_ (i := 6) (N := some 51) (v := ?_) (a' := ?_) #[true, true, true, false, false, true, true, false, false, false, false, false, false, false, false, false, false, false, false, false, false, false, false, false, false, false, false, false, false, false] rfl rfl (by kernel_rfl) (fun _ _ _ h => h) (Or.inl ⟨by rfl, ?_⟩) ?_ ?_
    rotate_left
    · intro w'
      go_simp
      with_reducible rfl
    rotate_left
    · simp only [Act.put, List.setIfInBounds_toArray, List.set_cons_zero, List.set_cons_succ, i64_w, i32_w]
      rfl
    refine pure_ (i := 7) (N := some 52) (v := ?_) (a' := ?_) #[true, true, true, false, false, true, true, true, false, false, false, false, false, false, false, false, false, false, false, false, false, false, false, false, false, false, false, false, false, false] rfl rfl (by kernel_rfl) (fun _ _ _ h => h) (Or.inl ⟨by rfl, ?_⟩) ?_ ?_
    rotate_left
    · intro w'
      go_simp
      with_reducible rfl
    rotate_left
    · simp only [Act.put, List.setIfInBounds_toArray, List.set_cons_zero, List.set_cons_succ, i64_w, i32_w]
      rfl
    refine pure_ (i := 8) (N := some 53) (v := ?_) (a' := ?_) #[true, true, true, false, false, true, true, true, true, false, false, false, false, false, false, false, false, false, false, false, false, false, false, false, false, false, false, false, false, false] rfl rfl (by kernel_rfl) (fun _ _ _ h => h) (Or.inl ⟨by rfl, ?_⟩) ?_ ?_
    rotate_left
    · intro w'
      go_simp
      with_reducible rfl
    rotate_left
    · simp only [Act.put, List.setIfInBounds_toArray, List.set_cons_zero, List.set_cons_succ, i64_w, i32_w]
      rfl
    refine pure_ (i := 13) (N := some 58) (v := ?_) (a' := ?_) #[true, true, true, false, false, true, true, true, true, false, false, false, false, true, false, false, false, false, false, false, false, false, false, false, false, false, false, false, false, false] rfl rfl (by kernel_rfl) (fun _ _ _ h => h) (Or.inl ⟨by rfl, ?_⟩) ?_ ?_
    rotate_left
    · intro w'
      go_simp
      with_reducible rfl
    rotate_left
    · simp only [Act.put, List.setIfInBounds_toArray, List.set_cons_zero, List.set_cons_succ, i64_w, i32_w]
      rfl
    refine pure_ (i := 14) (N := some 59) (v := ?_) (a' := ?_) #[true, true, true, false, false, true, true, true, true, false, false, false, false, true, true, false, false, false, false, false, false, false, false, false, false, false, false, false, false, false] rfl rfl (by kernel_rfl) (fun _ _ _ h => h) (Or.inl ⟨by rfl, ?_⟩) ?_ ?_
    rotate_left
    · intro w'
      go_simp
      with_reducible rfl
    rotate_left
    · simp only [Act.put, List.setIfInBounds_toArray, List.set_cons_zero, List.set_cons_succ, i64_w, i32_w]
      rfl
    refine pure_ (i := 15) (N := some 60) (v := ?_) (a' := ?_) #[true, true, true, false, false, true, true, true, true, false, false, false, false, true, true, true, false, false, false, false, false, false, false, false, false, false, false, false, false, false] rfl rfl (by kernel_rfl) (fun _ _ _ h => h) (Or.inl ⟨by rfl, ?_⟩) ?_ ?_
    rotate_left
    · intro w'
      go_simp
      with_reducible rfl
    rotate_left
    · simp only [Act.put, List.setIfInBounds_toArray, List.set_cons_zero, List.set_cons_succ, i64_w, i32_w]
      rfl
    refine pure_ (i := 16) (N := some 61) (v := ?_) (a' := ?_) #[true, true, true, false, false, true, true, true, true, false, false, false, false, true, true, true, true, false, false, false, false, false, false, false, false, false, false, false, false, false] rfl rfl (by kernel_rfl) (fun _ _ _ h => h) (Or.inl ⟨by rfl, ?_⟩) ?_ ?_
    rotate_left
    · intro w'
      go_simp
      with_reducible rfl
    rotate_left
    · simp only [Act.put, List.setIfInBounds_toArray, List.set_cons_zero, List.set_cons_succ, i64_w, i32_w]
      rfl
    refine pure_ (i := 21) (N := some 66) (v := ?_) (a' := ?_) #[true, true, true, false, false, true, true, true, true, false, false, false, false, true, true, true, true, false, false, false, false, true, false, false, false, false, false, false, false, false] rfl rfl (by kernel_rfl) (fun _ _ _ h => h) (Or.inl ⟨by rfl, ?_⟩) ?_ ?_
    rotate_left
    · intro w'
      go_simp
      with_reducible rfl
    rotate_left
    · simp only [Act.put, List.setIfInBounds_toArray, List.set_cons_zero, List.set_cons_succ, i64_w, i32_w]
      rfl
    refine pure_ (i := 22) (N := some 67) (v := ?_) (a' := ?_) #[true, true, true, false, false, true, true, true, true, false, false, false, false, true, true, true, true, false, false, false, false, true, true, false, false, false, false, false, false, false] rfl rfl (by kernel_rfl) (fun _ _ _ h => h) (Or.inl ⟨by rfl, ?_⟩) ?_ ?_
    rotate_left
    · intro w'
      go_simp
      with_reducible rfl
    rotate_left
    · simp only [Act.put, List.setIfInBounds_toArray, List.set_cons_zero, List.set_cons_succ, i64_w, i32_w]
      rfl
    refine pure_ (i := 23) (N := some 68) (v := ?_) (a' := ?_) #[true, true, true, false, false, true, true, true, true, false, false, false, false, true, true, true, true, false, false, false, false, true, true, true, false, false, false, false, false, false] rfl rfl (by kernel_rfl) (fun _ _ _ h => h) (Or.inl ⟨by rfl, ?_⟩) ?_ ?_
    rotate_left
    · intro w'
      go_simp
      with_reducible rfl
    rotate_left
    · simp only [Act.put, List.setIfInBounds_toArray, List.set_cons_zero, List.set_cons_succ, i64_w, i32_w]
      rfl
    refine pure_ (i := 24) (N := some 69) (v := ?_) (a' := ?_) #[true, true, true, false, false, true, true, true, true, false, false, false, false, true, true, true, true, false, false, false, false, true, true, true, true, false, false, false, false, false] rfl rfl (by kernel_rfl) (fun _ _ _ h => h) (Or.inl ⟨by rfl, ?_⟩) ?_ ?_
    rotate_left
    · intro w'
      go_simp
      with_reducible rfl
    rotate_left
    · simp only [Act.put, List.setIfInBounds_toArray, List.set_cons_zero, List.set_cons_succ, i64_w, i32_w]
      rfl
    refine take_ (i := 3) (N := some 48) (v := ?_) (a' := ?_) #[true, true, true, true, false, true, true, true, true, false, false, false, false, true, true, true, true, false, false, false, false, true, true, true, true, false, false, false, false, false] rfl rfl (by kernel_rfl) (fun _ _ _ h => h) (Or.inl ⟨by rfl, ?_⟩) hHeld ?_ ?_
    rotate_left
    · rintro w' ⟨s0, s1, s2, s3⟩
      go_simp
      with_reducible rfl
    rotate_left
    · simp only [Act.put, List.setIfInBounds_toArray, List.set_cons_zero, List.set_cons_succ, i64_w, i32_w]
      rfl
    refine pure_ (i := 4) (N := some 49) (v := ?_) (a' := ?_) #[true, true, true, true, true, true, true, true, true, false, false, false, false, true, true, true, true, false, false, false, false, true, true, true, true, false, false, false, false, false] rfl rfl (by kernel_rfl) (fun _ _ _ h => h) (Or.inl ⟨by rfl, ?_⟩) ?_ ?_
    rotate_left
    · intro w'
      go_simp
      with_reducible rfl
    rotate_left
    · simp only [Act.put, List.setIfInBounds_toArray, List.set_cons_zero, List.set_cons_succ, i64_w, i32_w]
      rfl
    refine take_ (i := 9) (N := some 54) (v := ?_) (a' := ?_) #[true, true, true, true, true, true, true, true, true, true, false, false, false, true, true, true, true, false, false, false, false, true, true, true, true, false, false, false, false, false] rfl rfl (by kernel_rfl) (fun _ _ _ h => h) (Or.inl ⟨by rfl, ?_⟩) hHeld ?_ ?_
    rotate_left
    · rintro w' ⟨s0, s1, s2, s3⟩
      go_simp
      with_reducible rfl
    rotate_left
    · simp only [Act.put, List.setIfInBounds_toArray, List.set_cons_zero, List.set_cons_succ, i64_w, i32_w]
      rfl
    refine pure_ (i := 10) (N := some 55) (v := ?_) (a' := ?_) #[true, true, true, true, true, true, true, true, true, true, true, false, false, true, true, true, true, false, false, false, false, true, true, true, true, false, false, false, false, false] rfl rfl (by kernel_rfl) (fun _ _ _ h => h) (Or.inl ⟨by rfl, ?_⟩) ?_ ?_
    rotate_left
    · intro w'
      go_simp
      with_reducible rfl
    rotate_left
    · simp only [Act.put, List.setIfInBounds_toArray, List.set_cons_zero, List.set_cons_succ, i64_w, i32_w]
      rfl
    refine pure_ (i := 11) (N := some 56) (v := ?_) (a' := ?_) #[true, true, true, true, true, true, true, true, true, true, true, true, false, true, true, true, true, false, false, false, false, true, true, true, true, false, false, false, false, false] rfl rfl (by kernel_rfl) (fun _ _ _ h => h) (Or.inl ⟨by rfl, ?_⟩) ?_ ?_
    rotate_left
    · intro w'
      go_simp
      with_reducible rfl
    rotate_left
    · simp only [Act.put, List.setIfInBounds_toArray, List.set_cons_zero, List.set_cons_succ, i64_w, i32_w]
      rfl
    refine pure_ (i := 12) (N := some 57) (v := ?_) (a' := ?_) #[true, true, true, true, true, true, true, true, true, true, true, true, true, true, true, true, true, false, false, false, false, true, true, true, true, false, false, false, false, false] rfl rfl (by kernel_rfl) (fun _ _ _ h => h) (Or.inl ⟨by rfl, ?_⟩) ?_ ?_
    rotate_left
    · intro w'
      go_simp
      with_reducible rfl
    rotate_left
    · simp only [Act.put, List.setIfInBounds_toArray, List.set_cons_zero, List.set_cons_succ, i64_w, i32_w]
      rfl
    refine take_ (i := 17) (N := some 62) (v := ?_) (a' := ?_) #[true, true, true, true, true, true, true, true, true, true, true, true, true, true, true, true, true, true, false, false, false, true, true, true, true, false, false, false, false, false] rfl rfl (by kernel_rfl) (fun _ _ _ h => h) (Or.inl ⟨by rfl, ?_⟩) hHeld ?_ ?_
    rotate_left
    · rintro w' ⟨s0, s1, s2, s3⟩
      go_simp
      with_reducible rfl
    rotate_left
    · simp only [Act.put, List.setIfInBounds_toArray, List.set_cons_zero, List.set_cons_succ, i64_w, i32_w]
      rfl
    refine pure_ (i := 18) (N := some 63) (v := ?_) (a' := ?_) #[true, true, true, true, true, true, true, true, true, true, true, true, true, true, true, true, true, true, true, false, false, true, true, true, true, false, false, false, false, false] rfl rfl (by kernel_rfl) (fun _ _ _ h => h) (Or.inl ⟨by rfl, ?_⟩) ?_ ?_
    rotate_left
    · intro w'
      go_simp
      with_reducible rfl
    rotate_left
    · simp only [Act.put, List.setIfInBounds_toArray, List.set_cons_zero, List.set_cons_succ, i64_w, i32_w]
      rfl
    refine pure_ (i := 19) (N := some 64) (v := ?_) (a' := ?_) #[true, true, true, true, true, true, true, true, true, true, true, true, true, true, true, true, true, true, true, true, false, true, true, true, true, false, false, false, false, false] rfl rfl (by kernel_rfl) (fun _ _ _ h => h) (Or.inl ⟨by rfl, ?_⟩) ?_ ?_
    rotate_left
    · intro w'
      go_simp
      with_reducible rfl
    rotate_left
    · simp only [Act.put, List.setIfInBounds_toArray, List.set_cons_zero, List.set_cons_succ, i64_w, i32_w]
      rfl
    refine pure_ (i := 20) (N := some 65) (v := ?_) (a' := ?_) #[true, true, true, true, true, true, true, true, true, true, true, true, true, true, true, true, true, true, true, true, true, true, true, true, true, false, false, false, false, false] rfl rfl (by kernel_rfl) (fun _ _ _ h => h) (Or.inl ⟨by rfl, ?_⟩) ?_ ?_
    rotate_left
    · intro w'
      go_simp
      with_reducible rfl
    rotate_left
    · simp only [Act.put, List.setIfInBounds_toArray, List.set_cons_zero, List.set_cons_succ, i64_w, i32_w]
      rfl
    refine take_ (i := 25) (N := some 70) (v := ?_) (a' := ?_) #[true, true, true, true, true, true, true, true, true, true, true, true, true, true, true, true, true, true, true, true, true, true, true, true, true, true, false, false, false, false] rfl rfl (by kernel_rfl) (fun _ _ _ h => h) (Or.inl ⟨by rfl, ?_⟩) hHeld ?_ ?_
    rotate_left
    · rintro w' ⟨s0, s1, s2, s3⟩
      go_simp
      with_reducible rfl
    rotate_left
    · simp only [Act.put, List.setIfInBounds_toArray, List.set_cons_zero, List.set_cons_succ, i64_w, i32_w]
      rfl
    refine pure_ (i := 26) (N := some 71) (v := ?_) (a' := ?_) #[true, true, true, true, true, true, true, true, true, true, true, true, true, true, true, true, true, true, true, true, true, true, true, true, true, true, true, false, false, false] rfl rfl (by kernel_rfl) (fun _ _ _ h => h) (Or.inl ⟨by rfl, ?_⟩) ?_ ?_
    rotate_left
    · intro w'
      go_simp
      with_reducible rfl
    rotate_left
    · simp only [Act.put, List.setIfInBounds_toArray, List.set_cons_zero, List.set_cons_succ, i64_w, i32_w]
      rfl
    refine pure_ (i := 27) (N := some 72) (v := ?_) (a' := ?_) #[true, true, true, true, true, true, true, true, true, true, true, true, true, true, true, true, true, true, true, true, true, true, true, true, true, true, true, true, false, false] rfl rfl (by kernel_rfl) (fun _ _ _ h => h) (Or.inl ⟨by rfl, ?_⟩) ?_ ?_
    rotate_left
    · intro w'
      go_simp
      with_reducible rfl
    rotate_left
    · simp only [Act.put, List.setIfInBounds_toArray, List.set_cons_zero, List.set_cons_succ, i64_w, i32_w]
      rfl
    refine pure_ (i := 28) (N := some 73) (v := ?_) (a' := ?_) #[true, true, true, true, true, true, true, true, true, true, true, true, true, true, true, true, true, true, true, true, true, true, true, true, true, true, true, true, true, false] rfl rfl (by kernel_rfl) (fun _ _ _ h => h) (Or.inl ⟨by rfl, ?_⟩) ?_ ?_
    rotate_left
    · intro w'
      go_simp
      with_reducible rfl
    rotate_left
    · simp only [Act.put, List.setIfInBounds_toArray, List.set_cons_zero, List.set_cons_succ, i64_w, i32_w]
      rfl
    refine pure_ (i := 29) (N := some 15) (v := ?_) (a' := ?_) #[true, true, true, true, true, true, true, true, true, true, true, true, true, true, true, true, true, true, true, true, true, true, true, true, true, true, true, true, true, true] rfl rfl (by kernel_rfl) (fun _ _ _ h => h) (Or.inl ⟨by rfl, ?_⟩) ?_ ?_
    rotate_left
    · intro w'
      go_simp
      with_reducible rfl
    rotate_left
    · simp only [Act.put, List.setIfInBounds_toArray, List.set_cons_zero, List.set_cons_succ, i64_w, i32_w]
      rfl
    refine done_ (by kernel_rfl) ?_
    have hsum := tt_sum v0 v1 v2 v3 o FT.out.l0 FT.out.l1 FT.out.l2 FT.out.l3 FT.out.sum
    simp only [hsum]
    have u0 : ((o : Int) == 0) = false := by rw [beq_eq_false_iff_ne]; omega
    have u0b : (o == 0) = false := by rw [beq_eq_false_iff_ne]; omega
    have hwu := to_q3 e (by omega)
    have u1 : decide ((o : Int) > (e : Int)) = false := decide_eq_false (by clear hsum hwu; omega)
    have u1b : decide (e < o) = false := decide_eq_false (by clear hsum hwu; omega)
    clear hsum k0 k1 k2 k3 p0 p1 p2 p3 r0 r1 r2 r3 w1 w2_ w3_
    obtain ⟨w5, hw5⟩ : ∃ y, w4.drew = y := ⟨_, rfl⟩
    have HR5 := Aside0.mk (Kd.C_drew HR4.out)
    have HB5 := Aside0.mk (below_drew1 HB4.out)
    rw [hw5] at HOd HR5 HB5 ⊢
    clear hw5
    go_upto_region 13 with fail
    clear u0 u0b hwu u1 u1b
    go_upto_if 83 with fail
    go_cut [2] (fun v2_ wc_ => v2_ = .int .i64 (if at_ < 0 then -(at_ + 1) else at_) ∧ wc_ = w5)
    case first =>
      by_cases c : at_ < 0
      · have c1 : decide (at_ < 0) = true := decide_eq_true c
        go_wp2
        go_meet
        case rel =>
          refine ⟨?_, rfl⟩
          rw [if_pos c, tt_neg at_ c HAT.out.1]
      · have c1 : decide (at_ < 0) = false := decide_eq_false c
        go_wp2
        go_meet
        case rel => exact ⟨by rw [if_neg (by omega)], rfl⟩
    case rest =>
    obtain ⟨rfl, rfl⟩ := hcut
    obtain ⟨M, hM⟩ : ∃ y, (if at_ < 0 then -(at_ + 1) else at_) = y := ⟨_, rfl⟩
    have hM0 : 0 ≤ M := by rw [← hM]; split <;> omega
    have hm := tt_m at_ o M hM hM0 ho1
    rw [hM]
    obtain ⟨x, hx⟩ : ∃ y, M % (8 * (o : Int)) = y := ⟨_, rfl⟩
    rw [hx] at hm
    obtain ⟨hx0, hx1, hxm⟩ := hm
    rw [hxm] at T1
    have hbl := FT.out.len
    have hq0 : 0 ≤ x / 8 := by omega
    have hq1 : x / 8 < bs1.length := by omega
    have HX := Aside0.mk hx0
    have HXM := Aside0.mk hx
    clear hM hxm HAT hbl hx
    have w8 : wrap64 (o : Int) = (o : Int) := tt_o o (by omega)
    have w9 : wrap64 (8 * (o : Int)) = 8 * (o : Int) := tt_8o o (by omega)
    have z8 : (8 * (o : Int) == 0) = false := by rw [beq_eq_false_iff_ne]; clear w8 w9; omega
    go_upto_region 16 with fail
    simp only [HXM.out]
    clear w8 w9 z8 hM0
    obtain ⟨gb, rfl, hgb⟩ := R_zero HOd.out
    have HGB := Aside0.mk hgb
    clear hgb
    obtain ⟨hcl, hfz⟩ := Kd.R_cell (0 : Int) HOd.out (x / 8) hq0 hq1
    have hb1 : decide (x / 8 < (bs1.length : Int)) = true := decide_eq_true hq1
    have hb2 : decide (0 ≤ x / 8) = true := decide_eq_true hq0
    have hb3 := eq_true hq1
    have hb4 := eq_true hq0
    have hb5 := eq_true hx0
    have HB6 := Aside0.mk (below_set (j := (x / 8).toNat) (v := .int .u8 (Go.bits .xor .u8 (rdOf 0 bs1 (x / 8)) (2 ^ (x % 8).toNat % 256))) HB5.out HGB.out)
    have HO6 := Aside0.mk (Kd.R_put HOd.out (x / 8) (Go.bits .xor .u8 (rdOf 0 bs1 (x / 8)) (2 ^ (x % 8).toNat % 256))).1
    have HBx := turnB_x bs1 x HX.out
    obtain ⟨B, hB⟩ : ∃ y, turnB bs1 x.toNat = y := ⟨_, rfl⟩
    have hBl : B.length = bs1.length := by rw [← hB, HBx, List.length_set]
    rw [hB] at T1 HBx
    rw [← HBx] at HO6
    have HBL := Aside0.mk hBl
    clear hBl HBx hB
    go_upto_region 17 with fail
    obtain ⟨w6, hw6⟩ : ∃ y, World.setCell wc ⟨gb, (x / 8).toNat, none⟩ (.int .u8 (Go.bits .xor .u8 (rdOf 0 bs1 (x / 8)) (2 ^ (x % 8).toNat % 256))) = y := ⟨_, rfl⟩
    rw [hw6] at HB6 HO6 ⊢
    simp only [← HBL.out] at HO6 ⊢
    clear hw6 hcl hfz hb1 hb2 hb3 hb4 hb5 hq0 hq1
    clear HOd HR5 HB5 HR1 HO4 HR4 HB4 HB1 BO1 hx0 hx1
    obtain ⟨⟨kv, kw, ke⟩, hget, hv⟩ := T1.out.get
    have HGV := Aside0.mk hv
    have HGE := Aside0.mk hget
    have HR6 := Aside0.mk (Kd.C_below HRW.out HB6.out)
    clear hv hget
    have HOC : Aside0 (Kd.C (Kd.int .u8) w6 (some ⟨gb, 0, none⟩) B.length B) := ⟨(Kd.R_reads' HO6.out).2.2⟩
    have HOL : Aside0 (B.length ≤ c4) := ⟨(Kd.R_reads' HO6.out).2.1⟩
    go_upto_region 25 with (first
      | (go_at_call 13; (with_reducible refine (T1.out.open_calls (some ⟨gb, 0, none⟩) c4 _ HOC.out HOL.out).mono ?_; rintro ex w7 ⟨g1, rfl, hge, htab, hb⟩)
         have HT7 := Aside0.mk htab
         have HR7 := Aside0.mk (Kd.C_below HR6.out hb)
         have HB7 := Aside0.mk (below_step HB6.out hb)
         clear hge htab hb)
      | (go_at_call 14; (with_reducible refine (all_calls k g1 B fl1 ps1 (L.length : Int) none _ HT7.out T1.out.all).mono ?_; rintro ex w8 ⟨hb, rfl⟩)
         have HT8 := Aside0.mk (HT7.out.below hb)
         have HR8 := Aside0.mk (Kd.C_below HR7.out hb)
         have HB8 := Aside0.mk (below_step HB7.out hb)
         clear hb)
      | (go_at_call 16; (with_reducible refine (get_calls k g1 B fl1 ps1 (L.length : Int) user seq (kv, kw, ke) _ HT8.out HGE.out).mono ?_; rintro ex w12 ⟨rfl, hb⟩)
         have HR12 := Aside0.mk (Kd.C_below HR8.out hb)
         have HB12 := Aside0.mk (below_step HB8.out hb)
         clear hb)
      | (go_at_call 17; (with_reducible refine (staddleref08_Get.calls k A0 c1 L user seq _ _ _ HR12.out HC1.out HRG.out).mono ?_; rintro ex w13 ⟨rfl, ⟨nd2, hw13⟩⟩)
         have HB13 : Aside0 (Below w.heap.size w w13) := ⟨by rw [hw13]; exact pw_below_drewN HB12.out nd2⟩
         clear hw13))
    rcases HGV.out with h | h
    · have h0 : (known L user seq).2.2 = 0 := tell_ok L (fi L ⟨user, capSeq seq, 1⟩) user
      rw [← h] at h0
      have hx1 : kv = (known L user seq).1 := by rw [← h]
      have hx2 : kw = (known L user seq).2.1 := by rw [← h]
      rw [← hx1, ← hx2]
      have h0 : ke = 0 := h0
      subst h0
      clear h hx1 hx2
      go_wp2
      go_ret
      first
        | exact ⟨rfl, HB13.out⟩
        | (refine ⟨?_, HB13.out⟩; simp)
    · injection h with h1 h2
      injection h2 with h2 h3
      subst h1 h2 h3
      have hN : noText = ⟨#[]⟩ := rfl
      rw [hN]
      clear hN
      go_wp2
      go_ret
      first
        | exact ⟨rfl, HB13.out⟩
        | (refine ⟨?_, HB13.out⟩; simp)
end Go.Proofs.Ythdemdjobgbpdaa.T
