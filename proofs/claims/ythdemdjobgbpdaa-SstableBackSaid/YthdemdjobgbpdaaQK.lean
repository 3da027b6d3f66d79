/- What SstableBack wants. Plain Lean. -/
import Derived.Test.YthdemdjobgbpdaaTK
set_option linter.unusedVariables false
set_option linter.unusedSimpArgs false
namespace Go.Proofs.Ythdemdjobgbpdaa.Q
open Go.RowKit Go.Proofs.YthdemdjobgbpdaaW.PrintWords Go.Proofs.YthdemdjobgbpdaaW.PrintLast Go.Proofs.YthdemdjobgbpdaaW.PrintMore Go.Proofs.Ythdemdjobgbpdaa.P Go.Proofs.Ythdemdjobgbpdaa.M Go.Proofs.Ythdemdjobgbpdaa.B Go.Proofs.Ythdemdjobgbpdaa.T
set_option linter.unusedVariables false
theorem refs_ev {L : List S47} (hl : L.length ≤ 1000000) (hc : ck none L = 0) : ∀ asks : List (ByteArray × Int), ∃ K, ∀ k, K ≤ k → ∀ u s, (u, s) ∈ asks → staddleref08_Get.f k L u s = some ((known L u s).1, (known L u s).2.1)
  | [] => ⟨0, fun _ _ u s h => by cases h⟩
  | x :: t => by
    obtain ⟨K1, h1⟩ := refGet_ev x.1 x.2 L hl hc
    obtain ⟨K2, h2⟩ := refs_ev hl hc t
    refine ⟨K1 + K2, fun k hk u s hus => ?_⟩
    rcases List.mem_cons.1 hus with e | e
    · have := h1 k (by omega)
      rw [← e] at this
      exact this
    · exact h2 k (by omega) u s e
def askList (L : List S47) (user : ByteArray) (seq : Int) : List (ByteArray × Int) := (user, seq) :: (List.range L.length).map (fun i : Nat => ((rd_T47 L (i : Int)).f0.f0, (rd_T47 L (i : Int)).f0.f1))
theorem askList_in {L : List S47} {user : ByteArray} {seq : Int} {u : ByteArray} {s : Int} (h : backAsks L user seq u s) : (u, s) ∈ askList L user seq := by
  rcases h with ⟨rfl, rfl⟩ | ⟨i, hi, rfl, rfl⟩
  · exact List.mem_cons_self
  · exact List.mem_cons_of_mem _ (List.mem_map.mpr ⟨i, List.mem_range.mpr hi, rfl⟩)
theorem rd_mem {L : List S47} {i : Nat} (hi : i < L.length) : rd_T47 L (i : Int) ∈ L := by
  simp only [rd_T47, Int.toNat_natCast, List.getD_eq_getElem?_getD, List.getElem?_eq_getElem hi, Option.getD_some]
  exact List.getElem_mem _
theorem back_ev (l : List S47) (blk iv : Int) (fb : Nat) (user : ByteArray) (seq : Int) (hw : ∀ e ∈ l, 0 ≤ e.f0.f1) (hs : ∀ e ∈ l, e.f0.f0.size ≤ 9223372036854775807) (hu : user.size ≤ 9223372036854775807) : ∃ k, Back k l blk iv fb user seq := by
  have hl := cut3h_len l
  have hq : ∀ e ∈ cut3h l, 0 ≤ e.f0.f1 := fun e he => hw e (cut3h_mem he)
  have hz : ∀ e ∈ cut3h l, e.f0.f0.size ≤ 9223372036854775807 := fun e he => hs e (cut3h_mem he)
  obtain ⟨r, ⟨K0, h0⟩, hr⟩ := tab_ev (cut3h l) blk iv fb hl hq hz
  obtain ⟨K1, h1⟩ := Same_ev (cut3h l) (by omega)
  rcases hr with hr | ⟨n, ss, fl, _, T, rfl⟩
  · exact ⟨K0 + K1, r, h0 _ (by omega), h1 _ (by omega), .inl hr⟩
  · obtain ⟨K2, h2⟩ := open_tab T
    obtain ⟨K3, h3⟩ := allt_ev T
    obtain ⟨K4, h4⟩ := asks_ev T (askList (cut3h l) user seq) (fun x hx => by
      rcases List.mem_cons.1 hx with rfl | hx
      · exact hu
      · obtain ⟨i, hi, rfl⟩ := List.mem_map.mp hx
        exact hz _ (rd_mem (List.mem_range.mp hi)))
    obtain ⟨K5, h5⟩ := refs_ev (L := cut3h l) (by omega) T.ck0 (askList (cut3h l) user seq)
    have hss : ss ≠ [] := fun e => T.ne (by rw [← T.seg.fl, e]; rfl)
    have hpl : (plsOf 0 (ss.map (cutOf n))).length = ss.length := by rw [plsOf_length, List.length_map]
    refine ⟨K0 + K1 + K2 + K3 + K4 + K5, _, h0 _ (by omega), h1 _ (by omega), .inr ⟨rfl, ⟨fl, plsOf 0 (ss.map (cutOf n)), ⟨_, _, _, _, _, _, _, _, _, h2 _ (by omega), rfl⟩, h3 _ (by omega), fun u s hus => h4 _ (by omega) u s (askList_in hus), ?_⟩, fun u s hus => h5 _ (by omega) u s (askList_in hus)⟩⟩
    rw [hpl]
    exact ⟨List.length_pos_iff.mpr hss, T.seg.len⟩
end Go.Proofs.Ythdemdjobgbpdaa.Q
namespace Go.Proofs.Ythdemdjobgbpdaa.P
open Go.RowKit Go.Proofs.YthdemdjobgbpdaaW.PrintWords
theorem staddlelaw12_SstableBack.calls (k : Nat) (A0 : Option Addr) (c0 : Nat) (l0 : List S47) (a1_0 a1_1 : Int) (a1_2 : Nat) (a2 : ByteArray) (a3 : Int) (r : Bool) (w : World) (hr0 : Kd.C k47 w A0 l0.length l0) (hc0 : l0.length ≤ c0) (hf : T.Back k l0 a1_0 a1_1 a1_2 a2 a3 ∧ true = r) :
    Calls Try.prog 5 #[.slice A0 l0.length c0, .agg #[.int .i64 a1_0, .int .i64 a1_1, .float .f64 a1_2], .string a2, .int .u64 a3] w fun e w' => e = .returned (.bool r) ∧ Below w.heap.size w w' := by
  obtain ⟨hf, rfl⟩ := hf
  exact T.back_calls k A0 c0 l0 a1_0 a1_1 a1_2 a2 a3 w hr0 hc0 hf
end Go.Proofs.Ythdemdjobgbpdaa.P
