-- By this session's wip/hprint.py: the kit's print.py with functions by hand beside it. Not trusted: Lean checks it.
import Derived.Test.YthdemdjobgbpdaaP0
import Derived.Test.YthdemdjobgbpdaaP4
import Derived.Test.YthdemdjobgbpdaaP5
import Derived.Test.YthdemdjobgbpdaaP7
namespace Go.Proofs.Ythdemdjobgbpdaa.P
open Go.RowKit Go.Proofs.YthdemdjobgbpdaaW.PrintWords Go.Proofs.YthdemdjobgbpdaaW.PrintLast Go.Proofs.YthdemdjobgbpdaaW.PrintMore
attribute [local go_sem] max2_int min2_int max_two min_two max_three min_three max_four min_four   -- for this text's walks alone
set_option linter.unusedVariables false
set_option linter.unusedSimpArgs false

/-! ### block_Build: function 19 -/
mutual
def block_Build.j0 : Nat → List (S47) → Int → Bool → Option (List Int × Int)
  | 0, _, _, _ => none
  | k + 1, x0, x1, x22 => if x22 = true then (some (([] : List Int), 1)) else (block_Build.l0 k x0 x1 ([] : List Int) ([] : List Int) ([] : List Int) 0 x0 (x0.length : Int) 0)
def block_Build.l0 : Nat → List (S47) → Int → List Int → List Int → List Int → Int → List (S47) → Int → Int → Option (List Int × Int)
  | 0, _, _, _, _, _, _, _, _, _ => none
  | k + 1, x0, x1, x6, x7, x8, x9, x23, x24, x25 => if x25 < x24 then (if 0 ≤ x25 then (if x25 < (x23.length : Int) then ((ikey_Encode.f k ((rd_T47 x23 x25).f0.f0) ((rd_T47 x23 x25).f0.f1) ((rd_T47 x23 x25).f0.f2)).bind fun bt148 => (if bt148.2 = 0 then (if (((rd_T47 x23 x25).f1).size : Int) > 1000 then (some (([] : List Int), 31)) else (if x25 > 0 then (if 0 ≤ (wrap64 (x25 - 1)) then (if (wrap64 (x25 - 1)) < (x0.length : Int) then ((ikey_Compare.f ((rd_T47 x0 (wrap64 (x25 - 1))).f0.f0) ((rd_T47 x0 (wrap64 (x25 - 1))).f0.f1) ((rd_T47 x0 (wrap64 (x25 - 1))).f0.f2) ((rd_T47 x23 x25).f0.f0) ((rd_T47 x23 x25).f0.f1) ((rd_T47 x23 x25).f0.f2)).bind fun t153 => (if t153 ≥ 0 then (some (([] : List Int), 110)) else (block_Build.j2 k x0 x1 x6 x7 x8 x9 x25 bt148.1 x23 x24 x25 ((rd_T47 x23 x25).f0.f0) ((rd_T47 x23 x25).f0.f1) ((rd_T47 x23 x25).f0.f2) ((rd_T47 x23 x25).f1)))) else (none)) else (none)) else (block_Build.j2 k x0 x1 x6 x7 x8 x9 x25 bt148.1 x23 x24 x25 ((rd_T47 x23 x25).f0.f0) ((rd_T47 x23 x25).f0.f1) ((rd_T47 x23 x25).f0.f2) ((rd_T47 x23 x25).f1)))) else (some (([] : List Int), bt148.2)))) else (none)) else (none)) else (if x6.length + x8.length < 140737488355328 then ((some (x6 ++ x8 : List Int)).bind fun y137 => (if y137.length < 140737488355328 then ((codec_PutFixed.f k (y137 ++ [(x1) % 256]) x9 4).bind fun t143 => (some (t143, 0))) else (none))) else (none))
def block_Build.j2 : Nat → List (S47) → Int → List Int → List Int → List Int → Int → Int → List Int → List (S47) → Int → Int → ByteArray → Int → Int → ByteArray → Option (List Int × Int)
  | 0, _, _, _, _, _, _, _, _, _, _, _, _, _, _, _ => none
  | k + 1, x0, x1, x6, x7, x8, x9, x10, x12, x23, x24, x25, x148000, x148001, x148002, x148003 => if x1 = 0 then (none) else (if (Int.tmod x10 x1) = 0 then ((codec_PutFixed.f k ([] : List Int) (IntKind.u64.wrap ((x6.length : Int))) 4).bind fun t154 => (if x8.length + t154.length < 140737488355328 then (block_Build.j4 k x0 x1 x6 (x8 ++ t154) (IntKind.u64.wrap (x9 + 1)) x12 0 x23 x24 x25 x148000 x148001 x148002 x148003) else (none))) else (block_Build.l1 k x0 x1 x6 x7 x8 x9 x12 0 x23 x24 x25 x148000 x148001 x148002 x148003))
def block_Build.j4 : Nat → List (S47) → Int → List Int → List Int → Int → List Int → Int → List (S47) → Int → Int → ByteArray → Int → Int → ByteArray → Option (List Int × Int)
  | 0, _, _, _, _, _, _, _, _, _, _, _, _, _, _ => none
  | k + 1, x0, x1, x6, x8, x9, x12, x14, x23, x24, x25, x148000, x148001, x148002, x148003 => (some (([x14, wrap64 ((x12.length : Int) - x14), (x148003.size : Int)] : List Int) : List Int)).bind fun y162 => (block_Build.l2 k x0 x1 x6 x8 x9 x12 x14 x23 x24 x25 y162 (y162.length : Int) 0 x148000 x148001 x148002 x148003)
def block_Build.l2 : Nat → List (S47) → Int → List Int → List Int → Int → List Int → Int → List (S47) → Int → Int → List Int → Int → Int → ByteArray → Int → Int → ByteArray → Option (List Int × Int)
  | 0, _, _, _, _, _, _, _, _, _, _, _, _, _, _, _, _, _ => none
  | k + 1, x0, x1, x6, x8, x9, x12, x14, x23, x24, x25, x103, x104, x105, x148000, x148001, x148002, x148003 => if x105 < x104 then (if 0 ≤ x105 then (if x105 < (x103.length : Int) then ((codec_PutUvarint.f k ([] : List Int) (IntKind.u64.wrap (rd x103 x105))).bind fun t166 => (if x6.length + t166.length < 140737488355328 then (block_Build.l2 k x0 x1 (x6 ++ t166) x8 x9 x12 x14 x23 x24 x25 x103 x104 (wrap64 (x105 + 1)) x148000 x148001 x148002 x148003) else (none))) else (none)) else (none)) else (if 0 ≤ x14 then (if x14 ≤ (x12.length : Int) then ((some (x12.drop (x14 : Int).toNat : List Int)).bind fun y172 => (if x6.length + y172.length < 140737488355328 then ((some (x6 ++ y172 : List Int)).bind fun y176 => (if y176.length + x148003.size < 140737488355328 then (block_Build.l0 k x0 x1 (y176 ++ bytesOf x148003) x12 x8 x9 x23 x24 (wrap64 (x25 + 1))) else (none))) else (none))) else (none)) else (none))
def block_Build.l1 : Nat → List (S47) → Int → List Int → List Int → List Int → Int → List Int → Int → List (S47) → Int → Int → ByteArray → Int → Int → ByteArray → Option (List Int × Int)
  | 0, _, _, _, _, _, _, _, _, _, _, _, _, _, _, _ => none
  | k + 1, x0, x1, x6, x7, x8, x9, x12, x14, x23, x24, x25, x148000, x148001, x148002, x148003 => if x14 < (x7.length : Int) then (if x14 < (x12.length : Int) then (if 0 ≤ x14 then (if (rd x7 x14) = (rd x12 x14) then (block_Build.l1 k x0 x1 x6 x7 x8 x9 x12 (wrap64 (x14 + 1)) x23 x24 x25 x148000 x148001 x148002 x148003) else (block_Build.j4 k x0 x1 x6 x8 x9 x12 x14 x23 x24 x25 x148000 x148001 x148002 x148003)) else (none)) else (block_Build.j4 k x0 x1 x6 x8 x9 x12 x14 x23 x24 x25 x148000 x148001 x148002 x148003)) else (block_Build.j4 k x0 x1 x6 x8 x9 x12 x14 x23 x24 x25 x148000 x148001 x148002 x148003)
end
def block_Build.f (k : Nat) (l0 : List (S47)) (a1 : Int) : Option (List Int × Int) := if a1 < 1 then (block_Build.j0 k l0 a1 true) else (block_Build.j0 k l0 a1 (decide (a1 > 16)))
theorem block_Build.mono_l : ∀ k, (∀ y0 y1 y2, LeO (block_Build.j0 k y0 y1 y2) (block_Build.j0 (k + 1) y0 y1 y2)) ∧ (∀ y0 y1 y2 y3 y4 y5 y6 y7 y8, LeO (block_Build.l0 k y0 y1 y2 y3 y4 y5 y6 y7 y8) (block_Build.l0 (k + 1) y0 y1 y2 y3 y4 y5 y6 y7 y8)) ∧ (∀ y0 y1 y2 y3 y4 y5 y6 y7 y8 y9 y10 y11 y12 y13 y14, LeO (block_Build.j2 k y0 y1 y2 y3 y4 y5 y6 y7 y8 y9 y10 y11 y12 y13 y14) (block_Build.j2 (k + 1) y0 y1 y2 y3 y4 y5 y6 y7 y8 y9 y10 y11 y12 y13 y14)) ∧ (∀ y0 y1 y2 y3 y4 y5 y6 y7 y8 y9 y10 y11 y12 y13, LeO (block_Build.j4 k y0 y1 y2 y3 y4 y5 y6 y7 y8 y9 y10 y11 y12 y13) (block_Build.j4 (k + 1) y0 y1 y2 y3 y4 y5 y6 y7 y8 y9 y10 y11 y12 y13)) ∧ (∀ y0 y1 y2 y3 y4 y5 y6 y7 y8 y9 y10 y11 y12 y13 y14 y15 y16, LeO (block_Build.l2 k y0 y1 y2 y3 y4 y5 y6 y7 y8 y9 y10 y11 y12 y13 y14 y15 y16) (block_Build.l2 (k + 1) y0 y1 y2 y3 y4 y5 y6 y7 y8 y9 y10 y11 y12 y13 y14 y15 y16)) ∧ (∀ y0 y1 y2 y3 y4 y5 y6 y7 y8 y9 y10 y11 y12 y13 y14, LeO (block_Build.l1 k y0 y1 y2 y3 y4 y5 y6 y7 y8 y9 y10 y11 y12 y13 y14) (block_Build.l1 (k + 1) y0 y1 y2 y3 y4 y5 y6 y7 y8 y9 y10 y11 y12 y13 y14))
  | 0 => ⟨fun _ _ _ r h => by simp [block_Build.j0] at h, fun _ _ _ _ _ _ _ _ _ r h => by simp [block_Build.l0] at h, fun _ _ _ _ _ _ _ _ _ _ _ _ _ _ _ r h => by simp [block_Build.j2] at h, fun _ _ _ _ _ _ _ _ _ _ _ _ _ _ r h => by simp [block_Build.j4] at h, fun _ _ _ _ _ _ _ _ _ _ _ _ _ _ _ _ _ r h => by simp [block_Build.l2] at h, fun _ _ _ _ _ _ _ _ _ _ _ _ _ _ _ r h => by simp [block_Build.l1] at h⟩
  | k + 1 => by
    obtain ⟨ih0, ih1, ih2, ih3, ih4, ih5⟩ := block_Build.mono_l k
    refine ⟨?_, ?_, ?_, ?_, ?_, ?_⟩
    · intro y0 y1 y2
      unfold block_Build.j0
      repeat' first
      | (with_reducible exact ih0 _ _ _)
      | (with_reducible exact ih1 _ _ _ _ _ _ _ _ _)
      | (with_reducible exact ih2 _ _ _ _ _ _ _ _ _ _ _ _ _ _ _)
      | (with_reducible exact ih3 _ _ _ _ _ _ _ _ _ _ _ _ _ _)
      | (with_reducible exact ih4 _ _ _ _ _ _ _ _ _ _ _ _ _ _ _ _ _)
      | (with_reducible exact ih5 _ _ _ _ _ _ _ _ _ _ _ _ _ _ _)
      | (with_reducible exact codec_PutFixed.mono _ _ _ _)
      | (with_reducible exact codec_PutUvarint.mono _ _ _)
      | (with_reducible exact ikey_Encode.mono _ _ _ _)
      | (with_reducible exact LeO.refl _)
      | (with_reducible exact LeO.none _)
      | (with_reducible refine LeO.ite ?_ ?_)
      | (with_reducible refine LeO.bind ?_ (fun _ => ?_))
      | exact ih0 _ _ _
      | exact ih1 _ _ _ _ _ _ _ _ _
      | exact ih2 _ _ _ _ _ _ _ _ _ _ _ _ _ _ _
      | exact ih3 _ _ _ _ _ _ _ _ _ _ _ _ _ _
      | exact ih4 _ _ _ _ _ _ _ _ _ _ _ _ _ _ _ _ _
      | exact ih5 _ _ _ _ _ _ _ _ _ _ _ _ _ _ _
      | exact codec_PutFixed.mono _ _ _ _
      | exact codec_PutUvarint.mono _ _ _
      | exact ikey_Encode.mono _ _ _ _
      | exact LeO.none _
      | refine LeO.ite ?_ ?_
      | refine LeO.bind ?_ (fun _ => ?_)
    · intro y0 y1 y2 y3 y4 y5 y6 y7 y8
      unfold block_Build.l0
      repeat' first
      | (with_reducible exact ih0 _ _ _)
      | (with_reducible exact ih1 _ _ _ _ _ _ _ _ _)
      | (with_reducible exact ih2 _ _ _ _ _ _ _ _ _ _ _ _ _ _ _)
      | (with_reducible exact ih3 _ _ _ _ _ _ _ _ _ _ _ _ _ _)
      | (with_reducible exact ih4 _ _ _ _ _ _ _ _ _ _ _ _ _ _ _ _ _)
      | (with_reducible exact ih5 _ _ _ _ _ _ _ _ _ _ _ _ _ _ _)
      | (with_reducible exact codec_PutFixed.mono _ _ _ _)
      | (with_reducible exact codec_PutUvarint.mono _ _ _)
      | (with_reducible exact ikey_Encode.mono _ _ _ _)
      | (with_reducible exact LeO.refl _)
      | (with_reducible exact LeO.none _)
      | (with_reducible refine LeO.ite ?_ ?_)
      | (with_reducible refine LeO.bind ?_ (fun _ => ?_))
      | exact ih0 _ _ _
      | exact ih1 _ _ _ _ _ _ _ _ _
      | exact ih2 _ _ _ _ _ _ _ _ _ _ _ _ _ _ _
      | exact ih3 _ _ _ _ _ _ _ _ _ _ _ _ _ _
      | exact ih4 _ _ _ _ _ _ _ _ _ _ _ _ _ _ _ _ _
      | exact ih5 _ _ _ _ _ _ _ _ _ _ _ _ _ _ _
      | exact codec_PutFixed.mono _ _ _ _
      | exact codec_PutUvarint.mono _ _ _
      | exact ikey_Encode.mono _ _ _ _
      | exact LeO.none _
      | refine LeO.ite ?_ ?_
      | refine LeO.bind ?_ (fun _ => ?_)
    · intro y0 y1 y2 y3 y4 y5 y6 y7 y8 y9 y10 y11 y12 y13 y14
      unfold block_Build.j2
      repeat' first
      | (with_reducible exact ih0 _ _ _)
      | (with_reducible exact ih1 _ _ _ _ _ _ _ _ _)
      | (with_reducible exact ih2 _ _ _ _ _ _ _ _ _ _ _ _ _ _ _)
      | (with_reducible exact ih3 _ _ _ _ _ _ _ _ _ _ _ _ _ _)
      | (with_reducible exact ih4 _ _ _ _ _ _ _ _ _ _ _ _ _ _ _ _ _)
      | (with_reducible exact ih5 _ _ _ _ _ _ _ _ _ _ _ _ _ _ _)
      | (with_reducible exact codec_PutFixed.mono _ _ _ _)
      | (with_reducible exact codec_PutUvarint.mono _ _ _)
      | (with_reducible exact ikey_Encode.mono _ _ _ _)
      | (with_reducible exact LeO.refl _)
      | (with_reducible exact LeO.none _)
      | (with_reducible refine LeO.ite ?_ ?_)
      | (with_reducible refine LeO.bind ?_ (fun _ => ?_))
      | exact ih0 _ _ _
      | exact ih1 _ _ _ _ _ _ _ _ _
      | exact ih2 _ _ _ _ _ _ _ _ _ _ _ _ _ _ _
      | exact ih3 _ _ _ _ _ _ _ _ _ _ _ _ _ _
      | exact ih4 _ _ _ _ _ _ _ _ _ _ _ _ _ _ _ _ _
      | exact ih5 _ _ _ _ _ _ _ _ _ _ _ _ _ _ _
      | exact codec_PutFixed.mono _ _ _ _
      | exact codec_PutUvarint.mono _ _ _
      | exact ikey_Encode.mono _ _ _ _
      | exact LeO.none _
      | refine LeO.ite ?_ ?_
      | refine LeO.bind ?_ (fun _ => ?_)
    · intro y0 y1 y2 y3 y4 y5 y6 y7 y8 y9 y10 y11 y12 y13
      unfold block_Build.j4
      repeat' first
      | (with_reducible exact ih0 _ _ _)
      | (with_reducible exact ih1 _ _ _ _ _ _ _ _ _)
      | (with_reducible exact ih2 _ _ _ _ _ _ _ _ _ _ _ _ _ _ _)
      | (with_reducible exact ih3 _ _ _ _ _ _ _ _ _ _ _ _ _ _)
      | (with_reducible exact ih4 _ _ _ _ _ _ _ _ _ _ _ _ _ _ _ _ _)
      | (with_reducible exact ih5 _ _ _ _ _ _ _ _ _ _ _ _ _ _ _)
      | (with_reducible exact codec_PutFixed.mono _ _ _ _)
      | (with_reducible exact codec_PutUvarint.mono _ _ _)
      | (with_reducible exact ikey_Encode.mono _ _ _ _)
      | (with_reducible exact LeO.refl _)
      | (with_reducible exact LeO.none _)
      | (with_reducible refine LeO.ite ?_ ?_)
      | (with_reducible refine LeO.bind ?_ (fun _ => ?_))
      | exact ih0 _ _ _
      | exact ih1 _ _ _ _ _ _ _ _ _
      | exact ih2 _ _ _ _ _ _ _ _ _ _ _ _ _ _ _
      | exact ih3 _ _ _ _ _ _ _ _ _ _ _ _ _ _
      | exact ih4 _ _ _ _ _ _ _ _ _ _ _ _ _ _ _ _ _
      | exact ih5 _ _ _ _ _ _ _ _ _ _ _ _ _ _ _
      | exact codec_PutFixed.mono _ _ _ _
      | exact codec_PutUvarint.mono _ _ _
      | exact ikey_Encode.mono _ _ _ _
      | exact LeO.none _
      | refine LeO.ite ?_ ?_
      | refine LeO.bind ?_ (fun _ => ?_)
    · intro y0 y1 y2 y3 y4 y5 y6 y7 y8 y9 y10 y11 y12 y13 y14 y15 y16
      unfold block_Build.l2
      repeat' first
      | (with_reducible exact ih0 _ _ _)
      | (with_reducible exact ih1 _ _ _ _ _ _ _ _ _)
      | (with_reducible exact ih2 _ _ _ _ _ _ _ _ _ _ _ _ _ _ _)
      | (with_reducible exact ih3 _ _ _ _ _ _ _ _ _ _ _ _ _ _)
      | (with_reducible exact ih4 _ _ _ _ _ _ _ _ _ _ _ _ _ _ _ _ _)
      | (with_reducible exact ih5 _ _ _ _ _ _ _ _ _ _ _ _ _ _ _)
      | (with_reducible exact codec_PutFixed.mono _ _ _ _)
      | (with_reducible exact codec_PutUvarint.mono _ _ _)
      | (with_reducible exact ikey_Encode.mono _ _ _ _)
      | (with_reducible exact LeO.refl _)
      | (with_reducible exact LeO.none _)
      | (with_reducible refine LeO.ite ?_ ?_)
      | (with_reducible refine LeO.bind ?_ (fun _ => ?_))
      | exact ih0 _ _ _
      | exact ih1 _ _ _ _ _ _ _ _ _
      | exact ih2 _ _ _ _ _ _ _ _ _ _ _ _ _ _ _
      | exact ih3 _ _ _ _ _ _ _ _ _ _ _ _ _ _
      | exact ih4 _ _ _ _ _ _ _ _ _ _ _ _ _ _ _ _ _
      | exact ih5 _ _ _ _ _ _ _ _ _ _ _ _ _ _ _
      | exact codec_PutFixed.mono _ _ _ _
      | exact codec_PutUvarint.mono _ _ _
      | exact ikey_Encode.mono _ _ _ _
      | exact LeO.none _
      | refine LeO.ite ?_ ?_
      | refine LeO.bind ?_ (fun _ => ?_)
    · intro y0 y1 y2 y3 y4 y5 y6 y7 y8 y9 y10 y11 y12 y13 y14
      unfold block_Build.l1
      repeat' first
      | (with_reducible exact ih0 _ _ _)
      | (with_reducible exact ih1 _ _ _ _ _ _ _ _ _)
      | (with_reducible exact ih2 _ _ _ _ _ _ _ _ _ _ _ _ _ _ _)
      | (with_reducible exact ih3 _ _ _ _ _ _ _ _ _ _ _ _ _ _)
      | (with_reducible exact ih4 _ _ _ _ _ _ _ _ _ _ _ _ _ _ _ _ _)
      | (with_reducible exact ih5 _ _ _ _ _ _ _ _ _ _ _ _ _ _ _)
      | (with_reducible exact codec_PutFixed.mono _ _ _ _)
      | (with_reducible exact codec_PutUvarint.mono _ _ _)
      | (with_reducible exact ikey_Encode.mono _ _ _ _)
      | (with_reducible exact LeO.refl _)
      | (with_reducible exact LeO.none _)
      | (with_reducible refine LeO.ite ?_ ?_)
      | (with_reducible refine LeO.bind ?_ (fun _ => ?_))
      | exact ih0 _ _ _
      | exact ih1 _ _ _ _ _ _ _ _ _
      | exact ih2 _ _ _ _ _ _ _ _ _ _ _ _ _ _ _
      | exact ih3 _ _ _ _ _ _ _ _ _ _ _ _ _ _
      | exact ih4 _ _ _ _ _ _ _ _ _ _ _ _ _ _ _ _ _
      | exact ih5 _ _ _ _ _ _ _ _ _ _ _ _ _ _ _
      | exact codec_PutFixed.mono _ _ _ _
      | exact codec_PutUvarint.mono _ _ _
      | exact ikey_Encode.mono _ _ _ _
      | exact LeO.none _
      | refine LeO.ite ?_ ?_
      | refine LeO.bind ?_ (fun _ => ?_)
theorem block_Build.mono : ∀ a0 a1 k, LeO (block_Build.f k a0 a1) (block_Build.f (k + 1) a0 a1) := by
  intro a0 a1 k
  obtain ⟨ih0, ih1, ih2, ih3, ih4, ih5⟩ := block_Build.mono_l k
  unfold block_Build.f
  repeat' first
      | (with_reducible exact ih0 _ _ _)
      | (with_reducible exact ih1 _ _ _ _ _ _ _ _ _)
      | (with_reducible exact ih2 _ _ _ _ _ _ _ _ _ _ _ _ _ _ _)
      | (with_reducible exact ih3 _ _ _ _ _ _ _ _ _ _ _ _ _ _)
      | (with_reducible exact ih4 _ _ _ _ _ _ _ _ _ _ _ _ _ _ _ _ _)
      | (with_reducible exact ih5 _ _ _ _ _ _ _ _ _ _ _ _ _ _ _)
      | (with_reducible exact codec_PutFixed.mono _ _ _ _)
      | (with_reducible exact codec_PutUvarint.mono _ _ _)
      | (with_reducible exact ikey_Encode.mono _ _ _ _)
      | (with_reducible exact LeO.refl _)
      | (with_reducible exact LeO.none _)
      | (with_reducible refine LeO.ite ?_ ?_)
      | (with_reducible refine LeO.bind ?_ (fun _ => ?_))
      | exact ih0 _ _ _
      | exact ih1 _ _ _ _ _ _ _ _ _
      | exact ih2 _ _ _ _ _ _ _ _ _ _ _ _ _ _ _
      | exact ih3 _ _ _ _ _ _ _ _ _ _ _ _ _ _
      | exact ih4 _ _ _ _ _ _ _ _ _ _ _ _ _ _ _ _ _
      | exact ih5 _ _ _ _ _ _ _ _ _ _ _ _ _ _ _
      | exact codec_PutFixed.mono _ _ _ _
      | exact codec_PutUvarint.mono _ _ _
      | exact ikey_Encode.mono _ _ _ _
      | exact LeO.none _
      | refine LeO.ite ?_ ?_
      | refine LeO.bind ?_ (fun _ => ?_)
def block_Build.T13 : Bool × List (List Nat × List Nat) := (true, [([], []), ([0], [0]), ([1], [1]), ([2], [2]), ([2], [2]), ([4, 2], [2, 4]), ([3, 5, 2], [2, 3, 5]), ([6, 2], [2, 6]), ([7, 2], [2, 7]), ([2], [2]), ([9, 2], [2, 9]), ([8, 10, 2, 2], [2, 8, 10]), ([11, 2], [2, 11]), ([2, 12], [2, 12]), ([13, 11], [13])])
def block_Build.B13 : List Nat := [0, 1, 3, 7, 7, 23, 63, 127, 255, 7, 519, 2047, 4095, 8191, 16383]
theorem block_Build.tab13 : rtab .any (opsOf Try.f19 13) = block_Build.T13 := by kernel_rfl
theorem block_Build.bits13 : waitsOk block_Build.T13.2 block_Build.B13 = true := by kernel_rfl
def block_Build.T19 : Bool × List (List Nat × List Nat) := (true, [([], []), ([], []), ([1], [1]), ([0, 2], [0, 2]), ([3], [3]), ([4], [4]), ([4], [4]), ([6, 4], [4, 6]), ([5, 7, 4], [4, 5, 7]), ([4, 8], [4, 8]), ([9, 4], [9]), ([10], [10]), ([10], [10]), ([11, 12, 10], [10, 11, 12]), ([13, 10], [10, 13]), ([10], [10]), ([10], [10]), ([15, 16, 10], [10, 15, 16]), ([17, 10], [10, 17]), ([14, 18, 10], [10, 14, 18]), ([10, 19], [10, 19])])
def block_Build.B19 : List Nat := [0, 0, 2, 7, 15, 31, 31, 95, 255, 511, 1023, 2047, 2047, 8191, 16383, 2047, 2047, 100351, 231423, 524287, 1048575]
theorem block_Build.tab19 : rtab .any (opsOf Try.f19 19) = block_Build.T19 := by kernel_rfl
theorem block_Build.bits19 : waitsOk block_Build.T19.2 block_Build.B19 = true := by kernel_rfl
def block_Build.T26 : Bool × List (List Nat × List Nat) := (true, [([], []), ([], []), ([], []), ([1, 2], [1, 2]), ([0, 3], [0, 3]), ([], []), ([5], [5]), ([4, 6, 4], [4, 6]), ([7, 7, 0, 1, 2, 3, 4, 5, 6, 7], [0, 7])])
def block_Build.B26 : List Nat := [0, 0, 0, 6, 15, 0, 32, 127, 255]
theorem block_Build.tab26 : rtab .any (opsOf Try.f19 26) = block_Build.T26 := by kernel_rfl
theorem block_Build.bits26 : waitsOk block_Build.T26.2 block_Build.B26 = true := by kernel_rfl
set_option maxHeartbeats 8000000 in
set_option maxRecDepth 100000 in
theorem block_Build.calls (k : Nat) (A0 : Option Addr) (c0 : Nat) (l0 : List (S47)) (a1 : Int) (r1 : List Int) (r2 : Int) (w : World) (hr0 : Kd.C k47 w A0 l0.length l0) (hc0 : l0.length ≤ c0) (h : block_Build.f k l0 a1 = some (r1, r2)) :
    Calls Try.prog 19 #[.slice A0 l0.length c0, .int .i64 a1] w fun e w' => ∃ v0_ : Value, e = .returned (.tuple #[v0_, .int .i64 r2]) ∧ Kd.R (Kd.int .u8) 5 w' w.heap.size (fun _ => True) v0_ r1 ∧ Below w.heap.size w w' := by
  have hu47 := Try.underlying47
  have hu45 := Try.underlying45
  have HR0 := Aside0.mk hr0
  have HC0 := Aside0.mk hc0
  clear hr0 hc0
  have HB := Aside0.mk (Below.refl w.heap.size w)
  have H : (if a1 < 1 then (block_Build.j0 k l0 a1 true) else (block_Build.j0 k l0 a1 (decide (a1 > 16)))) = some (r1, r2) := h
  clear h
  have HC3 := Aside0.mk H
  clear H
  go_enter Try.func19, Try.ntmps19
  go_upto_region 1 with (fail)
  go_cut [22] (fun v22 wc => ∃ (kq : Nat) (x22_2 : Bool), v22 = .bool x22_2 ∧ Aside0 (block_Build.j0 kq l0 a1 x22_2 = some (r1, r2)) ∧ Aside0 (kq ≤ k) ∧ Aside0 (Below w.heap.size w wc))
  case first =>
    have H := HC3.out
    clear HC3
    by_cases c4 : a1 < 1
    · rw [if_pos c4] at H
      have c4b0 : decide (a1 < 1) = true := decide_eq_true c4
      clear c4
      (first | rw [c4b0] | (simp only [i64_w, i32_w]; rw [c4b0]) | skip)
      have H' := Aside0.mk H
      clear H
      go_wp2
      go_meet
      case rel => exact ⟨_, (true), (by first | rfl | (simp; done) | (simp [*]; done) | (simp; omega)), H', ⟨by first | omega | exact Nat.le_refl _⟩, ⟨by repeat (first | (with_reducible first | exact HB.out | apply below_alloc | apply pw_below_drewN | apply below_drew1) | exact HB.out)⟩⟩
    · rw [if_neg c4] at H
      have c4b0 : decide (a1 < 1) = false := decide_eq_false c4
      clear c4
      (first | rw [c4b0] | (simp only [i64_w, i32_w]; rw [c4b0]) | skip)
      have H' := Aside0.mk H
      clear H
      go_wp2
      go_meet
      case rel => exact ⟨_, (decide (a1 > 16)), (by first | rfl | (simp; done) | (simp [*]; done) | (simp; omega)), H', ⟨by first | omega | exact Nat.le_refl _⟩, ⟨by repeat (first | (with_reducible first | exact HB.out | apply below_alloc | apply pw_below_drewN | apply below_drew1) | exact HB.out)⟩⟩
  case rest =>
    clear HC3
    try clear c1
    try clear p2
    try clear c4
    try clear c4b0
    obtain ⟨kq, x22_2, rfl, HA, HJ2, HB⟩ := hcut
    cases kq with
    | zero => exact absurd HA.out (by simp [block_Build.j0])
    | succ kj2 =>
      have H := HA.out
      clear HA
      simp only [block_Build.j0] at H
      by_cases c5 : x22_2 = true
      · subst c5
        have H1 : (some (([] : List Int), 1)) = some (r1, r2) := by rw [if_pos rfl] at H; exact H
        clear H
        have H := H1
        clear H1
        simp only [Option.some.injEq, Prod.mk.injEq] at H
        obtain ⟨rfl, rfl⟩ := H
        go_wp2
        go_ret2
        exact ⟨_, by first | rfl | (simp [errW_none, errW_some] <;> rfl) | (simp [*, errW_none, errW_some] <;> rfl), by first | exact Kd.R_nil _ _ _ _ _ | exact Kd.N_nil _ _ _ _ _ | exact Kd.V_nil _ _ _ _ _ | exact Kd.Q_nil _ _ _ _ _ | exact Kd.S_nil _ _ _ _ _, by repeat (first | (with_reducible first | exact HB.out | apply below_alloc | apply pw_below_drewN | apply below_drew1) | exact HB.out)⟩
      · replace c5 := Bool.eq_false_iff.mpr c5
        subst c5
        have H1 : (block_Build.l0 kj2 l0 a1 ([] : List Int) ([] : List Int) ([] : List Int) 0 l0 (l0.length : Int) 0) = some (r1, r2) := by rw [if_neg (show ¬ (false = true) by decide)] at H; exact H
        clear H
        have H := H1
        clear H1
        have H' := Aside0.mk H
        clear H
        go_wp2
        go_loopg [6, 7, 8, 9, 25] kj2 (fun kq v6 v7 v8 v9 v25 w' => ∃ (x6_2 : List Int) (x7_2 : List Int) (x8_2 : List Int) (x9_2 : Int) (x25_2 : Int), v9 = .int .u64 x9_2 ∧ v25 = .int .i64 x25_2 ∧ Aside0 (block_Build.l0 kq l0 a1 x6_2 x7_2 x8_2 x9_2 l0 (l0.length : Int) x25_2 = some (r1, r2)) ∧ Aside0 (kq ≤ kj2) ∧ Aside0 (Kd.R (Kd.int .u8) 5 w' w.heap.size (fun k_ => some k_ ≠ (v7 : Value).ownBlock ∧ some k_ ≠ (v8 : Value).ownBlock) v6 x6_2) ∧ Aside0 (Kd.R (Kd.int .u8) 5 w' w.heap.size (fun k_ => some k_ ≠ (v6 : Value).ownBlock ∧ some k_ ≠ (v8 : Value).ownBlock) v7 x7_2) ∧ Aside0 (Kd.R (Kd.int .u8) 5 w' w.heap.size (fun k_ => some k_ ≠ (v6 : Value).ownBlock ∧ some k_ ≠ (v7 : Value).ownBlock) v8 x8_2) ∧ Aside0 (Below w.heap.size w w'))
        case atStart => exact ⟨(([] : List Int)), (([] : List Int)), (([] : List Int)), (0), (0), (by first | rfl | (simp; done) | (simp [*]; done) | (simp; omega)), (by first | rfl | (simp; done) | (simp [*]; done) | (simp; omega)), H', ⟨Nat.le_refl _⟩, ⟨by first | exact Kd.R_nil _ _ _ _ _ | exact Kd.N_nil _ _ _ _ _ | exact Kd.V_nil _ _ _ _ _ | exact Kd.Q_nil _ _ _ _ _ | exact Kd.S_nil _ _ _ _ _⟩, ⟨by first | exact Kd.R_nil _ _ _ _ _ | exact Kd.N_nil _ _ _ _ _ | exact Kd.V_nil _ _ _ _ _ | exact Kd.Q_nil _ _ _ _ _ | exact Kd.S_nil _ _ _ _ _⟩, ⟨by first | exact Kd.R_nil _ _ _ _ _ | exact Kd.N_nil _ _ _ _ _ | exact Kd.V_nil _ _ _ _ _ | exact Kd.Q_nil _ _ _ _ _ | exact Kd.S_nil _ _ _ _ _⟩, ⟨by repeat (first | (with_reducible first | exact HB.out | apply below_alloc | apply pw_below_drewN | apply below_drew1) | exact HB.out)⟩⟩
        case round =>
          clear H'
          try clear c1
          try clear p2
          try clear c4
          try clear c4b0
          try clear c5
          try clear p2
          obtain ⟨x6_2, x7_2, x8_2, x9_2, x25_2, rfl, rfl, HA, HK2, HO_6, HO_7, HO_8, HB⟩ := hrel
          cases gk with
          | zero => exact absurd HA.out (by simp [block_Build.l0])
          | succ k2 =>
            have H := HA.out
            clear HA
            simp only [block_Build.l0] at H
            by_cases c6 : x25_2 < (l0.length : Int)
            · rw [if_pos c6] at H
              have c6b0 : decide (x25_2 < (l0.length : Int)) = true := decide_eq_true c6
              clear c6
              by_cases c7 : 0 ≤ x25_2
              · rw [if_pos c7] at H
                have c7b0 : decide (0 ≤ x25_2) = true := decide_eq_true c7
                clear c7
                by_cases c8 : x25_2 < (l0.length : Int)
                · rw [if_pos c8] at H
                  have c8b0 : decide (x25_2 < (l0.length : Int)) = true := decide_eq_true c8
                  clear c8
                  replace H := Option.bind_eq_some_iff.mp H
                  obtain ⟨⟨t148, t151⟩, A90, H⟩ := H
                  replace H : (if t151 = 0 then (if (((rd_T47 l0 x25_2).f1).size : Int) > 1000 then (some (([] : List Int), 31)) else (if x25_2 > 0 then (if 0 ≤ (wrap64 (x25_2 - 1)) then (if (wrap64 (x25_2 - 1)) < (l0.length : Int) then ((ikey_Compare.f ((rd_T47 l0 (wrap64 (x25_2 - 1))).f0.f0) ((rd_T47 l0 (wrap64 (x25_2 - 1))).f0.f1) ((rd_T47 l0 (wrap64 (x25_2 - 1))).f0.f2) ((rd_T47 l0 x25_2).f0.f0) ((rd_T47 l0 x25_2).f0.f1) ((rd_T47 l0 x25_2).f0.f2)).bind fun t153 => (if t153 ≥ 0 then (some (([] : List Int), 110)) else (block_Build.j2 k2 l0 a1 x6_2 x7_2 x8_2 x9_2 x25_2 t148 l0 (l0.length : Int) x25_2 ((rd_T47 l0 x25_2).f0.f0) ((rd_T47 l0 x25_2).f0.f1) ((rd_T47 l0 x25_2).f0.f2) ((rd_T47 l0 x25_2).f1)))) else (none)) else (none)) else (block_Build.j2 k2 l0 a1 x6_2 x7_2 x8_2 x9_2 x25_2 t148 l0 (l0.length : Int) x25_2 ((rd_T47 l0 x25_2).f0.f0) ((rd_T47 l0 x25_2).f0.f1) ((rd_T47 l0 x25_2).f0.f2) ((rd_T47 l0 x25_2).f1)))) else (some (([] : List Int), t151))) = some (r1, r2) := H
                  have A9 := Aside0.mk A90
                  clear A90
                  have HC10 := Aside0.mk H
                  clear H
                  have p146 : 0 ≤ (x25_2 : Int) := of_decide_eq_true (by first | (with_reducible assumption) | assumption)
                  have q146 : x25_2 < (l0.length : Int) := of_decide_eq_true (by first | (with_reducible assumption) | assumption)
                  obtain ⟨ad146, e146, hx146_0, hx146_1, hx146_2, hx146_3⟩ := at_T47 HR0.out x25_2 p146 q146
                  cases e146
                  replace hx146_0 := (HB.out.cell (World.block_lt_of_cell? w _ hx146_0)).trans hx146_0
                  replace hx146_1 := (HB.out.cell (World.block_lt_of_cell? w _ hx146_1)).trans hx146_1
                  replace hx146_2 := (HB.out.cell (World.block_lt_of_cell? w _ hx146_2)).trans hx146_2
                  replace hx146_3 := (HB.out.cell (World.block_lt_of_cell? w _ hx146_3)).trans hx146_3
                  replace p146 := eq_true p146
                  replace q146 := eq_true q146
                  go_upto_block 2 with (first | ((with_reducible refine gate_dst (N := 11) rfl ?_); (try (refine gate_guard (by rfl) ?_; dsimp only)); refine box_event ?hg (N := 11) ?hd (cs := #[.string (⟨#[]⟩ : ByteArray), .int .u64 0, .int .i64 0, .string (⟨#[]⟩ : ByteArray)]) (t := 47) ?hr ?_; (case hd => rfl); (case hg => rfl); (case hr => first | (go_simp; done) | (go_simp; rfl)); intro gb147 hg w11 hbox hb; have n0_ := Aside0.mk (Kd.R_below (by (with_reducible repeat (first | apply Kd.R_alloc | apply Kd.R_drewN | apply Kd.R_drew)); exact HO_6.out) hb); have n1_ := Aside0.mk (Kd.R_below (by (with_reducible repeat (first | apply Kd.R_alloc | apply Kd.R_drewN | apply Kd.R_drew)); exact HO_7.out) hb); have n2_ := Aside0.mk (Kd.R_below (by (with_reducible repeat (first | apply Kd.R_alloc | apply Kd.R_drewN | apply Kd.R_drew)); exact HO_8.out) hb); have n3_ := Aside0.mk (below_step (by repeat (first | (with_reducible first | exact HB.out | apply below_alloc | apply pw_below_drewN | apply below_drew1) | exact HB.out)) hb); have n4_ := Aside0.mk (hbox); have n5_ := Aside0.mk ((by rw [hg]; exact (below_size (by repeat (first | (with_reducible first | exact HB.out | apply below_alloc | apply pw_below_drewN | apply below_drew1) | exact HB.out))) : w.heap.size ≤ gb147)); have n6_ := Aside0.mk ((by rw [hg]; exact (below_size (by repeat (first | (with_reducible first | exact HB.out | apply below_alloc | apply pw_below_drewN | apply below_drew1) | exact HB.out))) : w.heap.size ≤ gb147)); clear HO_6; clear HO_7; clear HO_8; clear HB; have HO_6 := n0_; have HO_7 := n1_; have HO_8 := n2_; have HB := n3_; have BK147 := n4_; have GW147 := n5_; have GE147 := n6_; clear n0_ n1_ n2_ n3_ n4_ n5_ n6_; clear hb hbox hg; have hcz12_0 : w11.cell? ⟨gb147, 0, none⟩ = some (.string (⟨#[]⟩ : ByteArray)) := (blk_cell BK147.out 0).trans rfl; have hcz12_1 : w11.cell? ⟨gb147, 1, none⟩ = some (.int .u64 0) := (blk_cell BK147.out 1).trans rfl; have hcz12_2 : w11.cell? ⟨gb147, 2, none⟩ = some (.int .i64 0) := (blk_cell BK147.out 2).trans rfl; have hcz12_3 : w11.cell? ⟨gb147, 3, none⟩ = some (.string (⟨#[]⟩ : ByteArray)) := (blk_cell BK147.out 3).trans rfl; have hfz12_0 := blk_frozen BK147.out 0; have hfz12_1 := blk_frozen BK147.out 1; have hfz12_2 := blk_frozen BK147.out 2; have hfz12_3 := blk_frozen BK147.out 3) | ((with_reducible refine gate_callee (f := 45) rfl ?_); refine goesL_ (some 33) rfl rfl Try.func45 (by kernel_rfl) rfl #[.agg #[.string ((rd_T47 l0 x25_2).f0.f0), .int .u64 ((rd_T47 l0 x25_2).f0.f1), .int .i64 ((rd_T47 l0 x25_2).f0.f2)]] rfl (by (try simp only [List.map_toArray, List.map_cons, List.map_nil]); first | done | rfl | (simp only [List.length_drop, List.length_take]; rfl)) ?_; (with_reducible refine (ikey_Encode.calls k2 ((rd_T47 l0 x25_2).f0.f0) ((rd_T47 l0 x25_2).f0.f1) ((rd_T47 l0 x25_2).f0.f2) t148 t151 _ A9.out).mono ?_); rintro e w13 ⟨v149, rfl, ho0, hb⟩; refine ⟨_, rfl, ?_⟩; have n0_ := Aside0.mk (Kd.R_elder' (by (with_reducible repeat (first | apply Kd.R_alloc | apply Kd.R_drewN | apply Kd.R_drew)); exact (Kd.R_mono (Kd.R_far (p := ⟨gb147, 3, none⟩) (Kd.R_far (p := ⟨gb147, 2, none⟩) (Kd.R_far (p := ⟨gb147, 1, none⟩) (Kd.R_far (p := ⟨gb147, 0, none⟩) (Kd.R_types HO_6.out BK147.out (by decide)) (fun _ hk => hk.2) (.string ((rd_T47 l0 x25_2).f0.f0))) (fun _ hk => hk.2) (.int .u64 ((rd_T47 l0 x25_2).f0.f1))) (fun _ hk => hk.2) (.int .i64 ((rd_T47 l0 x25_2).f0.f2))) (fun _ hk => hk.2) (.string ((rd_T47 l0 x25_2).f1))) (fun _ h_ => h_.1))) (Kd.R_base ho0) hb); have n1_ := Aside0.mk (Kd.R_elder' (by (with_reducible repeat (first | apply Kd.R_alloc | apply Kd.R_drewN | apply Kd.R_drew)); exact (Kd.R_mono (Kd.R_far (p := ⟨gb147, 3, none⟩) (Kd.R_far (p := ⟨gb147, 2, none⟩) (Kd.R_far (p := ⟨gb147, 1, none⟩) (Kd.R_far (p := ⟨gb147, 0, none⟩) (Kd.R_types HO_7.out BK147.out (by decide)) (fun _ hk => hk.2) (.string ((rd_T47 l0 x25_2).f0.f0))) (fun _ hk => hk.2) (.int .u64 ((rd_T47 l0 x25_2).f0.f1))) (fun _ hk => hk.2) (.int .i64 ((rd_T47 l0 x25_2).f0.f2))) (fun _ hk => hk.2) (.string ((rd_T47 l0 x25_2).f1))) (fun _ h_ => h_.1))) (Kd.R_base ho0) hb); have n2_ := Aside0.mk (Kd.R_elder' (by (with_reducible repeat (first | apply Kd.R_alloc | apply Kd.R_drewN | apply Kd.R_drew)); exact (Kd.R_mono (Kd.R_far (p := ⟨gb147, 3, none⟩) (Kd.R_far (p := ⟨gb147, 2, none⟩) (Kd.R_far (p := ⟨gb147, 1, none⟩) (Kd.R_far (p := ⟨gb147, 0, none⟩) (Kd.R_types HO_8.out BK147.out (by decide)) (fun _ hk => hk.2) (.string ((rd_T47 l0 x25_2).f0.f0))) (fun _ hk => hk.2) (.int .u64 ((rd_T47 l0 x25_2).f0.f1))) (fun _ hk => hk.2) (.int .i64 ((rd_T47 l0 x25_2).f0.f2))) (fun _ hk => hk.2) (.string ((rd_T47 l0 x25_2).f1))) (fun _ h_ => h_.1))) (Kd.R_base ho0) hb); have n3_ := Aside0.mk (Kd.R_lower (Kd.R_new' (Kd.R_new' (Kd.R_new' ho0 (Kd.R_lt (by (with_reducible repeat (first | apply Kd.R_alloc | apply Kd.R_drewN | apply Kd.R_drew)); exact (Kd.R_mono (Kd.R_far (p := ⟨gb147, 3, none⟩) (Kd.R_far (p := ⟨gb147, 2, none⟩) (Kd.R_far (p := ⟨gb147, 1, none⟩) (Kd.R_far (p := ⟨gb147, 0, none⟩) (Kd.R_types HO_6.out BK147.out (by decide)) (fun _ hk => hk.2) (.string ((rd_T47 l0 x25_2).f0.f0))) (fun _ hk => hk.2) (.int .u64 ((rd_T47 l0 x25_2).f0.f1))) (fun _ hk => hk.2) (.int .i64 ((rd_T47 l0 x25_2).f0.f2))) (fun _ hk => hk.2) (.string ((rd_T47 l0 x25_2).f1))) (fun _ h_ => h_.1))))) (Kd.R_lt (by (with_reducible repeat (first | apply Kd.R_alloc | apply Kd.R_drewN | apply Kd.R_drew)); exact (Kd.R_mono (Kd.R_far (p := ⟨gb147, 3, none⟩) (Kd.R_far (p := ⟨gb147, 2, none⟩) (Kd.R_far (p := ⟨gb147, 1, none⟩) (Kd.R_far (p := ⟨gb147, 0, none⟩) (Kd.R_types HO_7.out BK147.out (by decide)) (fun _ hk => hk.2) (.string ((rd_T47 l0 x25_2).f0.f0))) (fun _ hk => hk.2) (.int .u64 ((rd_T47 l0 x25_2).f0.f1))) (fun _ hk => hk.2) (.int .i64 ((rd_T47 l0 x25_2).f0.f2))) (fun _ hk => hk.2) (.string ((rd_T47 l0 x25_2).f1))) (fun _ h_ => h_.1))))) (Kd.R_lt (by (with_reducible repeat (first | apply Kd.R_alloc | apply Kd.R_drewN | apply Kd.R_drew)); exact (Kd.R_mono (Kd.R_far (p := ⟨gb147, 3, none⟩) (Kd.R_far (p := ⟨gb147, 2, none⟩) (Kd.R_far (p := ⟨gb147, 1, none⟩) (Kd.R_far (p := ⟨gb147, 0, none⟩) (Kd.R_types HO_8.out BK147.out (by decide)) (fun _ hk => hk.2) (.string ((rd_T47 l0 x25_2).f0.f0))) (fun _ hk => hk.2) (.int .u64 ((rd_T47 l0 x25_2).f0.f1))) (fun _ hk => hk.2) (.int .i64 ((rd_T47 l0 x25_2).f0.f2))) (fun _ hk => hk.2) (.string ((rd_T47 l0 x25_2).f1))) (fun _ h_ => h_.1))))) (below_size (by repeat (first | (with_reducible first | exact HB.out | apply below_alloc | apply pw_below_drewN | apply below_drew1 | refine below_set ?_ GE147.out) | exact HB.out)))); have n4_ := Aside0.mk (blk_below (g := gb147) (o := .cells #[.string ((rd_T47 l0 x25_2).f0.f0), .int .u64 ((rd_T47 l0 x25_2).f0.f1), .int .i64 ((rd_T47 l0 x25_2).f0.f2), .string ((rd_T47 l0 x25_2).f1)] 47 (0, 0)) (by (with_reducible repeat (first | refine blk_drewN ?_ _ | refine blk_drew ?_ | refine blk_alloc ?_ _)); refine blk_put (cs := #[.string ((rd_T47 l0 x25_2).f0.f0), .int .u64 ((rd_T47 l0 x25_2).f0.f1), .int .i64 ((rd_T47 l0 x25_2).f0.f2), .string (⟨#[]⟩ : ByteArray)]) ?_ 3 _ rfl; (with_reducible repeat (first | refine blk_drewN ?_ _ | refine blk_drew ?_ | refine blk_alloc ?_ _)); refine blk_put (cs := #[.string ((rd_T47 l0 x25_2).f0.f0), .int .u64 ((rd_T47 l0 x25_2).f0.f1), .int .i64 0, .string (⟨#[]⟩ : ByteArray)]) ?_ 2 _ rfl; (with_reducible repeat (first | refine blk_drewN ?_ _ | refine blk_drew ?_ | refine blk_alloc ?_ _)); refine blk_put (cs := #[.string ((rd_T47 l0 x25_2).f0.f0), .int .u64 0, .int .i64 0, .string (⟨#[]⟩ : ByteArray)]) ?_ 1 _ rfl; (with_reducible repeat (first | refine blk_drewN ?_ _ | refine blk_drew ?_ | refine blk_alloc ?_ _)); refine blk_put (cs := #[.string (⟨#[]⟩ : ByteArray), .int .u64 0, .int .i64 0, .string (⟨#[]⟩ : ByteArray)]) ?_ 0 _ rfl; (with_reducible repeat (first | refine blk_drewN ?_ _ | refine blk_drew ?_ | refine blk_alloc ?_ _)); exact BK147.out) hb); have n5_ := Aside0.mk (below_step (by repeat (first | (with_reducible first | exact HB.out | apply below_alloc | apply pw_below_drewN | apply below_drew1 | refine below_set ?_ GE147.out) | exact HB.out)) hb); clear HO_6; clear HO_7; clear HO_8; clear BK147; clear HB; have HO_6 := n0_; have HO_7 := n1_; have HO_8 := n2_; have HO150 := n3_; have BK147 := n4_; have HB := n5_; clear n0_ n1_ n2_ n3_ n4_ n5_; (try clear hb); (try clear hb2); (try clear hk); (try clear hi); (try clear ho0)))
                  (try simp only [Act.put, List.setIfInBounds_toArray, List.set_cons_zero, List.set_cons_succ])
                  go_cut [] (fun wc => ∃ (kq : Nat), Aside0 (block_Build.j2 kq l0 a1 x6_2 x7_2 x8_2 x9_2 x25_2 t148 l0 (l0.length : Int) x25_2 ((rd_T47 l0 x25_2).f0.f0) ((rd_T47 l0 x25_2).f0.f1) ((rd_T47 l0 x25_2).f0.f2) ((rd_T47 l0 x25_2).f1) = some (r1, r2)) ∧ Aside0 (kq ≤ k2) ∧ Aside0 (Kd.R (Kd.int .u8) 5 wc w.heap.size (fun k_ => some k_ ≠ (u7 : Value).ownBlock ∧ some k_ ≠ (u8 : Value).ownBlock ∧ some k_ ≠ (v149 : Value).ownBlock) u6 x6_2) ∧ Aside0 (Kd.R (Kd.int .u8) 5 wc w.heap.size (fun k_ => some k_ ≠ (u6 : Value).ownBlock ∧ some k_ ≠ (u8 : Value).ownBlock ∧ some k_ ≠ (v149 : Value).ownBlock) u7 x7_2) ∧ Aside0 (Kd.R (Kd.int .u8) 5 wc w.heap.size (fun k_ => some k_ ≠ (u6 : Value).ownBlock ∧ some k_ ≠ (u7 : Value).ownBlock ∧ some k_ ≠ (v149 : Value).ownBlock) u8 x8_2) ∧ Aside0 (Kd.R (Kd.int .u8) 5 wc w.heap.size (fun k_ => some k_ ≠ (u6 : Value).ownBlock ∧ some k_ ≠ (u7 : Value).ownBlock ∧ some k_ ≠ (u8 : Value).ownBlock) v149 t148) ∧ Aside0 (wc.heap[gb147]? = some (.cells #[.string ((rd_T47 l0 x25_2).f0.f0), .int .u64 ((rd_T47 l0 x25_2).f0.f1), .int .i64 ((rd_T47 l0 x25_2).f0.f2), .string ((rd_T47 l0 x25_2).f1)] 47 (0, 0))) ∧ Aside0 (Below w.heap.size w wc))
                  case first =>
                    have H := HC10.out
                    clear HC10
                    by_cases c14 : t151 = 0
                    · rw [if_pos c14] at H
                      have c14b0 : (t151 == 0) = true := beq_iff_eq.mpr c14
                      have c14b1 : (t151 != 0) = false := bne_eq_false_iff_eq.mpr c14
                      clear c14
                      (first | rw [c14b0] | (simp only [i64_w, i32_w]; rw [c14b0]) | skip)
                      by_cases c15 : (((rd_T47 l0 x25_2).f1).size : Int) > 1000
                      · rw [if_pos c15] at H
                        have c15b0 : decide (1000 < (((rd_T47 l0 x25_2).f1).size : Int)) = true := decide_eq_true c15
                        have c15b1 : decide (1000 < ((rd_T47 l0 x25_2).f1).size) = true := decide_eq_true (by omega)
                        clear c15
                        simp only [Option.some.injEq, Prod.mk.injEq] at H
                        obtain ⟨rfl, rfl⟩ := H
                        have hcz16_0 : w13.cell? ⟨gb147, 0, none⟩ = some (.string ((rd_T47 l0 x25_2).f0.f0)) := (blk_cell BK147.out 0).trans rfl
                        have hcz16_1 : w13.cell? ⟨gb147, 1, none⟩ = some (.int .u64 ((rd_T47 l0 x25_2).f0.f1)) := (blk_cell BK147.out 1).trans rfl
                        have hcz16_2 : w13.cell? ⟨gb147, 2, none⟩ = some (.int .i64 ((rd_T47 l0 x25_2).f0.f2)) := (blk_cell BK147.out 2).trans rfl
                        have hcz16_3 : w13.cell? ⟨gb147, 3, none⟩ = some (.string ((rd_T47 l0 x25_2).f1)) := (blk_cell BK147.out 3).trans rfl
                        have hfz16_0 := blk_frozen BK147.out 0
                        have hfz16_1 := blk_frozen BK147.out 1
                        have hfz16_2 := blk_frozen BK147.out 2
                        have hfz16_3 := blk_frozen BK147.out 3
                        go_wp2
                        go_ret2
                        exact ⟨_, by first | rfl | (simp [errW_none, errW_some] <;> rfl) | (simp [*, errW_none, errW_some] <;> rfl), by first | exact Kd.R_nil _ _ _ _ _ | exact Kd.N_nil _ _ _ _ _ | exact Kd.V_nil _ _ _ _ _ | exact Kd.Q_nil _ _ _ _ _ | exact Kd.S_nil _ _ _ _ _, by repeat (first | (with_reducible first | exact HB.out | apply below_alloc | apply pw_below_drewN | apply below_drew1 | refine below_set ?_ GE147.out) | exact HB.out)⟩
                      · rw [if_neg c15] at H
                        have c15b0 : decide (1000 < (((rd_T47 l0 x25_2).f1).size : Int)) = false := decide_eq_false c15
                        have c15b1 : decide (1000 < ((rd_T47 l0 x25_2).f1).size) = false := decide_eq_false (by omega)
                        clear c15
                        by_cases c17 : x25_2 > 0
                        · rw [if_pos c17] at H
                          have c17b0 : decide (0 < x25_2) = true := decide_eq_true c17
                          clear c17
                          obtain ⟨ji18, hji18⟩ : ∃ j_ : Int, (wrap64 (x25_2 - 1)) = j_ := ⟨_, rfl⟩
                          replace H : (if 0 ≤ (ji18) then (if (ji18) < (l0.length : Int) then ((ikey_Compare.f ((rd_T47 l0 (ji18)).f0.f0) ((rd_T47 l0 (ji18)).f0.f1) ((rd_T47 l0 (ji18)).f0.f2) ((rd_T47 l0 x25_2).f0.f0) ((rd_T47 l0 x25_2).f0.f1) ((rd_T47 l0 x25_2).f0.f2)).bind fun t153 => (if t153 ≥ 0 then (some (([] : List Int), 110)) else (block_Build.j2 k2 l0 a1 x6_2 x7_2 x8_2 x9_2 x25_2 t148 l0 (l0.length : Int) x25_2 ((rd_T47 l0 x25_2).f0.f0) ((rd_T47 l0 x25_2).f0.f1) ((rd_T47 l0 x25_2).f0.f2) ((rd_T47 l0 x25_2).f1)))) else (none)) else (none)) = some (r1, r2) := by first | (rw [hji18] at H; exact H) | (simp only [hji18] at H ⊢; exact H)
                          have hji18w : (IntKind.i64.wrap (x25_2 - 1)) = ji18 := (i64_w _).trans hji18
                          by_cases c19 : 0 ≤ (ji18)
                          · rw [if_pos c19] at H
                            have c19b0 : decide (0 ≤ (ji18)) = true := decide_eq_true c19
                            clear c19
                            by_cases c20 : (ji18) < (l0.length : Int)
                            · rw [if_pos c20] at H
                              have c20b0 : decide ((ji18) < (l0.length : Int)) = true := decide_eq_true c20
                              clear c20
                              replace H := Option.bind_eq_some_iff.mp H
                              obtain ⟨t153, A210, H⟩ := H
                              replace H : (if t153 ≥ 0 then (some (([] : List Int), 110)) else (block_Build.j2 k2 l0 a1 x6_2 x7_2 x8_2 x9_2 x25_2 t148 l0 (l0.length : Int) x25_2 ((rd_T47 l0 x25_2).f0.f0) ((rd_T47 l0 x25_2).f0.f1) ((rd_T47 l0 x25_2).f0.f2) ((rd_T47 l0 x25_2).f1))) = some (r1, r2) := H
                              have A21 := Aside0.mk A210
                              clear A210
                              by_cases c22 : t153 ≥ 0
                              · rw [if_pos c22] at H
                                have c22b0 : decide (0 ≤ t153) = true := decide_eq_true c22
                                clear c22
                                simp only [Option.some.injEq, Prod.mk.injEq] at H
                                obtain ⟨rfl, rfl⟩ := H
                                have hcz23_0 : w13.cell? ⟨gb147, 0, none⟩ = some (.string ((rd_T47 l0 x25_2).f0.f0)) := (blk_cell BK147.out 0).trans rfl
                                have hcz23_1 : w13.cell? ⟨gb147, 1, none⟩ = some (.int .u64 ((rd_T47 l0 x25_2).f0.f1)) := (blk_cell BK147.out 1).trans rfl
                                have hcz23_2 : w13.cell? ⟨gb147, 2, none⟩ = some (.int .i64 ((rd_T47 l0 x25_2).f0.f2)) := (blk_cell BK147.out 2).trans rfl
                                have hcz23_3 : w13.cell? ⟨gb147, 3, none⟩ = some (.string ((rd_T47 l0 x25_2).f1)) := (blk_cell BK147.out 3).trans rfl
                                have hfz23_0 := blk_frozen BK147.out 0
                                have hfz23_1 := blk_frozen BK147.out 1
                                have hfz23_2 := blk_frozen BK147.out 2
                                have hfz23_3 := blk_frozen BK147.out 3
                                try go_wp2
                                have n0_ := Aside0.mk (Kd.R_drew HO_6.out)
                                have n1_ := Aside0.mk (Kd.R_drew HO_7.out)
                                have n2_ := Aside0.mk (Kd.R_drew HO_8.out)
                                have n3_ := Aside0.mk (Kd.R_drew HO150.out)
                                have n4_ := Aside0.mk (blk_drew BK147.out)
                                have n5_ := Aside0.mk (below_drew1 HB.out)
                                clear HO_6
                                clear HO_7
                                clear HO_8
                                clear HO150
                                clear BK147
                                clear HB
                                have HO_6 := n0_
                                have HO_7 := n1_
                                have HO_8 := n2_
                                have HO150 := n3_
                                have BK147 := n4_
                                have HB := n5_
                                clear n0_ n1_ n2_ n3_ n4_ n5_
                                have p152 : 0 ≤ ((ji18) : Int) := of_decide_eq_true (by first | (with_reducible assumption) | assumption)
                                have q152 : (ji18) < (l0.length : Int) := of_decide_eq_true (by first | (with_reducible assumption) | assumption)
                                obtain ⟨ad152, e152, hx152_0, hx152_1, hx152_2, hx152_3⟩ := at_T47 HR0.out (ji18) p152 q152
                                have hw152_3 := hx152_3
                                have hw152_2 := hx152_2
                                have hw152_1 := hx152_1
                                have hw152_0 := hx152_0
                                obtain rfl : ad146 = ad152 := (by injection e152)
                                replace hx152_0 := (HB.out.cell (World.block_lt_of_cell? w _ hx152_0)).trans hx152_0
                                replace hx152_1 := (HB.out.cell (World.block_lt_of_cell? w _ hx152_1)).trans hx152_1
                                replace hx152_2 := (HB.out.cell (World.block_lt_of_cell? w _ hx152_2)).trans hx152_2
                                replace hx152_3 := (HB.out.cell (World.block_lt_of_cell? w _ hx152_3)).trans hx152_3
                                replace p152 := eq_true p152
                                replace q152 := eq_true q152
                                refine start_ (n := 15) (S := fun w' => w'.cell? ⟨gb147, 0, none⟩ = some (.string ((rd_T47 l0 x25_2).f0.f0)) ∧ w'.cell? ⟨gb147, 1, none⟩ = some (.int .u64 ((rd_T47 l0 x25_2).f0.f1)) ∧ w'.cell? ⟨gb147, 2, none⟩ = some (.int .i64 ((rd_T47 l0 x25_2).f0.f2)) ∧ w'.cell? ⟨gb147, 3, none⟩ = some (.string ((rd_T47 l0 x25_2).f1)) ∧ w'.cell? (ad146.add (((ji18)).toNat * 4)) = some (.string ((rd_T47 l0 (ji18)).f0.f0)) ∧ w'.cell? ⟨(ad146.add (((ji18)).toNat * 4)).block, (ad146.add (((ji18)).toNat * 4)).off + 1, none⟩ = some (.int .u64 ((rd_T47 l0 (ji18)).f0.f1)) ∧ w'.cell? ⟨(ad146.add (((ji18)).toNat * 4)).block, (ad146.add (((ji18)).toNat * 4)).off + 2, none⟩ = some (.int .i64 ((rd_T47 l0 (ji18)).f0.f2)) ∧ w'.cell? ⟨(ad146.add (((ji18)).toNat * 4)).block, (ad146.add (((ji18)).toNat * 4)).off + 3, none⟩ = some (.string ((rd_T47 l0 (ji18)).f1))) (ds := []) #[false, false, false, false, false, false, false, false, false, false, false, false, false, false, false] (by kernel_rfl) rfl rfl ⟨(blk_cell BK147.out 0).trans rfl, (blk_cell BK147.out 1).trans rfl, (blk_cell BK147.out 2).trans rfl, (blk_cell BK147.out 3).trans rfl, ((HB.out.cell (World.block_lt_of_cell? w _ hw152_0)).trans hw152_0), ((HB.out.cell (World.block_lt_of_cell? w _ hw152_1)).trans hw152_1), ((HB.out.cell (World.block_lt_of_cell? w _ hw152_2)).trans hw152_2), ((HB.out.cell (World.block_lt_of_cell? w _ hw152_3)).trans hw152_3)⟩ (fun hHeld => ?_); refine with_tabW block_Build.tab13 block_Build.bits13 (fun HT_ HW_ => ?_)
                                generalize w13.drew = w24 at HO_6 HO_7 HO_8 HO150 BK147 HB hx152_0 hx152_1 hx152_2 hx152_3 hHeld ⊢
                                refine pure_ (i := 0) (N := some 46) (v := ?_) (a' := ?_) #[true, false, false, false, false, false, false, false, false, false, false, false, false, false, false] rfl rfl (any_of HT_.out (by kernel_rfl)) (fun _ _ _ h => h) (Or.inl ⟨by rfl, ?_⟩) ?_ ?_
                                rotate_left
                                · intro w'
                                  go_simp
                                  with_reducible rfl
                                rotate_left
                                · simp only [Act.put, List.setIfInBounds_toArray, List.set_cons_zero, List.set_cons_succ, i64_w, i32_w]
                                  rfl
                                refine pure_ (i := 1) (N := some 47) (v := ?_) (a' := ?_) #[true, true, false, false, false, false, false, false, false, false, false, false, false, false, false] rfl rfl (any_of HT_.out (by kernel_rfl)) (fun _ _ _ h => h) (Or.inl ⟨by rfl, ?_⟩) ?_ ?_
                                rotate_left
                                · intro w'
                                  go_simp
                                  with_reducible rfl
                                rotate_left
                                · simp only [Act.put, List.setIfInBounds_toArray, List.set_cons_zero, List.set_cons_succ, i64_w, i32_w]
                                  rfl
                                refine pure_ (i := 2) (N := some 48) (v := ?_) (a' := ?_) #[true, true, true, false, false, false, false, false, false, false, false, false, false, false, false] rfl rfl (any_of HT_.out (by kernel_rfl)) (fun _ _ _ h => h) (Or.inl ⟨by rfl, ?_⟩) ?_ ?_
                                rotate_left
                                · intro w'
                                  go_simp
                                  with_reducible rfl
                                rotate_left
                                · simp only [Act.put, List.setIfInBounds_toArray, List.set_cons_zero, List.set_cons_succ, i64_w, i32_w]
                                  rfl
                                refine pure_ (i := 3) (N := some 49) (v := ?_) (a' := ?_) #[true, true, true, true, false, false, false, false, false, false, false, false, false, false, false] rfl rfl (any_of HT_.out (by kernel_rfl)) (fun _ _ _ h => h) (Or.inl ⟨by rfl, ?_⟩) ?_ ?_
                                rotate_left
                                · intro w'
                                  go_simp
                                  with_reducible rfl
                                rotate_left
                                · simp only [Act.put, List.setIfInBounds_toArray, List.set_cons_zero, List.set_cons_succ, i64_w, i32_w]
                                  rfl
                                refine pure_ (i := 4) (N := some 50) (v := ?_) (a' := ?_) #[true, true, true, true, true, false, false, false, false, false, false, false, false, false, false] rfl rfl (any_of HT_.out (by kernel_rfl)) (fun _ _ _ h => h) (Or.inl ⟨by rfl, ?_⟩) ?_ ?_
                                rotate_left
                                · intro w'
                                  go_simp
                                  with_reducible rfl
                                rotate_left
                                · simp only [Act.put, List.setIfInBounds_toArray, List.set_cons_zero, List.set_cons_succ, i64_w, i32_w]
                                  rfl
                                refine pure_ (i := 5) (N := some 51) (v := ?_) (a' := ?_) #[true, true, true, true, true, true, false, false, false, false, false, false, false, false, false] rfl rfl (any_of HT_.out (by kernel_rfl)) (fun _ _ _ h => h) (Or.inl ⟨by rfl, ?_⟩) ?_ ?_
                                rotate_left
                                · intro w'
                                  go_simp
                                  with_reducible rfl
                                rotate_left
                                · simp only [Act.put, List.setIfInBounds_toArray, List.set_cons_zero, List.set_cons_succ, i64_w, i32_w]
                                  rfl
                                refine pure_ (i := 6) (N := some 52) (v := ?_) (a' := ?_) #[true, true, true, true, true, true, true, false, false, false, false, false, false, false, false] rfl rfl (any_of HT_.out (by kernel_rfl)) (fun _ _ _ h => h) (Or.inl ⟨by rfl, ?_⟩) ?_ ?_
                                rotate_left
                                · intro w'
                                  go_simp
                                  with_reducible rfl
                                rotate_left
                                · simp only [Act.put, List.setIfInBounds_toArray, List.set_cons_zero, List.set_cons_succ, i64_w, i32_w]
                                  rfl
                                refine pure_ (i := 7) (N := some 53) (v := ?_) (a' := ?_) #[true, true, true, true, true, true, true, true, false, false, false, false, false, false, false] rfl rfl (any_of HT_.out (by kernel_rfl)) (fun _ _ _ h => h) (Or.inl ⟨by rfl, ?_⟩) ?_ ?_
                                rotate_left
                                · intro w'
                                  go_simp
                                  with_reducible rfl
                                rotate_left
                                · simp only [Act.put, List.setIfInBounds_toArray, List.set_cons_zero, List.set_cons_succ, i64_w, i32_w]
                                  rfl
                                refine pure_ (i := 9) (N := some 55) (v := ?_) (a' := ?_) #[true, true, true, true, true, true, true, true, false, true, false, false, false, false, false] rfl rfl (any_of HT_.out (by kernel_rfl)) (fun _ _ _ h => h) (Or.inl ⟨by rfl, ?_⟩) ?_ ?_
                                rotate_left
                                · intro w'
                                  go_simp
                                  with_reducible rfl
                                rotate_left
                                · simp only [Act.put, List.setIfInBounds_toArray, List.set_cons_zero, List.set_cons_succ, i64_w, i32_w]
                                  rfl
                                refine take_ (i := 8) (N := some 54) (v := ?_) (a' := ?_) #[true, true, true, true, true, true, true, true, true, true, false, false, false, false, false] rfl rfl (take_ofW HT_.out HW_.out (by kernel_rfl)) (fun _ _ _ h => h) (Or.inl ⟨by rfl, ?_⟩) hHeld ?_ ?_
                                rotate_left
                                · rintro w' ⟨s0, s1, s2, s3, s4, s5, s6, s7⟩
                                  go_simp
                                  with_reducible rfl
                                rotate_left
                                · simp only [Act.put, List.setIfInBounds_toArray, List.set_cons_zero, List.set_cons_succ, i64_w, i32_w]
                                  rfl
                                refine take_ (i := 10) (N := some 56) (v := ?_) (a' := ?_) #[true, true, true, true, true, true, true, true, true, true, true, false, false, false, false] rfl rfl (take_ofW HT_.out HW_.out (by kernel_rfl)) (fun _ _ _ h => h) (Or.inl ⟨by rfl, ?_⟩) hHeld ?_ ?_
                                rotate_left
                                · rintro w' ⟨s0, s1, s2, s3, s4, s5, s6, s7⟩
                                  go_simp
                                  with_reducible rfl
                                rotate_left
                                · simp only [Act.put, List.setIfInBounds_toArray, List.set_cons_zero, List.set_cons_succ, i64_w, i32_w]
                                  rfl
                                refine one_ (i := 11) (N := some 57) #[true, true, true, true, true, true, true, true, true, true, true, true, false, false, false] rfl rfl (one_of HT_.out (by kernel_rfl)) (by decide) (fun K hK => ?_)
                                refine goes_ Try.func39 (by kernel_rfl) rfl #[.agg #[.string ((rd_T47 l0 (ji18)).f0.f0), .int .u64 ((rd_T47 l0 (ji18)).f0.f1), .int .i64 ((rd_T47 l0 (ji18)).f0.f2)], .agg #[.string ((rd_T47 l0 x25_2).f0.f0), .int .u64 ((rd_T47 l0 x25_2).f0.f1), .int .i64 ((rd_T47 l0 x25_2).f0.f2)]] (by rfl) rfl rfl (by (try simp only [List.map_toArray, List.map_cons, List.map_nil]); first | done | (simp only [hji18]; rfl) | rfl | (simp only [List.length_drop, List.length_take]; rfl)) ?_
                                with_reducible refine (ikey_Compare.calls ((rd_T47 l0 (ji18)).f0.f0) ((rd_T47 l0 (ji18)).f0.f1) ((rd_T47 l0 (ji18)).f0.f2) ((rd_T47 l0 x25_2).f0.f0) ((rd_T47 l0 x25_2).f0.f1) ((rd_T47 l0 x25_2).f0.f2) t153 _ A21.out).mono ?_
                                rintro e w25 ⟨rfl, hb⟩
                                refine ⟨_, rfl, ?_⟩
                                have n0_ := Aside0.mk (Kd.R_below (by (with_reducible repeat (first | apply Kd.R_alloc | apply Kd.R_drewN | apply Kd.R_drew)); exact HO_6.out) hb)
                                have n1_ := Aside0.mk (Kd.R_below (by (with_reducible repeat (first | apply Kd.R_alloc | apply Kd.R_drewN | apply Kd.R_drew)); exact HO_7.out) hb)
                                have n2_ := Aside0.mk (Kd.R_below (by (with_reducible repeat (first | apply Kd.R_alloc | apply Kd.R_drewN | apply Kd.R_drew)); exact HO_8.out) hb)
                                have n3_ := Aside0.mk (Kd.R_below (by (with_reducible repeat (first | apply Kd.R_alloc | apply Kd.R_drewN | apply Kd.R_drew)); exact HO150.out) hb)
                                have n4_ := Aside0.mk (blk_below (g := gb147) (o := .cells #[.string ((rd_T47 l0 x25_2).f0.f0), .int .u64 ((rd_T47 l0 x25_2).f0.f1), .int .i64 ((rd_T47 l0 x25_2).f0.f2), .string ((rd_T47 l0 x25_2).f1)] 47 (0, 0)) (by (with_reducible repeat (first | refine blk_drewN ?_ _ | refine blk_drew ?_ | refine blk_alloc ?_ _)); exact BK147.out) hb)
                                have n5_ := Aside0.mk (below_step (by repeat (first | (with_reducible first | exact HB.out | apply below_alloc | apply pw_below_drewN | apply below_drew1 | refine below_set ?_ GE147.out) | exact HB.out)) hb)
                                clear HO_6
                                clear HO_7
                                clear HO_8
                                clear HO150
                                clear BK147
                                clear HB
                                have HO_6 := n0_
                                have HO_7 := n1_
                                have HO_8 := n2_
                                have HO150 := n3_
                                have BK147 := n4_
                                have HB := n5_
                                clear n0_ n1_ n2_ n3_ n4_ n5_
                                (try clear hb)
                                (try clear hb2)
                                (try clear hk)
                                (try clear hi)
                                refine hK.out _ _ ⟨(blk_cell BK147.out 0).trans rfl, (blk_cell BK147.out 1).trans rfl, (blk_cell BK147.out 2).trans rfl, (blk_cell BK147.out 3).trans rfl, ((HB.out.cell (World.block_lt_of_cell? w _ hw152_0)).trans hw152_0), ((HB.out.cell (World.block_lt_of_cell? w _ hw152_1)).trans hw152_1), ((HB.out.cell (World.block_lt_of_cell? w _ hw152_2)).trans hw152_2), ((HB.out.cell (World.block_lt_of_cell? w _ hw152_3)).trans hw152_3)⟩ (fun hHeld => ?_)
                                clear hK K
                                refine norm_ (a' := ?_) ?_ ?_
                                rotate_left
                                · show Act.put _ (some 57) _ = _
                                  simp only [Act.put, List.setIfInBounds_toArray, List.set_cons_zero, List.set_cons_succ, i64_w, i32_w]
                                  rfl
                                refine pure_ (i := 12) (N := some 58) (v := ?_) (a' := ?_) #[true, true, true, true, true, true, true, true, true, true, true, true, true, false, false] rfl rfl (any_of HT_.out (by kernel_rfl)) (fun _ _ _ h => h) (Or.inl ⟨by rfl, ?_⟩) ?_ ?_
                                rotate_left
                                · intro w'
                                  go_simp
                                  with_reducible rfl
                                rotate_left
                                · simp only [Act.put, List.setIfInBounds_toArray, List.set_cons_zero, List.set_cons_succ, i64_w, i32_w]
                                  rfl
                                refine pure_ (i := 13) (N := some 59) (v := ?_) (a' := ?_) #[true, true, true, true, true, true, true, true, true, true, true, true, true, true, false] rfl rfl (any_of HT_.out (by kernel_rfl)) (fun _ _ _ h => h) (Or.inl ⟨by rfl, ?_⟩) ?_ ?_
                                rotate_left
                                · intro w'
                                  go_simp
                                  with_reducible rfl
                                rotate_left
                                · simp only [Act.put, List.setIfInBounds_toArray, List.set_cons_zero, List.set_cons_succ, i64_w, i32_w]
                                  rfl
                                refine pure_ (i := 14) (N := some 45) (v := ?_) (a' := ?_) #[true, true, true, true, true, true, true, true, true, true, true, true, true, true, true] rfl rfl (any_of HT_.out (by kernel_rfl)) (fun _ _ _ h => h) (Or.inl ⟨by rfl, ?_⟩) ?_ ?_
                                rotate_left
                                · intro w'
                                  go_simp
                                  with_reducible rfl
                                rotate_left
                                · simp only [Act.put, List.setIfInBounds_toArray, List.set_cons_zero, List.set_cons_succ, i64_w, i32_w]
                                  rfl
                                refine done_ (done_of HT_.out (by kernel_rfl)) ?_
                                try go_wp2
                                go_ret2
                                exact ⟨_, by first | rfl | (simp [errW_none, errW_some] <;> rfl) | (simp only [← hji18]; first | rfl | (simp [errW_none, errW_some] <;> rfl)) | (simp [*, errW_none, errW_some] <;> rfl), by first | exact Kd.R_nil _ _ _ _ _ | exact Kd.N_nil _ _ _ _ _ | exact Kd.V_nil _ _ _ _ _ | exact Kd.Q_nil _ _ _ _ _ | exact Kd.S_nil _ _ _ _ _, by repeat (first | (with_reducible first | exact HB.out | apply below_alloc | apply pw_below_drewN | apply below_drew1 | refine below_set ?_ GE147.out) | exact HB.out)⟩
                              · rw [if_neg c22] at H
                                have c22b0 : decide (0 ≤ t153) = false := decide_eq_false c22
                                clear c22
                                have H' := Aside0.mk H
                                clear H
                                have hcz26_0 : w13.cell? ⟨gb147, 0, none⟩ = some (.string ((rd_T47 l0 x25_2).f0.f0)) := (blk_cell BK147.out 0).trans rfl
                                have hcz26_1 : w13.cell? ⟨gb147, 1, none⟩ = some (.int .u64 ((rd_T47 l0 x25_2).f0.f1)) := (blk_cell BK147.out 1).trans rfl
                                have hcz26_2 : w13.cell? ⟨gb147, 2, none⟩ = some (.int .i64 ((rd_T47 l0 x25_2).f0.f2)) := (blk_cell BK147.out 2).trans rfl
                                have hcz26_3 : w13.cell? ⟨gb147, 3, none⟩ = some (.string ((rd_T47 l0 x25_2).f1)) := (blk_cell BK147.out 3).trans rfl
                                have hfz26_0 := blk_frozen BK147.out 0
                                have hfz26_1 := blk_frozen BK147.out 1
                                have hfz26_2 := blk_frozen BK147.out 2
                                have hfz26_3 := blk_frozen BK147.out 3
                                try go_wp2
                                have n0_ := Aside0.mk (Kd.R_drew HO_6.out)
                                have n1_ := Aside0.mk (Kd.R_drew HO_7.out)
                                have n2_ := Aside0.mk (Kd.R_drew HO_8.out)
                                have n3_ := Aside0.mk (Kd.R_drew HO150.out)
                                have n4_ := Aside0.mk (blk_drew BK147.out)
                                have n5_ := Aside0.mk (below_drew1 HB.out)
                                clear HO_6
                                clear HO_7
                                clear HO_8
                                clear HO150
                                clear BK147
                                clear HB
                                have HO_6 := n0_
                                have HO_7 := n1_
                                have HO_8 := n2_
                                have HO150 := n3_
                                have BK147 := n4_
                                have HB := n5_
                                clear n0_ n1_ n2_ n3_ n4_ n5_
                                have p152 : 0 ≤ ((ji18) : Int) := of_decide_eq_true (by first | (with_reducible assumption) | assumption)
                                have q152 : (ji18) < (l0.length : Int) := of_decide_eq_true (by first | (with_reducible assumption) | assumption)
                                obtain ⟨ad152, e152, hx152_0, hx152_1, hx152_2, hx152_3⟩ := at_T47 HR0.out (ji18) p152 q152
                                have hw152_3 := hx152_3
                                have hw152_2 := hx152_2
                                have hw152_1 := hx152_1
                                have hw152_0 := hx152_0
                                obtain rfl : ad146 = ad152 := (by injection e152)
                                replace hx152_0 := (HB.out.cell (World.block_lt_of_cell? w _ hx152_0)).trans hx152_0
                                replace hx152_1 := (HB.out.cell (World.block_lt_of_cell? w _ hx152_1)).trans hx152_1
                                replace hx152_2 := (HB.out.cell (World.block_lt_of_cell? w _ hx152_2)).trans hx152_2
                                replace hx152_3 := (HB.out.cell (World.block_lt_of_cell? w _ hx152_3)).trans hx152_3
                                replace p152 := eq_true p152
                                replace q152 := eq_true q152
                                refine start_ (n := 15) (S := fun w' => w'.cell? ⟨gb147, 0, none⟩ = some (.string ((rd_T47 l0 x25_2).f0.f0)) ∧ w'.cell? ⟨gb147, 1, none⟩ = some (.int .u64 ((rd_T47 l0 x25_2).f0.f1)) ∧ w'.cell? ⟨gb147, 2, none⟩ = some (.int .i64 ((rd_T47 l0 x25_2).f0.f2)) ∧ w'.cell? ⟨gb147, 3, none⟩ = some (.string ((rd_T47 l0 x25_2).f1)) ∧ w'.cell? (ad146.add (((ji18)).toNat * 4)) = some (.string ((rd_T47 l0 (ji18)).f0.f0)) ∧ w'.cell? ⟨(ad146.add (((ji18)).toNat * 4)).block, (ad146.add (((ji18)).toNat * 4)).off + 1, none⟩ = some (.int .u64 ((rd_T47 l0 (ji18)).f0.f1)) ∧ w'.cell? ⟨(ad146.add (((ji18)).toNat * 4)).block, (ad146.add (((ji18)).toNat * 4)).off + 2, none⟩ = some (.int .i64 ((rd_T47 l0 (ji18)).f0.f2)) ∧ w'.cell? ⟨(ad146.add (((ji18)).toNat * 4)).block, (ad146.add (((ji18)).toNat * 4)).off + 3, none⟩ = some (.string ((rd_T47 l0 (ji18)).f1))) (ds := []) #[false, false, false, false, false, false, false, false, false, false, false, false, false, false, false] (by kernel_rfl) rfl rfl ⟨(blk_cell BK147.out 0).trans rfl, (blk_cell BK147.out 1).trans rfl, (blk_cell BK147.out 2).trans rfl, (blk_cell BK147.out 3).trans rfl, ((HB.out.cell (World.block_lt_of_cell? w _ hw152_0)).trans hw152_0), ((HB.out.cell (World.block_lt_of_cell? w _ hw152_1)).trans hw152_1), ((HB.out.cell (World.block_lt_of_cell? w _ hw152_2)).trans hw152_2), ((HB.out.cell (World.block_lt_of_cell? w _ hw152_3)).trans hw152_3)⟩ (fun hHeld => ?_); refine with_tabW block_Build.tab13 block_Build.bits13 (fun HT_ HW_ => ?_)
                                generalize w13.drew = w27 at HO_6 HO_7 HO_8 HO150 BK147 HB hx152_0 hx152_1 hx152_2 hx152_3 hHeld ⊢
                                refine pure_ (i := 0) (N := some 46) (v := ?_) (a' := ?_) #[true, false, false, false, false, false, false, false, false, false, false, false, false, false, false] rfl rfl (any_of HT_.out (by kernel_rfl)) (fun _ _ _ h => h) (Or.inl ⟨by rfl, ?_⟩) ?_ ?_
                                rotate_left
                                · intro w'
                                  go_simp
                                  with_reducible rfl
                                rotate_left
                                · simp only [Act.put, List.setIfInBounds_toArray, List.set_cons_zero, List.set_cons_succ, i64_w, i32_w]
                                  rfl
                                refine pure_ (i := 1) (N := some 47) (v := ?_) (a' := ?_) #[true, true, false, false, false, false, false, false, false, false, false, false, false, false, false] rfl rfl (any_of HT_.out (by kernel_rfl)) (fun _ _ _ h => h) (Or.inl ⟨by rfl, ?_⟩) ?_ ?_
                                rotate_left
                                · intro w'
                                  go_simp
                                  with_reducible rfl
                                rotate_left
                                · simp only [Act.put, List.setIfInBounds_toArray, List.set_cons_zero, List.set_cons_succ, i64_w, i32_w]
                                  rfl
                                refine pure_ (i := 2) (N := some 48) (v := ?_) (a' := ?_) #[true, true, true, false, false, false, false, false, false, false, false, false, false, false, false] rfl rfl (any_of HT_.out (by kernel_rfl)) (fun _ _ _ h => h) (Or.inl ⟨by rfl, ?_⟩) ?_ ?_
                                rotate_left
                                · intro w'
                                  go_simp
                                  with_reducible rfl
                                rotate_left
                                · simp only [Act.put, List.setIfInBounds_toArray, List.set_cons_zero, List.set_cons_succ, i64_w, i32_w]
                                  rfl
                                refine pure_ (i := 3) (N := some 49) (v := ?_) (a' := ?_) #[true, true, true, true, false, false, false, false, false, false, false, false, false, false, false] rfl rfl (any_of HT_.out (by kernel_rfl)) (fun _ _ _ h => h) (Or.inl ⟨by rfl, ?_⟩) ?_ ?_
                                rotate_left
                                · intro w'
                                  go_simp
                                  with_reducible rfl
                                rotate_left
                                · simp only [Act.put, List.setIfInBounds_toArray, List.set_cons_zero, List.set_cons_succ, i64_w, i32_w]
                                  rfl
                                refine pure_ (i := 4) (N := some 50) (v := ?_) (a' := ?_) #[true, true, true, true, true, false, false, false, false, false, false, false, false, false, false] rfl rfl (any_of HT_.out (by kernel_rfl)) (fun _ _ _ h => h) (Or.inl ⟨by rfl, ?_⟩) ?_ ?_
                                rotate_left
                                · intro w'
                                  go_simp
                                  with_reducible rfl
                                rotate_left
                                · simp only [Act.put, List.setIfInBounds_toArray, List.set_cons_zero, List.set_cons_succ, i64_w, i32_w]
                                  rfl
                                refine pure_ (i := 5) (N := some 51) (v := ?_) (a' := ?_) #[true, true, true, true, true, true, false, false, false, false, false, false, false, false, false] rfl rfl (any_of HT_.out (by kernel_rfl)) (fun _ _ _ h => h) (Or.inl ⟨by rfl, ?_⟩) ?_ ?_
                                rotate_left
                                · intro w'
                                  go_simp
                                  with_reducible rfl
                                rotate_left
                                · simp only [Act.put, List.setIfInBounds_toArray, List.set_cons_zero, List.set_cons_succ, i64_w, i32_w]
                                  rfl
                                refine pure_ (i := 6) (N := some 52) (v := ?_) (a' := ?_) #[true, true, true, true, true, true, true, false, false, false, false, false, false, false, false] rfl rfl (any_of HT_.out (by kernel_rfl)) (fun _ _ _ h => h) (Or.inl ⟨by rfl, ?_⟩) ?_ ?_
                                rotate_left
                                · intro w'
                                  go_simp
                                  with_reducible rfl
                                rotate_left
                                · simp only [Act.put, List.setIfInBounds_toArray, List.set_cons_zero, List.set_cons_succ, i64_w, i32_w]
                                  rfl
                                refine pure_ (i := 7) (N := some 53) (v := ?_) (a' := ?_) #[true, true, true, true, true, true, true, true, false, false, false, false, false, false, false] rfl rfl (any_of HT_.out (by kernel_rfl)) (fun _ _ _ h => h) (Or.inl ⟨by rfl, ?_⟩) ?_ ?_
                                rotate_left
                                · intro w'
                                  go_simp
                                  with_reducible rfl
                                rotate_left
                                · simp only [Act.put, List.setIfInBounds_toArray, List.set_cons_zero, List.set_cons_succ, i64_w, i32_w]
                                  rfl
                                refine pure_ (i := 9) (N := some 55) (v := ?_) (a' := ?_) #[true, true, true, true, true, true, true, true, false, true, false, false, false, false, false] rfl rfl (any_of HT_.out (by kernel_rfl)) (fun _ _ _ h => h) (Or.inl ⟨by rfl, ?_⟩) ?_ ?_
                                rotate_left
                                · intro w'
                                  go_simp
                                  with_reducible rfl
                                rotate_left
                                · simp only [Act.put, List.setIfInBounds_toArray, List.set_cons_zero, List.set_cons_succ, i64_w, i32_w]
                                  rfl
                                refine take_ (i := 8) (N := some 54) (v := ?_) (a' := ?_) #[true, true, true, true, true, true, true, true, true, true, false, false, false, false, false] rfl rfl (take_ofW HT_.out HW_.out (by kernel_rfl)) (fun _ _ _ h => h) (Or.inl ⟨by rfl, ?_⟩) hHeld ?_ ?_
                                rotate_left
                                · rintro w' ⟨s0, s1, s2, s3, s4, s5, s6, s7⟩
                                  go_simp
                                  with_reducible rfl
                                rotate_left
                                · simp only [Act.put, List.setIfInBounds_toArray, List.set_cons_zero, List.set_cons_succ, i64_w, i32_w]
                                  rfl
                                refine take_ (i := 10) (N := some 56) (v := ?_) (a' := ?_) #[true, true, true, true, true, true, true, true, true, true, true, false, false, false, false] rfl rfl (take_ofW HT_.out HW_.out (by kernel_rfl)) (fun _ _ _ h => h) (Or.inl ⟨by rfl, ?_⟩) hHeld ?_ ?_
                                rotate_left
                                · rintro w' ⟨s0, s1, s2, s3, s4, s5, s6, s7⟩
                                  go_simp
                                  with_reducible rfl
                                rotate_left
                                · simp only [Act.put, List.setIfInBounds_toArray, List.set_cons_zero, List.set_cons_succ, i64_w, i32_w]
                                  rfl
                                refine one_ (i := 11) (N := some 57) #[true, true, true, true, true, true, true, true, true, true, true, true, false, false, false] rfl rfl (one_of HT_.out (by kernel_rfl)) (by decide) (fun K hK => ?_)
                                refine goes_ Try.func39 (by kernel_rfl) rfl #[.agg #[.string ((rd_T47 l0 (ji18)).f0.f0), .int .u64 ((rd_T47 l0 (ji18)).f0.f1), .int .i64 ((rd_T47 l0 (ji18)).f0.f2)], .agg #[.string ((rd_T47 l0 x25_2).f0.f0), .int .u64 ((rd_T47 l0 x25_2).f0.f1), .int .i64 ((rd_T47 l0 x25_2).f0.f2)]] (by rfl) rfl rfl (by (try simp only [List.map_toArray, List.map_cons, List.map_nil]); first | done | (simp only [hji18]; rfl) | rfl | (simp only [List.length_drop, List.length_take]; rfl)) ?_
                                with_reducible refine (ikey_Compare.calls ((rd_T47 l0 (ji18)).f0.f0) ((rd_T47 l0 (ji18)).f0.f1) ((rd_T47 l0 (ji18)).f0.f2) ((rd_T47 l0 x25_2).f0.f0) ((rd_T47 l0 x25_2).f0.f1) ((rd_T47 l0 x25_2).f0.f2) t153 _ A21.out).mono ?_
                                rintro e w28 ⟨rfl, hb⟩
                                refine ⟨_, rfl, ?_⟩
                                have n0_ := Aside0.mk (Kd.R_below (by (with_reducible repeat (first | apply Kd.R_alloc | apply Kd.R_drewN | apply Kd.R_drew)); exact HO_6.out) hb)
                                have n1_ := Aside0.mk (Kd.R_below (by (with_reducible repeat (first | apply Kd.R_alloc | apply Kd.R_drewN | apply Kd.R_drew)); exact HO_7.out) hb)
                                have n2_ := Aside0.mk (Kd.R_below (by (with_reducible repeat (first | apply Kd.R_alloc | apply Kd.R_drewN | apply Kd.R_drew)); exact HO_8.out) hb)
                                have n3_ := Aside0.mk (Kd.R_below (by (with_reducible repeat (first | apply Kd.R_alloc | apply Kd.R_drewN | apply Kd.R_drew)); exact HO150.out) hb)
                                have n4_ := Aside0.mk (blk_below (g := gb147) (o := .cells #[.string ((rd_T47 l0 x25_2).f0.f0), .int .u64 ((rd_T47 l0 x25_2).f0.f1), .int .i64 ((rd_T47 l0 x25_2).f0.f2), .string ((rd_T47 l0 x25_2).f1)] 47 (0, 0)) (by (with_reducible repeat (first | refine blk_drewN ?_ _ | refine blk_drew ?_ | refine blk_alloc ?_ _)); exact BK147.out) hb)
                                have n5_ := Aside0.mk (below_step (by repeat (first | (with_reducible first | exact HB.out | apply below_alloc | apply pw_below_drewN | apply below_drew1 | refine below_set ?_ GE147.out) | exact HB.out)) hb)
                                clear HO_6
                                clear HO_7
                                clear HO_8
                                clear HO150
                                clear BK147
                                clear HB
                                have HO_6 := n0_
                                have HO_7 := n1_
                                have HO_8 := n2_
                                have HO150 := n3_
                                have BK147 := n4_
                                have HB := n5_
                                clear n0_ n1_ n2_ n3_ n4_ n5_
                                (try clear hb)
                                (try clear hb2)
                                (try clear hk)
                                (try clear hi)
                                refine hK.out _ _ ⟨(blk_cell BK147.out 0).trans rfl, (blk_cell BK147.out 1).trans rfl, (blk_cell BK147.out 2).trans rfl, (blk_cell BK147.out 3).trans rfl, ((HB.out.cell (World.block_lt_of_cell? w _ hw152_0)).trans hw152_0), ((HB.out.cell (World.block_lt_of_cell? w _ hw152_1)).trans hw152_1), ((HB.out.cell (World.block_lt_of_cell? w _ hw152_2)).trans hw152_2), ((HB.out.cell (World.block_lt_of_cell? w _ hw152_3)).trans hw152_3)⟩ (fun hHeld => ?_)
                                clear hK K
                                refine norm_ (a' := ?_) ?_ ?_
                                rotate_left
                                · show Act.put _ (some 57) _ = _
                                  simp only [Act.put, List.setIfInBounds_toArray, List.set_cons_zero, List.set_cons_succ, i64_w, i32_w]
                                  rfl
                                refine pure_ (i := 12) (N := some 58) (v := ?_) (a' := ?_) #[true, true, true, true, true, true, true, true, true, true, true, true, true, false, false] rfl rfl (any_of HT_.out (by kernel_rfl)) (fun _ _ _ h => h) (Or.inl ⟨by rfl, ?_⟩) ?_ ?_
                                rotate_left
                                · intro w'
                                  go_simp
                                  with_reducible rfl
                                rotate_left
                                · simp only [Act.put, List.setIfInBounds_toArray, List.set_cons_zero, List.set_cons_succ, i64_w, i32_w]
                                  rfl
                                refine pure_ (i := 13) (N := some 59) (v := ?_) (a' := ?_) #[true, true, true, true, true, true, true, true, true, true, true, true, true, true, false] rfl rfl (any_of HT_.out (by kernel_rfl)) (fun _ _ _ h => h) (Or.inl ⟨by rfl, ?_⟩) ?_ ?_
                                rotate_left
                                · intro w'
                                  go_simp
                                  with_reducible rfl
                                rotate_left
                                · simp only [Act.put, List.setIfInBounds_toArray, List.set_cons_zero, List.set_cons_succ, i64_w, i32_w]
                                  rfl
                                refine pure_ (i := 14) (N := some 45) (v := ?_) (a' := ?_) #[true, true, true, true, true, true, true, true, true, true, true, true, true, true, true] rfl rfl (any_of HT_.out (by kernel_rfl)) (fun _ _ _ h => h) (Or.inl ⟨by rfl, ?_⟩) ?_ ?_
                                rotate_left
                                · intro w'
                                  go_simp
                                  with_reducible rfl
                                rotate_left
                                · simp only [Act.put, List.setIfInBounds_toArray, List.set_cons_zero, List.set_cons_succ, i64_w, i32_w]
                                  rfl
                                refine done_ (done_of HT_.out (by kernel_rfl)) ?_
                                try go_wp2
                                go_meet
                                case rel => exact ⟨_, H', ⟨by have := HJ2.out; have := HK2.out; first | omega | exact Nat.le_refl _⟩, ⟨by (with_reducible repeat (first | apply Kd.R_alloc | apply Kd.R_drewN | apply Kd.R_drew)); exact Kd.R_mono HO_6.out (fun _ hk => ⟨hk.1.1, ⟨hk.1.2, hk.2⟩⟩)⟩, ⟨by (with_reducible repeat (first | apply Kd.R_alloc | apply Kd.R_drewN | apply Kd.R_drew)); exact Kd.R_mono HO_7.out (fun _ hk => ⟨hk.1.1, ⟨hk.1.2, hk.2⟩⟩)⟩, ⟨by (with_reducible repeat (first | apply Kd.R_alloc | apply Kd.R_drewN | apply Kd.R_drew)); exact Kd.R_mono HO_8.out (fun _ hk => ⟨hk.1.1, ⟨hk.1.2, hk.2⟩⟩)⟩, ⟨by (with_reducible repeat (first | apply Kd.R_alloc | apply Kd.R_drewN | apply Kd.R_drew)); exact Kd.R_mono HO150.out (fun _ hk => ⟨hk.1.1.2, ⟨hk.1.2, hk.2⟩⟩)⟩, ⟨by (with_reducible repeat (first | refine blk_drewN ?_ _ | refine blk_drew ?_ | refine blk_alloc ?_ _)); exact BK147.out⟩, ⟨by repeat (first | (with_reducible first | exact HB.out | apply below_alloc | apply pw_below_drewN | apply below_drew1 | refine below_set ?_ GE147.out) | exact HB.out)⟩⟩
                            · rw [if_neg c20] at H
                              exact absurd H (by simp)
                          · rw [if_neg c19] at H
                            exact absurd H (by simp)
                        · rw [if_neg c17] at H
                          have c17b0 : decide (0 < x25_2) = false := decide_eq_false c17
                          clear c17
                          have H' := Aside0.mk H
                          clear H
                          have hcz29_0 : w13.cell? ⟨gb147, 0, none⟩ = some (.string ((rd_T47 l0 x25_2).f0.f0)) := (blk_cell BK147.out 0).trans rfl
                          have hcz29_1 : w13.cell? ⟨gb147, 1, none⟩ = some (.int .u64 ((rd_T47 l0 x25_2).f0.f1)) := (blk_cell BK147.out 1).trans rfl
                          have hcz29_2 : w13.cell? ⟨gb147, 2, none⟩ = some (.int .i64 ((rd_T47 l0 x25_2).f0.f2)) := (blk_cell BK147.out 2).trans rfl
                          have hcz29_3 : w13.cell? ⟨gb147, 3, none⟩ = some (.string ((rd_T47 l0 x25_2).f1)) := (blk_cell BK147.out 3).trans rfl
                          have hfz29_0 := blk_frozen BK147.out 0
                          have hfz29_1 := blk_frozen BK147.out 1
                          have hfz29_2 := blk_frozen BK147.out 2
                          have hfz29_3 := blk_frozen BK147.out 3
                          try go_wp2
                          have n0_ := Aside0.mk (Kd.R_drew HO_6.out)
                          have n1_ := Aside0.mk (Kd.R_drew HO_7.out)
                          have n2_ := Aside0.mk (Kd.R_drew HO_8.out)
                          have n3_ := Aside0.mk (Kd.R_drew HO150.out)
                          have n4_ := Aside0.mk (blk_drew BK147.out)
                          have n5_ := Aside0.mk (below_drew1 HB.out)
                          clear HO_6
                          clear HO_7
                          clear HO_8
                          clear HO150
                          clear BK147
                          clear HB
                          have HO_6 := n0_
                          have HO_7 := n1_
                          have HO_8 := n2_
                          have HO150 := n3_
                          have BK147 := n4_
                          have HB := n5_
                          clear n0_ n1_ n2_ n3_ n4_ n5_
                          refine start_ (n := 15) (S := fun w' => True) (ds := []) #[false, false, false, false, false, false, false, false, false, false, false, false, false, false, false] (by kernel_rfl) rfl rfl trivial (fun hHeld => ?_); refine with_tabW block_Build.tab13 block_Build.bits13 (fun HT_ HW_ => ?_)
                          generalize w13.drew = w30 at HO_6 HO_7 HO_8 HO150 BK147 HB hHeld ⊢
                          refine pure_ (i := 0) (N := some 46) (v := ?_) (a' := ?_) #[true, false, false, false, false, false, false, false, false, false, false, false, false, false, false] rfl rfl (any_of HT_.out (by kernel_rfl)) (fun _ _ _ h => h) (Or.inl ⟨by rfl, ?_⟩) ?_ ?_
                          rotate_left
                          · intro w'
                            go_simp
                            with_reducible rfl
                          rotate_left
                          · simp only [Act.put, List.setIfInBounds_toArray, List.set_cons_zero, List.set_cons_succ, i64_w, i32_w]
                            rfl
                          refine pure_ (i := 1) (N := some 47) (v := ?_) (a' := ?_) #[true, true, false, false, false, false, false, false, false, false, false, false, false, false, false] rfl rfl (any_of HT_.out (by kernel_rfl)) (fun _ _ _ h => h) (Or.inl ⟨by rfl, ?_⟩) ?_ ?_
                          rotate_left
                          · intro w'
                            go_simp
                            with_reducible rfl
                          rotate_left
                          · simp only [Act.put, List.setIfInBounds_toArray, List.set_cons_zero, List.set_cons_succ, i64_w, i32_w]
                            rfl
                          refine pure_ (i := 2) (N := some 48) (v := ?_) (a' := ?_) #[true, true, true, false, false, false, false, false, false, false, false, false, false, false, false] rfl rfl (any_of HT_.out (by kernel_rfl)) (fun _ _ _ h => h) (Or.inl ⟨by rfl, ?_⟩) ?_ ?_
                          rotate_left
                          · intro w'
                            go_simp
                            with_reducible rfl
                          rotate_left
                          · simp only [Act.put, List.setIfInBounds_toArray, List.set_cons_zero, List.set_cons_succ, i64_w, i32_w]
                            rfl
                          refine pure_ (i := 3) (N := some 49) (v := undef) (a' := ?_) #[true, true, true, true, false, false, false, false, false, false, false, false, false, false, false] rfl rfl (any_of HT_.out (by kernel_rfl)) (fun _ _ _ h => h) (Or.inr ⟨by rfl, rfl⟩) ?_ ?_
                          rotate_left
                          · simp only [Act.put, List.setIfInBounds_toArray, List.set_cons_zero, List.set_cons_succ, i64_w, i32_w]
                            rfl
                          refine pure_ (i := 4) (N := some 50) (v := undef) (a' := ?_) #[true, true, true, true, true, false, false, false, false, false, false, false, false, false, false] rfl rfl (any_of HT_.out (by kernel_rfl)) (fun _ _ _ h => h) (Or.inr ⟨by rfl, rfl⟩) ?_ ?_
                          rotate_left
                          · simp only [Act.put, List.setIfInBounds_toArray, List.set_cons_zero, List.set_cons_succ, i64_w, i32_w]
                            rfl
                          refine pure_ (i := 5) (N := some 51) (v := undef) (a' := ?_) #[true, true, true, true, true, true, false, false, false, false, false, false, false, false, false] rfl rfl (any_of HT_.out (by kernel_rfl)) (fun _ _ _ h => h) (Or.inr ⟨by rfl, rfl⟩) ?_ ?_
                          rotate_left
                          · simp only [Act.put, List.setIfInBounds_toArray, List.set_cons_zero, List.set_cons_succ, i64_w, i32_w]
                            rfl
                          refine pure_ (i := 6) (N := some 52) (v := undef) (a' := ?_) #[true, true, true, true, true, true, true, false, false, false, false, false, false, false, false] rfl rfl (any_of HT_.out (by kernel_rfl)) (fun _ _ _ h => h) (Or.inr ⟨by rfl, rfl⟩) ?_ ?_
                          rotate_left
                          · simp only [Act.put, List.setIfInBounds_toArray, List.set_cons_zero, List.set_cons_succ, i64_w, i32_w]
                            rfl
                          refine pure_ (i := 7) (N := some 53) (v := undef) (a' := ?_) #[true, true, true, true, true, true, true, true, false, false, false, false, false, false, false] rfl rfl (any_of HT_.out (by kernel_rfl)) (fun _ _ _ h => h) (Or.inr ⟨by rfl, rfl⟩) ?_ ?_
                          rotate_left
                          · simp only [Act.put, List.setIfInBounds_toArray, List.set_cons_zero, List.set_cons_succ, i64_w, i32_w]
                            rfl
                          refine pure_ (i := 8) (N := some 54) (v := undef) (a' := ?_) #[true, true, true, true, true, true, true, true, true, false, false, false, false, false, false] rfl rfl (any_of HT_.out (by kernel_rfl)) (fun _ _ _ h => h) (Or.inr ⟨by rfl, rfl⟩) ?_ ?_
                          rotate_left
                          · simp only [Act.put, List.setIfInBounds_toArray, List.set_cons_zero, List.set_cons_succ, i64_w, i32_w]
                            rfl
                          refine pure_ (i := 9) (N := some 55) (v := undef) (a' := ?_) #[true, true, true, true, true, true, true, true, true, true, false, false, false, false, false] rfl rfl (any_of HT_.out (by kernel_rfl)) (fun _ _ _ h => h) (Or.inr ⟨by rfl, rfl⟩) ?_ ?_
                          rotate_left
                          · simp only [Act.put, List.setIfInBounds_toArray, List.set_cons_zero, List.set_cons_succ, i64_w, i32_w]
                            rfl
                          refine pure_ (i := 10) (N := some 56) (v := undef) (a' := ?_) #[true, true, true, true, true, true, true, true, true, true, true, false, false, false, false] rfl rfl (any_of HT_.out (by kernel_rfl)) (fun _ _ _ h => h) (Or.inr ⟨by rfl, rfl⟩) ?_ ?_
                          rotate_left
                          · simp only [Act.put, List.setIfInBounds_toArray, List.set_cons_zero, List.set_cons_succ, i64_w, i32_w]
                            rfl
                          refine pure_ (i := 11) (N := some 57) (v := undef) (a' := ?_) #[true, true, true, true, true, true, true, true, true, true, true, true, false, false, false] rfl rfl (any_of HT_.out (by kernel_rfl)) (fun _ _ _ h => h) (Or.inr ⟨by rfl, rfl⟩) ?_ ?_
                          rotate_left
                          · simp only [Act.put, List.setIfInBounds_toArray, List.set_cons_zero, List.set_cons_succ, i64_w, i32_w]
                            rfl
                          refine pure_ (i := 12) (N := some 58) (v := undef) (a' := ?_) #[true, true, true, true, true, true, true, true, true, true, true, true, true, false, false] rfl rfl (any_of HT_.out (by kernel_rfl)) (fun _ _ _ h => h) (Or.inr ⟨by rfl, rfl⟩) ?_ ?_
                          rotate_left
                          · simp only [Act.put, List.setIfInBounds_toArray, List.set_cons_zero, List.set_cons_succ, i64_w, i32_w]
                            rfl
                          refine pure_ (i := 13) (N := some 59) (v := ?_) (a' := ?_) #[true, true, true, true, true, true, true, true, true, true, true, true, true, true, false] rfl rfl (any_of HT_.out (by kernel_rfl)) (fun _ _ _ h => h) (Or.inl ⟨by rfl, ?_⟩) ?_ ?_
                          rotate_left
                          · intro w'
                            go_simp
                            with_reducible rfl
                          rotate_left
                          · simp only [Act.put, List.setIfInBounds_toArray, List.set_cons_zero, List.set_cons_succ, i64_w, i32_w]
                            rfl
                          refine pure_ (i := 14) (N := some 45) (v := ?_) (a' := ?_) #[true, true, true, true, true, true, true, true, true, true, true, true, true, true, true] rfl rfl (any_of HT_.out (by kernel_rfl)) (fun _ _ _ h => h) (Or.inl ⟨by rfl, ?_⟩) ?_ ?_
                          rotate_left
                          · intro w'
                            go_simp
                            with_reducible rfl
                          rotate_left
                          · simp only [Act.put, List.setIfInBounds_toArray, List.set_cons_zero, List.set_cons_succ, i64_w, i32_w]
                            rfl
                          refine done_ (done_of HT_.out (by kernel_rfl)) ?_
                          try go_wp2
                          go_meet
                          case rel => exact ⟨_, H', ⟨by have := HJ2.out; have := HK2.out; first | omega | exact Nat.le_refl _⟩, ⟨by (with_reducible repeat (first | apply Kd.R_alloc | apply Kd.R_drewN | apply Kd.R_drew)); exact Kd.R_mono HO_6.out (fun _ hk => ⟨hk.1.1, ⟨hk.1.2, hk.2⟩⟩)⟩, ⟨by (with_reducible repeat (first | apply Kd.R_alloc | apply Kd.R_drewN | apply Kd.R_drew)); exact Kd.R_mono HO_7.out (fun _ hk => ⟨hk.1.1, ⟨hk.1.2, hk.2⟩⟩)⟩, ⟨by (with_reducible repeat (first | apply Kd.R_alloc | apply Kd.R_drewN | apply Kd.R_drew)); exact Kd.R_mono HO_8.out (fun _ hk => ⟨hk.1.1, ⟨hk.1.2, hk.2⟩⟩)⟩, ⟨by (with_reducible repeat (first | apply Kd.R_alloc | apply Kd.R_drewN | apply Kd.R_drew)); exact Kd.R_mono HO150.out (fun _ hk => ⟨hk.1.1.2, ⟨hk.1.2, hk.2⟩⟩)⟩, ⟨by (with_reducible repeat (first | refine blk_drewN ?_ _ | refine blk_drew ?_ | refine blk_alloc ?_ _)); exact BK147.out⟩, ⟨by repeat (first | (with_reducible first | exact HB.out | apply below_alloc | apply pw_below_drewN | apply below_drew1 | refine below_set ?_ GE147.out) | exact HB.out)⟩⟩
                    · rw [if_neg c14] at H
                      have c14b0 : (t151 == 0) = false := beq_eq_false_iff_ne.mpr c14
                      have c14b1 : (t151 != 0) = true := bne_iff_ne.mpr c14
                      (first | rw [c14b0] | (simp only [i64_w, i32_w]; rw [c14b0]) | skip)
                      simp only [Option.some.injEq, Prod.mk.injEq] at H
                      obtain ⟨rfl, rfl⟩ := H
                      go_wp2
                      go_ret2
                      exact ⟨_, by first | rfl | (simp [errW_none, errW_some] <;> rfl) | (simp [*, errW_none, errW_some] <;> rfl), by first | exact Kd.R_nil _ _ _ _ _ | exact Kd.N_nil _ _ _ _ _ | exact Kd.V_nil _ _ _ _ _ | exact Kd.Q_nil _ _ _ _ _ | exact Kd.S_nil _ _ _ _ _, by repeat (first | (with_reducible first | exact HB.out | apply below_alloc | apply pw_below_drewN | apply below_drew1 | refine below_set ?_ GE147.out) | exact HB.out)⟩
                  case rest =>
                    clear HC10
                    try clear c1
                    try clear p1
                    try clear q1
                    try clear hx1
                    try clear c2
                    try clear p2
                    try clear c3
                    try clear c4
                    try clear p6
                    try clear c14
                    try clear c14b0
                    try clear c14b1
                    try clear p14
                    try clear q14
                    try clear hx14
                    try clear c15
                    try clear c15b0
                    try clear c15b1
                    try clear p15
                    try clear q15
                    try clear hx15
                    try clear c17
                    try clear c17b0
                    try clear c19
                    try clear c19b0
                    try clear c20
                    try clear c20b0
                    try clear c22
                    try clear c22b0
                    try clear hcz12_0
                    try clear hcz12_1
                    try clear hcz12_2
                    try clear hcz12_3
                    try clear hcz16_0
                    try clear hcz16_1
                    try clear hcz16_2
                    try clear hcz16_3
                    try clear hcz23_0
                    try clear hcz23_1
                    try clear hcz23_2
                    try clear hcz23_3
                    try clear hcz26_0
                    try clear hcz26_1
                    try clear hcz26_2
                    try clear hcz26_3
                    try clear hcz29_0
                    try clear hcz29_1
                    try clear hcz29_2
                    try clear hcz29_3
                    try clear hfz12_0
                    try clear hfz12_1
                    try clear hfz12_2
                    try clear hfz12_3
                    try clear hfz16_0
                    try clear hfz16_1
                    try clear hfz16_2
                    try clear hfz16_3
                    try clear hfz23_0
                    try clear hfz23_1
                    try clear hfz23_2
                    try clear hfz23_3
                    try clear hfz26_0
                    try clear hfz26_1
                    try clear hfz26_2
                    try clear hfz26_3
                    try clear hfz29_0
                    try clear hfz29_1
                    try clear hfz29_2
                    try clear hfz29_3
                    try clear hx146_0
                    try clear hx146_1
                    try clear hx146_2
                    try clear hx146_3
                    try clear hx152_0
                    try clear hx152_1
                    try clear hx152_2
                    try clear hx152_3
                    try clear p146
                    try clear p152
                    try clear q146
                    try clear q152
                    obtain ⟨kq, HA, HJ9, HO_6, HO_7, HO_8, HO_12, BK147, HB⟩ := hcut
                    cases kq with
                    | zero => exact absurd HA.out (by simp [block_Build.j2])
                    | succ kj9 =>
                      have H := HA.out
                      clear HA
                      simp only [block_Build.j2] at H
                      by_cases c31 : a1 = 0
                      · rw [if_pos c31] at H
                        exact absurd H (by simp)
                      · rw [if_neg c31] at H
                        have c31b0 : (a1 == 0) = false := beq_eq_false_iff_ne.mpr c31
                        have c31b1 : (a1 != 0) = true := bne_iff_ne.mpr c31
                        have HC32 := Aside0.mk H
                        clear H
                        go_upto_if 63 with (fail)
                        go_cut [8, 9, 14] (fun v8 v9 v14 wc => ∃ (kq : Nat) (x8_31 : List Int) (x9_31 : Int) (x14_31 : Int), v9 = .int .u64 x9_31 ∧ v14 = .int .i64 x14_31 ∧ Aside0 (block_Build.j4 kq l0 a1 x6_2 x8_31 x9_31 t148 x14_31 l0 (l0.length : Int) x25_2 ((rd_T47 l0 x25_2).f0.f0) ((rd_T47 l0 x25_2).f0.f1) ((rd_T47 l0 x25_2).f0.f2) ((rd_T47 l0 x25_2).f1) = some (r1, r2)) ∧ Aside0 (kq ≤ kj9) ∧ Aside0 (Kd.R (Kd.int .u8) 5 wc w.heap.size (fun k_ => some k_ ≠ (v8 : Value).ownBlock ∧ some k_ ≠ (v149 : Value).ownBlock) u6 x6_2) ∧ Aside0 (Kd.R (Kd.int .u8) 5 wc w.heap.size (fun k_ => some k_ ≠ (u6 : Value).ownBlock ∧ some k_ ≠ (v149 : Value).ownBlock) v8 x8_31) ∧ Aside0 (Kd.R (Kd.int .u8) 5 wc w.heap.size (fun k_ => some k_ ≠ (u6 : Value).ownBlock ∧ some k_ ≠ (v8 : Value).ownBlock) v149 t148) ∧ Aside0 (wc.heap[gb147]? = some (.cells #[.string ((rd_T47 l0 x25_2).f0.f0), .int .u64 ((rd_T47 l0 x25_2).f0.f1), .int .i64 ((rd_T47 l0 x25_2).f0.f2), .string ((rd_T47 l0 x25_2).f1)] 47 (0, 0))) ∧ Aside0 (Below w.heap.size w wc))
                        case first =>
                          have H := HC32.out
                          clear HC32
                          by_cases c33 : (Int.tmod x25_2 a1) = 0
                          · rw [if_pos c33] at H
                            have c33b0 : ((Int.tmod x25_2 a1) == 0) = true := beq_iff_eq.mpr c33
                            have c33b1 : ((Int.tmod x25_2 a1) != 0) = false := bne_eq_false_iff_eq.mpr c33
                            clear c33
                            (first | rw [c33b0] | (simp only [i64_w, i32_w]; rw [c33b0]) | skip)
                            replace H := Option.bind_eq_some_iff.mp H
                            obtain ⟨t154, A340, H⟩ := H
                            replace H : (if x8_2.length + t154.length < 140737488355328 then (block_Build.j4 kj9 l0 a1 x6_2 (x8_2 ++ t154) (IntKind.u64.wrap (x9_2 + 1)) t148 0 l0 (l0.length : Int) x25_2 ((rd_T47 l0 x25_2).f0.f0) ((rd_T47 l0 x25_2).f0.f1) ((rd_T47 l0 x25_2).f0.f2) ((rd_T47 l0 x25_2).f1)) else (none)) = some (r1, r2) := H
                            have A34 := Aside0.mk A340
                            clear A340
                            by_cases c35 : x8_2.length + t154.length < 140737488355328
                            · rw [if_pos c35] at H
                              have LMc35 := Aside0.mk c35
                              clear c35
                              obtain ⟨y157, hy157⟩ : ∃ y_ : List Int, y_ = (x8_2 ++ t154) := ⟨_, rfl⟩
                              replace H : (block_Build.j4 kj9 l0 a1 x6_2 y157 (IntKind.u64.wrap (x9_2 + 1)) t148 0 l0 (l0.length : Int) x25_2 ((rd_T47 l0 x25_2).f0.f0) ((rd_T47 l0 x25_2).f0.f1) ((rd_T47 l0 x25_2).f0.f2) ((rd_T47 l0 x25_2).f1)) = some (r1, r2) := by first | (rw [hy157]; with_reducible exact H) | (have H2_ := (Option.bind_some _ _).symm.trans H; rw [hy157]; with_reducible exact H2_) | (have H2_ := (Option.bind_some _ _).symm.trans H; with_reducible exact H2_) | with_reducible exact H | (rw [hy157]; exact H) | exact H
                              have Ny157 := Aside0.mk hy157
                              clear hy157
                              have H' := Aside0.mk H
                              clear H
                              obtain ⟨Ao36, co36, eo36⟩ := Kd.R_slice HO_6.out
                              subst eo36
                              go_wp2_with (first | ((with_reducible refine gate_callee (f := 23) rfl ?_); refine goesL_ (some 68) rfl rfl Try.func23 (by kernel_rfl) rfl #[.slice none 0 0, .int .u64 (IntKind.u64.wrap ((x6_2.length : Int))), .int .i64 4] rfl (by (try simp only [List.map_toArray, List.map_cons, List.map_nil]); first | done | rfl | (simp only [List.length_drop, List.length_take]; rfl)) ?_; (refine (codec_PutFixed.calls kj9 _ _ ([] : List Int) (IntKind.u64.wrap ((x6_2.length : Int))) 4 t154 _ ?side1 ?side2 A34.out).mono ?_); (case side1 => exact Kd.C_nil _ _); (case side2 => exact Nat.le_refl _); rintro e w37 ⟨v155, rfl, ho0, hb⟩; refine ⟨_, rfl, ?_⟩; have n0_ := Aside0.mk (Kd.R_elder' (by (with_reducible repeat (first | apply Kd.R_alloc | apply Kd.R_drewN | apply Kd.R_drew)); exact HO_6.out) (Kd.R_base ho0) hb); have n1_ := Aside0.mk (Kd.R_elder' (by (with_reducible repeat (first | apply Kd.R_alloc | apply Kd.R_drewN | apply Kd.R_drew)); exact HO_7.out) (Kd.R_base ho0) hb); have n2_ := Aside0.mk (Kd.R_elder' (by (with_reducible repeat (first | apply Kd.R_alloc | apply Kd.R_drewN | apply Kd.R_drew)); exact HO_8.out) (Kd.R_base ho0) hb); have n3_ := Aside0.mk (Kd.R_elder' (by (with_reducible repeat (first | apply Kd.R_alloc | apply Kd.R_drewN | apply Kd.R_drew)); exact HO_12.out) (Kd.R_base ho0) hb); have n4_ := Aside0.mk (Kd.R_lower (Kd.R_new' (Kd.R_new' (Kd.R_new' (Kd.R_new' ho0 (Kd.R_lt (by (with_reducible repeat (first | apply Kd.R_alloc | apply Kd.R_drewN | apply Kd.R_drew)); exact HO_6.out))) (Kd.R_lt (by (with_reducible repeat (first | apply Kd.R_alloc | apply Kd.R_drewN | apply Kd.R_drew)); exact HO_7.out))) (Kd.R_lt (by (with_reducible repeat (first | apply Kd.R_alloc | apply Kd.R_drewN | apply Kd.R_drew)); exact HO_8.out))) (Kd.R_lt (by (with_reducible repeat (first | apply Kd.R_alloc | apply Kd.R_drewN | apply Kd.R_drew)); exact HO_12.out))) (below_size (by repeat (first | (with_reducible first | exact HB.out | apply below_alloc | apply pw_below_drewN | apply below_drew1 | refine below_set ?_ GE147.out) | exact HB.out)))); have n5_ := Aside0.mk (blk_below (g := gb147) (o := .cells #[.string ((rd_T47 l0 x25_2).f0.f0), .int .u64 ((rd_T47 l0 x25_2).f0.f1), .int .i64 ((rd_T47 l0 x25_2).f0.f2), .string ((rd_T47 l0 x25_2).f1)] 47 (0, 0)) (by (with_reducible repeat (first | refine blk_drewN ?_ _ | refine blk_drew ?_ | refine blk_alloc ?_ _)); exact BK147.out) hb); have n6_ := Aside0.mk (below_step (by repeat (first | (with_reducible first | exact HB.out | apply below_alloc | apply pw_below_drewN | apply below_drew1 | refine below_set ?_ GE147.out) | exact HB.out)) hb); clear HO_6; clear HO_7; clear HO_8; clear HO_12; clear BK147; clear HB; have HO_6 := n0_; have HO_7 := n1_; have HO_8 := n2_; have HO_12 := n3_; have HO156 := n4_; have BK147 := n5_; have HB := n6_; clear n0_ n1_ n2_ n3_ n4_ n5_ n6_; (try clear hb); (try clear hb2); (try clear hk); (try clear hi); (try clear ho0); obtain ⟨Ao39, co39, eo39⟩ := Kd.R_slice HO156.out; subst eo39) | ((with_reducible refine gate_builtin (b := .append) (xs := #[.tmp 64, .tmp 68]) rfl ?_); (try (refine gate_guard (by rfl) ?_; dsimp only)); at_builtin; refine Kd.R_append_rows (Kd.int .u8) (w0 := w) w.heap.size rfl (.tmp 64) (.tmp 68) 27 5 (.int .u8 0) 1 rfl Try.underlying27 info5 rfl (by decide) (by omega) u8 x8_2 t154 _ _ _ (fun k_ => some k_ ≠ (.slice Ao36 x6_2.length co36 : Value).ownBlock ∧ some k_ ≠ (u7 : Value).ownBlock ∧ some k_ ≠ (v149 : Value).ownBlock ∧ some k_ ≠ (.slice Ao39 t154.length co39 : Value).ownBlock) (fun _ => False) rfl rfl ?aO ?aR (fun _ _ h => h) (fun _ h => h.elim) ?aF ?aB ?aS ?aL ?_; (case aR => repeat (first | exact (Kd.R_reads' HO156.out).2.2 | (with_reducible refine Kd.C_alloc ?_ _) | (with_reducible refine Kd.C_drewN ?_ _) | (with_reducible refine Kd.C_drew ?_))); (case aB => exact (by repeat (first | (with_reducible first | exact HB.out | apply below_alloc | apply pw_below_drewN | apply below_drew1 | refine below_set ?_ GE147.out) | exact HB.out))); (case aF => exact (fun k_ hk => ⟨Kd.fresh' (Kd.R_lt (by (with_reducible repeat (first | apply Kd.R_alloc | apply Kd.R_drewN | apply Kd.R_drew)); exact HO_6.out)) k_ hk, Kd.fresh' (Kd.R_lt (by (with_reducible repeat (first | apply Kd.R_alloc | apply Kd.R_drewN | apply Kd.R_drew)); exact HO_7.out)) k_ hk, Kd.fresh' (Kd.R_lt (by (with_reducible repeat (first | apply Kd.R_alloc | apply Kd.R_drewN | apply Kd.R_drew)); exact HO_12.out)) k_ hk, Kd.fresh' (Kd.R_lt (by (with_reducible repeat (first | apply Kd.R_alloc | apply Kd.R_drewN | apply Kd.R_drew)); exact HO156.out)) k_ hk⟩)); (case aO => exact (by (with_reducible repeat (first | apply Kd.R_alloc | apply Kd.R_drewN | apply Kd.R_drew)); exact Kd.R_mono HO_8.out (fun _ hk => ⟨hk.1.1, ⟨hk.1.2.1, ⟨hk.1.2.2, hk.2⟩⟩⟩))); (case aS => exact (below_size (by repeat (first | (with_reducible first | exact HB.out | apply below_alloc | apply pw_below_drewN | apply below_drew1 | refine below_set ?_ GE147.out) | exact HB.out)))); (case aL => have := LMc35.out; omega); intro v158 w38 ho hb hg hat; rw [← Ny157.out] at ho; have n0_ := Aside0.mk (Kd.R_after (ok := (fun k_ => some k_ ≠ (u7 : Value).ownBlock ∧ some k_ ≠ (v149 : Value).ownBlock ∧ some k_ ≠ (.slice Ao39 t154.length co39 : Value).ownBlock)) (by (with_reducible repeat (first | apply Kd.R_alloc | apply Kd.R_drewN | apply Kd.R_drew)); exact Kd.R_mono HO_6.out (fun _ hk => ⟨⟨hk.1.1, ⟨hk.1.2.2, hk.2⟩⟩, hk.1.2.1⟩)) hg hat); have n1_ := Aside0.mk (Kd.R_after (ok := (fun k_ => some k_ ≠ (.slice Ao36 x6_2.length co36 : Value).ownBlock ∧ some k_ ≠ (v149 : Value).ownBlock ∧ some k_ ≠ (.slice Ao39 t154.length co39 : Value).ownBlock)) (by (with_reducible repeat (first | apply Kd.R_alloc | apply Kd.R_drewN | apply Kd.R_drew)); exact Kd.R_mono HO_7.out (fun _ hk => ⟨⟨hk.1.1, ⟨hk.1.2.2, hk.2⟩⟩, hk.1.2.1⟩)) hg hat); have n2_ := Aside0.mk (Kd.R_after (ok := (fun k_ => some k_ ≠ (.slice Ao36 x6_2.length co36 : Value).ownBlock ∧ some k_ ≠ (u7 : Value).ownBlock ∧ some k_ ≠ (.slice Ao39 t154.length co39 : Value).ownBlock)) (by (with_reducible repeat (first | apply Kd.R_alloc | apply Kd.R_drewN | apply Kd.R_drew)); exact Kd.R_mono HO_12.out (fun _ hk => ⟨⟨hk.1.1, ⟨hk.1.2.1, hk.2⟩⟩, hk.1.2.2⟩)) hg hat); have n3_ := Aside0.mk (blk_grown (g := gb147) (o := .cells #[.string ((rd_T47 l0 x25_2).f0.f0), .int .u64 ((rd_T47 l0 x25_2).f0.f1), .int .i64 ((rd_T47 l0 x25_2).f0.f2), .string ((rd_T47 l0 x25_2).f1)] 47 (0, 0)) (by (with_reducible repeat (first | refine blk_drewN ?_ _ | refine blk_drew ?_ | refine blk_alloc ?_ _)); exact BK147.out) hg (Kd.R_ne HO_8.out BK147.out (by decide))); have n4_ := Aside0.mk (Kd.R_after (ok := (fun k_ => some k_ ≠ (.slice Ao36 x6_2.length co36 : Value).ownBlock ∧ some k_ ≠ (u7 : Value).ownBlock ∧ some k_ ≠ (v149 : Value).ownBlock)) (by (with_reducible repeat (first | apply Kd.R_alloc | apply Kd.R_drewN | apply Kd.R_drew)); exact Kd.R_mono HO156.out (fun _ hk => ⟨⟨hk.1.1.1.2, ⟨hk.1.1.2, hk.2⟩⟩, hk.1.2⟩)) hg hat); have n5_ := Aside0.mk (hb); have n6_ := Aside0.mk (ho); clear HO_6; clear HO_7; clear HO_12; clear BK147; clear HO156; clear HB; clear HO_8; have HO_6 := n0_; have HO_7 := n1_; have HO_12 := n2_; have BK147 := n3_; have HO156 := n4_; have HB := n5_; have HO159 := n6_; clear n0_ n1_ n2_ n3_ n4_ n5_ n6_; clear ho hb hg hat))
                              go_meet
                              case rel => exact ⟨_, (y157), (IntKind.u64.wrap (x9_2 + 1)), (0), (by first | rfl | (simp; done) | (simp [*]; done) | (simp; omega)), (by first | rfl | (simp; done) | (simp [*]; done) | (simp; omega)), H', ⟨by have := HJ2.out; have := HK2.out; have := HJ9.out; first | omega | exact Nat.le_refl _⟩, ⟨by (with_reducible repeat (first | apply Kd.R_alloc | apply Kd.R_drewN | apply Kd.R_drew)); exact Kd.R_mono HO_6.out (fun _ hk => ⟨hk.2, hk.1.2.1⟩)⟩, ⟨by (with_reducible repeat (first | apply Kd.R_alloc | apply Kd.R_drewN | apply Kd.R_drew)); exact Kd.R_mono HO159.out (fun _ hk => ⟨hk.1, hk.2.2.1⟩)⟩, ⟨by (with_reducible repeat (first | apply Kd.R_alloc | apply Kd.R_drewN | apply Kd.R_drew)); exact Kd.R_mono HO_12.out (fun _ hk => ⟨hk.1.1, hk.2⟩)⟩, ⟨by (with_reducible repeat (first | refine blk_drewN ?_ _ | refine blk_drew ?_ | refine blk_alloc ?_ _)); exact BK147.out⟩, ⟨by repeat (first | (with_reducible first | exact HB.out | apply below_alloc | apply pw_below_drewN | apply below_drew1 | refine below_set ?_ GE147.out) | exact HB.out)⟩⟩
                            · rw [if_neg c35] at H
                              exact absurd H (by simp)
                          · rw [if_neg c33] at H
                            have c33b0 : ((Int.tmod x25_2 a1) == 0) = false := beq_eq_false_iff_ne.mpr c33
                            have c33b1 : ((Int.tmod x25_2 a1) != 0) = true := bne_iff_ne.mpr c33
                            (first | rw [c33b0] | (simp only [i64_w, i32_w]; rw [c33b0]) | skip)
                            have H' := Aside0.mk H
                            clear H
                            go_wp2
                            go_loopg [14] kj9 (fun kq v14 w' => ∃ (x14_4 : Int), v14 = .int .i64 x14_4 ∧ Aside0 (block_Build.l1 kq l0 a1 x6_2 x7_2 x8_2 x9_2 t148 x14_4 l0 (l0.length : Int) x25_2 ((rd_T47 l0 x25_2).f0.f0) ((rd_T47 l0 x25_2).f0.f1) ((rd_T47 l0 x25_2).f0.f2) ((rd_T47 l0 x25_2).f1) = some (r1, r2)) ∧ Aside0 (kq ≤ kj9) ∧ Aside0 (Kd.R (Kd.int .u8) 5 w' w.heap.size (fun k_ => some k_ ≠ (u7 : Value).ownBlock ∧ some k_ ≠ (u8 : Value).ownBlock ∧ some k_ ≠ (v149 : Value).ownBlock) u6 x6_2) ∧ Aside0 (Kd.R (Kd.int .u8) 5 w' w.heap.size (fun k_ => some k_ ≠ (u6 : Value).ownBlock ∧ some k_ ≠ (u8 : Value).ownBlock ∧ some k_ ≠ (v149 : Value).ownBlock) u7 x7_2) ∧ Aside0 (Kd.R (Kd.int .u8) 5 w' w.heap.size (fun k_ => some k_ ≠ (u6 : Value).ownBlock ∧ some k_ ≠ (u7 : Value).ownBlock ∧ some k_ ≠ (v149 : Value).ownBlock) u8 x8_2) ∧ Aside0 (Kd.R (Kd.int .u8) 5 w' w.heap.size (fun k_ => some k_ ≠ (u6 : Value).ownBlock ∧ some k_ ≠ (u7 : Value).ownBlock ∧ some k_ ≠ (u8 : Value).ownBlock) v149 t148) ∧ Aside0 (w'.heap[gb147]? = some (.cells #[.string ((rd_T47 l0 x25_2).f0.f0), .int .u64 ((rd_T47 l0 x25_2).f0.f1), .int .i64 ((rd_T47 l0 x25_2).f0.f2), .string ((rd_T47 l0 x25_2).f1)] 47 (0, 0))) ∧ Aside0 (Below w.heap.size w w'))
                            case atStart => exact ⟨(0), (by first | rfl | (simp; done) | (simp [*]; done) | (simp; omega)), H', ⟨Nat.le_refl _⟩, ⟨by (with_reducible repeat (first | apply Kd.R_alloc | apply Kd.R_drewN | apply Kd.R_drew)); exact HO_6.out⟩, ⟨by (with_reducible repeat (first | apply Kd.R_alloc | apply Kd.R_drewN | apply Kd.R_drew)); exact HO_7.out⟩, ⟨by (with_reducible repeat (first | apply Kd.R_alloc | apply Kd.R_drewN | apply Kd.R_drew)); exact HO_8.out⟩, ⟨by (with_reducible repeat (first | apply Kd.R_alloc | apply Kd.R_drewN | apply Kd.R_drew)); exact HO_12.out⟩, ⟨by (with_reducible repeat (first | refine blk_drewN ?_ _ | refine blk_drew ?_ | refine blk_alloc ?_ _)); exact BK147.out⟩, ⟨by repeat (first | (with_reducible first | exact HB.out | apply below_alloc | apply pw_below_drewN | apply below_drew1 | refine below_set ?_ GE147.out) | exact HB.out)⟩⟩
                            case round =>
                              clear H'
                              try clear c1
                              try clear p1
                              try clear q1
                              try clear hx1
                              try clear c2
                              try clear p2
                              try clear c3
                              try clear c4
                              try clear p6
                              try clear c14
                              try clear c14b0
                              try clear c14b1
                              try clear p14
                              try clear q14
                              try clear hx14
                              try clear c15
                              try clear c15b0
                              try clear c15b1
                              try clear p15
                              try clear q15
                              try clear hx15
                              try clear c17
                              try clear c17b0
                              try clear c19
                              try clear c19b0
                              try clear c20
                              try clear c20b0
                              try clear c22
                              try clear c22b0
                              try clear c23
                              try clear c31
                              try clear c31b0
                              try clear c31b1
                              try clear c33
                              try clear c33b0
                              try clear c33b1
                              try clear c35
                              try clear c39
                              try clear hcz12_0
                              try clear hcz12_1
                              try clear hcz12_2
                              try clear hcz12_3
                              try clear hcz16_0
                              try clear hcz16_1
                              try clear hcz16_2
                              try clear hcz16_3
                              try clear hcz23_0
                              try clear hcz23_1
                              try clear hcz23_2
                              try clear hcz23_3
                              try clear hcz26_0
                              try clear hcz26_1
                              try clear hcz26_2
                              try clear hcz26_3
                              try clear hcz29_0
                              try clear hcz29_1
                              try clear hcz29_2
                              try clear hcz29_3
                              try clear hfz12_0
                              try clear hfz12_1
                              try clear hfz12_2
                              try clear hfz12_3
                              try clear hfz16_0
                              try clear hfz16_1
                              try clear hfz16_2
                              try clear hfz16_3
                              try clear hfz23_0
                              try clear hfz23_1
                              try clear hfz23_2
                              try clear hfz23_3
                              try clear hfz26_0
                              try clear hfz26_1
                              try clear hfz26_2
                              try clear hfz26_3
                              try clear hfz29_0
                              try clear hfz29_1
                              try clear hfz29_2
                              try clear hfz29_3
                              try clear hx146_0
                              try clear hx146_1
                              try clear hx146_2
                              try clear hx146_3
                              try clear hx152_0
                              try clear hx152_1
                              try clear hx152_2
                              try clear hx152_3
                              try clear p1
                              try clear p14
                              try clear p146
                              try clear p15
                              try clear p152
                              try clear p2
                              try clear p6
                              try clear q1
                              try clear q14
                              try clear q146
                              try clear q15
                              try clear q152
                              obtain ⟨x14_4, rfl, HA, HK4, HO_6, HO_7, HO_8, HO_12, BK147, HB⟩ := hrel
                              cases gk with
                              | zero => exact absurd HA.out (by simp [block_Build.l1])
                              | succ k4 =>
                                have H := HA.out
                                clear HA
                                simp only [block_Build.l1] at H
                                by_cases c40 : x14_4 < (x7_2.length : Int)
                                · rw [if_pos c40] at H
                                  have c40b0 : decide (x14_4 < (x7_2.length : Int)) = true := decide_eq_true c40
                                  clear c40
                                  by_cases c41 : x14_4 < (t148.length : Int)
                                  · rw [if_pos c41] at H
                                    have c41b0 : decide (x14_4 < (t148.length : Int)) = true := decide_eq_true c41
                                    clear c41
                                    by_cases c42 : 0 ≤ x14_4
                                    · rw [if_pos c42] at H
                                      have c42b0 : decide (0 ≤ x14_4) = true := decide_eq_true c42
                                      clear c42
                                      by_cases c43 : (rd x7_2 x14_4) = (rd t148 x14_4)
                                      · rw [if_pos c43] at H
                                        have c43b0 : ((rd x7_2 x14_4) == (rd t148 x14_4)) = true := beq_iff_eq.mpr c43
                                        have c43b1 : ((rd x7_2 x14_4) != (rd t148 x14_4)) = false := bne_eq_false_iff_eq.mpr c43
                                        clear c43
                                        have H' := Aside0.mk H
                                        clear H
                                        try go_wp2
                                        have n0_ := Aside0.mk (Kd.R_drew HO_6.out)
                                        have n1_ := Aside0.mk (Kd.R_drew HO_7.out)
                                        have n2_ := Aside0.mk (Kd.R_drew HO_8.out)
                                        have n3_ := Aside0.mk (Kd.R_drew HO_12.out)
                                        have n4_ := Aside0.mk (blk_drew BK147.out)
                                        have n5_ := Aside0.mk (below_drew1 HB.out)
                                        clear HO_6
                                        clear HO_7
                                        clear HO_8
                                        clear HO_12
                                        clear BK147
                                        clear HB
                                        have HO_6 := n0_
                                        have HO_7 := n1_
                                        have HO_8 := n2_
                                        have HO_12 := n3_
                                        have BK147 := n4_
                                        have HB := n5_
                                        clear n0_ n1_ n2_ n3_ n4_ n5_
                                        obtain ⟨Ao45, co45, eo45⟩ := Kd.R_slice HO_7.out
                                        (first | subst eo45 | (injection eo45 with f1_ f2_ f3_; have f4_ := f1_.symm; have f5_ := f3_.symm; clear f1_ f2_ f3_; subst f4_; subst f5_))
                                        obtain ⟨Ao46, co46, eo46⟩ := Kd.R_slice HO_12.out
                                        (first | subst eo46 | (injection eo46 with f1_ f2_ f3_; have f4_ := f1_.symm; have f5_ := f3_.symm; clear f1_ f2_ f3_; subst f4_; subst f5_))
                                        have p160 : 0 ≤ (x14_4 : Int) := of_decide_eq_true (by first | (with_reducible assumption) | assumption)
                                        have q160 : x14_4 < (x7_2.length : Int) := of_decide_eq_true (by first | (with_reducible assumption) | assumption)
                                        obtain ⟨ad160, e160, hx160_0⟩ := Kd.at_int (Kd.R_reads' HO_7.out).2.2 x14_4 p160 q160
                                        cases e160
                                        replace p160 := eq_true p160
                                        replace q160 := eq_true q160
                                        have p161 : 0 ≤ (x14_4 : Int) := of_decide_eq_true (by first | (with_reducible assumption) | assumption)
                                        have q161 : x14_4 < (t148.length : Int) := of_decide_eq_true (by first | (with_reducible assumption) | assumption)
                                        obtain ⟨ad161, e161, hx161_0⟩ := Kd.at_int (Kd.R_reads' HO_12.out).2.2 x14_4 p161 q161
                                        cases e161
                                        replace p161 := eq_true p161
                                        replace q161 := eq_true q161
                                        refine start_ (n := 21) (S := fun w' => w'.cell? (ad160.add (x14_4).toNat) = some (.int .u8 (rd x7_2 x14_4)) ∧ w'.cell? (ad161.add (x14_4).toNat) = some (.int .u8 (rd t148 x14_4))) (ds := []) #[false, false, false, false, false, false, false, false, false, false, false, false, false, false, false, false, false, false, false, false, false] (by kernel_rfl) rfl rfl ⟨hx160_0, hx161_0⟩ (fun hHeld => ?_); refine with_tabW block_Build.tab19 block_Build.bits19 (fun HT_ HW_ => ?_)
                                        generalize wr.drew = w44 at HO_6 HO_7 HO_8 HO_12 BK147 HB hx160_0 hx161_0 hHeld ⊢
                                        refine pure_ (i := 0) (N := some 72) (v := ?_) (a' := ?_) #[true, false, false, false, false, false, false, false, false, false, false, false, false, false, false, false, false, false, false, false, false] rfl rfl (any_of HT_.out (by kernel_rfl)) (fun _ _ _ h => h) (Or.inl ⟨by rfl, ?_⟩) ?_ ?_
                                        rotate_left
                                        · intro w'
                                          go_simp
                                          with_reducible rfl
                                        rotate_left
                                        · simp only [Act.put, List.setIfInBounds_toArray, List.set_cons_zero, List.set_cons_succ, i64_w, i32_w]
                                          rfl
                                        refine pure_ (i := 1) (N := some 73) (v := ?_) (a' := ?_) #[true, true, false, false, false, false, false, false, false, false, false, false, false, false, false, false, false, false, false, false, false] rfl rfl (any_of HT_.out (by kernel_rfl)) (fun _ _ _ h => h) (Or.inl ⟨by rfl, ?_⟩) ?_ ?_
                                        rotate_left
                                        · intro w'
                                          go_simp
                                          with_reducible rfl
                                        rotate_left
                                        · simp only [Act.put, List.setIfInBounds_toArray, List.set_cons_zero, List.set_cons_succ, i64_w, i32_w]
                                          rfl
                                        refine pure_ (i := 2) (N := some 74) (v := ?_) (a' := ?_) #[true, true, true, false, false, false, false, false, false, false, false, false, false, false, false, false, false, false, false, false, false] rfl rfl (any_of HT_.out (by kernel_rfl)) (fun _ _ _ h => h) (Or.inl ⟨by rfl, ?_⟩) ?_ ?_
                                        rotate_left
                                        · intro w'
                                          go_simp
                                          with_reducible rfl
                                        rotate_left
                                        · simp only [Act.put, List.setIfInBounds_toArray, List.set_cons_zero, List.set_cons_succ, i64_w, i32_w]
                                          rfl
                                        refine pure_ (i := 3) (N := some 75) (v := ?_) (a' := ?_) #[true, true, true, true, false, false, false, false, false, false, false, false, false, false, false, false, false, false, false, false, false] rfl rfl (any_of HT_.out (by kernel_rfl)) (fun _ _ _ h => h) (Or.inl ⟨by rfl, ?_⟩) ?_ ?_
                                        rotate_left
                                        · intro w'
                                          go_simp
                                          with_reducible rfl
                                        rotate_left
                                        · simp only [Act.put, List.setIfInBounds_toArray, List.set_cons_zero, List.set_cons_succ, i64_w, i32_w]
                                          rfl
                                        refine pure_ (i := 4) (N := some 76) (v := ?_) (a' := ?_) #[true, true, true, true, true, false, false, false, false, false, false, false, false, false, false, false, false, false, false, false, false] rfl rfl (any_of HT_.out (by kernel_rfl)) (fun _ _ _ h => h) (Or.inl ⟨by rfl, ?_⟩) ?_ ?_
                                        rotate_left
                                        · intro w'
                                          go_simp
                                          with_reducible rfl
                                        rotate_left
                                        · simp only [Act.put, List.setIfInBounds_toArray, List.set_cons_zero, List.set_cons_succ, i64_w, i32_w]
                                          rfl
                                        refine pure_ (i := 5) (N := some 77) (v := ?_) (a' := ?_) #[true, true, true, true, true, true, false, false, false, false, false, false, false, false, false, false, false, false, false, false, false] rfl rfl (any_of HT_.out (by kernel_rfl)) (fun _ _ _ h => h) (Or.inl ⟨by rfl, ?_⟩) ?_ ?_
                                        rotate_left
                                        · intro w'
                                          go_simp
                                          with_reducible rfl
                                        rotate_left
                                        · simp only [Act.put, List.setIfInBounds_toArray, List.set_cons_zero, List.set_cons_succ, i64_w, i32_w]
                                          rfl
                                        refine pure_ (i := 6) (N := some 78) (v := ?_) (a' := ?_) #[true, true, true, true, true, true, true, false, false, false, false, false, false, false, false, false, false, false, false, false, false] rfl rfl (any_of HT_.out (by kernel_rfl)) (fun _ _ _ h => h) (Or.inl ⟨by rfl, ?_⟩) ?_ ?_
                                        rotate_left
                                        · intro w'
                                          go_simp
                                          with_reducible rfl
                                        rotate_left
                                        · simp only [Act.put, List.setIfInBounds_toArray, List.set_cons_zero, List.set_cons_succ, i64_w, i32_w]
                                          rfl
                                        refine pure_ (i := 7) (N := some 79) (v := ?_) (a' := ?_) #[true, true, true, true, true, true, true, true, false, false, false, false, false, false, false, false, false, false, false, false, false] rfl rfl (any_of HT_.out (by kernel_rfl)) (fun _ _ _ h => h) (Or.inl ⟨by rfl, ?_⟩) ?_ ?_
                                        rotate_left
                                        · intro w'
                                          go_simp
                                          with_reducible rfl
                                        rotate_left
                                        · simp only [Act.put, List.setIfInBounds_toArray, List.set_cons_zero, List.set_cons_succ, i64_w, i32_w]
                                          rfl
                                        refine pure_ (i := 8) (N := some 80) (v := ?_) (a' := ?_) #[true, true, true, true, true, true, true, true, true, false, false, false, false, false, false, false, false, false, false, false, false] rfl rfl (any_of HT_.out (by kernel_rfl)) (fun _ _ _ h => h) (Or.inl ⟨by rfl, ?_⟩) ?_ ?_
                                        rotate_left
                                        · intro w'
                                          go_simp
                                          with_reducible rfl
                                        rotate_left
                                        · simp only [Act.put, List.setIfInBounds_toArray, List.set_cons_zero, List.set_cons_succ, i64_w, i32_w]
                                          rfl
                                        refine pure_ (i := 9) (N := some 81) (v := ?_) (a' := ?_) #[true, true, true, true, true, true, true, true, true, true, false, false, false, false, false, false, false, false, false, false, false] rfl rfl (any_of HT_.out (by kernel_rfl)) (fun _ _ _ h => h) (Or.inl ⟨by rfl, ?_⟩) ?_ ?_
                                        rotate_left
                                        · intro w'
                                          go_simp
                                          with_reducible rfl
                                        rotate_left
                                        · simp only [Act.put, List.setIfInBounds_toArray, List.set_cons_zero, List.set_cons_succ, i64_w, i32_w]
                                          rfl
                                        refine pure_ (i := 10) (N := some 82) (v := ?_) (a' := ?_) #[true, true, true, true, true, true, true, true, true, true, true, false, false, false, false, false, false, false, false, false, false] rfl rfl (any_of HT_.out (by kernel_rfl)) (fun _ _ _ h => h) (Or.inl ⟨by rfl, ?_⟩) ?_ ?_
                                        rotate_left
                                        · intro w'
                                          go_simp
                                          with_reducible rfl
                                        rotate_left
                                        · simp only [Act.put, List.setIfInBounds_toArray, List.set_cons_zero, List.set_cons_succ, i64_w, i32_w]
                                          rfl
                                        refine pure_ (i := 11) (N := some 83) (v := ?_) (a' := ?_) #[true, true, true, true, true, true, true, true, true, true, true, true, false, false, false, false, false, false, false, false, false] rfl rfl (any_of HT_.out (by kernel_rfl)) (fun _ _ _ h => h) (Or.inl ⟨by rfl, ?_⟩) ?_ ?_
                                        rotate_left
                                        · intro w'
                                          go_simp
                                          with_reducible rfl
                                        rotate_left
                                        · simp only [Act.put, List.setIfInBounds_toArray, List.set_cons_zero, List.set_cons_succ, i64_w, i32_w]
                                          rfl
                                        refine pure_ (i := 12) (N := some 84) (v := ?_) (a' := ?_) #[true, true, true, true, true, true, true, true, true, true, true, true, true, false, false, false, false, false, false, false, false] rfl rfl (any_of HT_.out (by kernel_rfl)) (fun _ _ _ h => h) (Or.inl ⟨by rfl, ?_⟩) ?_ ?_
                                        rotate_left
                                        · intro w'
                                          go_simp
                                          with_reducible rfl
                                        rotate_left
                                        · simp only [Act.put, List.setIfInBounds_toArray, List.set_cons_zero, List.set_cons_succ, i64_w, i32_w]
                                          rfl
                                        refine pure_ (i := 13) (N := some 85) (v := ?_) (a' := ?_) #[true, true, true, true, true, true, true, true, true, true, true, true, true, true, false, false, false, false, false, false, false] rfl rfl (any_of HT_.out (by kernel_rfl)) (fun _ _ _ h => h) (Or.inl ⟨by rfl, ?_⟩) ?_ ?_
                                        rotate_left
                                        · intro w'
                                          go_simp
                                          with_reducible rfl
                                        rotate_left
                                        · simp only [Act.put, List.setIfInBounds_toArray, List.set_cons_zero, List.set_cons_succ, i64_w, i32_w]
                                          rfl
                                        refine pure_ (i := 15) (N := some 87) (v := ?_) (a' := ?_) #[true, true, true, true, true, true, true, true, true, true, true, true, true, true, false, true, false, false, false, false, false] rfl rfl (any_of HT_.out (by kernel_rfl)) (fun _ _ _ h => h) (Or.inl ⟨by rfl, ?_⟩) ?_ ?_
                                        rotate_left
                                        · intro w'
                                          go_simp
                                          with_reducible rfl
                                        rotate_left
                                        · simp only [Act.put, List.setIfInBounds_toArray, List.set_cons_zero, List.set_cons_succ, i64_w, i32_w]
                                          rfl
                                        refine pure_ (i := 16) (N := some 88) (v := ?_) (a' := ?_) #[true, true, true, true, true, true, true, true, true, true, true, true, true, true, false, true, true, false, false, false, false] rfl rfl (any_of HT_.out (by kernel_rfl)) (fun _ _ _ h => h) (Or.inl ⟨by rfl, ?_⟩) ?_ ?_
                                        rotate_left
                                        · intro w'
                                          go_simp
                                          with_reducible rfl
                                        rotate_left
                                        · simp only [Act.put, List.setIfInBounds_toArray, List.set_cons_zero, List.set_cons_succ, i64_w, i32_w]
                                          rfl
                                        refine pure_ (i := 17) (N := some 89) (v := ?_) (a' := ?_) #[true, true, true, true, true, true, true, true, true, true, true, true, true, true, false, true, true, true, false, false, false] rfl rfl (any_of HT_.out (by kernel_rfl)) (fun _ _ _ h => h) (Or.inl ⟨by rfl, ?_⟩) ?_ ?_
                                        rotate_left
                                        · intro w'
                                          go_simp
                                          with_reducible rfl
                                        rotate_left
                                        · simp only [Act.put, List.setIfInBounds_toArray, List.set_cons_zero, List.set_cons_succ, i64_w, i32_w]
                                          rfl
                                        refine take_ (i := 14) (N := some 86) (v := ?_) (a' := ?_) #[true, true, true, true, true, true, true, true, true, true, true, true, true, true, true, true, true, true, false, false, false] rfl rfl (take_ofW HT_.out HW_.out (by kernel_rfl)) (fun _ _ _ h => h) (Or.inl ⟨by rfl, ?_⟩) hHeld ?_ ?_
                                        rotate_left
                                        · rintro w' ⟨s0, s1⟩
                                          go_simp
                                          with_reducible rfl
                                        rotate_left
                                        · simp only [Act.put, List.setIfInBounds_toArray, List.set_cons_zero, List.set_cons_succ, i64_w, i32_w]
                                          rfl
                                        refine take_ (i := 18) (N := some 90) (v := ?_) (a' := ?_) #[true, true, true, true, true, true, true, true, true, true, true, true, true, true, true, true, true, true, true, false, false] rfl rfl (take_ofW HT_.out HW_.out (by kernel_rfl)) (fun _ _ _ h => h) (Or.inl ⟨by rfl, ?_⟩) hHeld ?_ ?_
                                        rotate_left
                                        · rintro w' ⟨s0, s1⟩
                                          go_simp
                                          with_reducible rfl
                                        rotate_left
                                        · simp only [Act.put, List.setIfInBounds_toArray, List.set_cons_zero, List.set_cons_succ, i64_w, i32_w]
                                          rfl
                                        refine pure_ (i := 19) (N := some 91) (v := ?_) (a' := ?_) #[true, true, true, true, true, true, true, true, true, true, true, true, true, true, true, true, true, true, true, true, false] rfl rfl (any_of HT_.out (by kernel_rfl)) (fun _ _ _ h => h) (Or.inl ⟨by rfl, ?_⟩) ?_ ?_
                                        rotate_left
                                        · intro w'
                                          go_simp
                                          with_reducible rfl
                                        rotate_left
                                        · simp only [Act.put, List.setIfInBounds_toArray, List.set_cons_zero, List.set_cons_succ, i64_w, i32_w]
                                          rfl
                                        refine pure_ (i := 20) (N := some 92) (v := ?_) (a' := ?_) #[true, true, true, true, true, true, true, true, true, true, true, true, true, true, true, true, true, true, true, true, true] rfl rfl (any_of HT_.out (by kernel_rfl)) (fun _ _ _ h => h) (Or.inl ⟨by rfl, ?_⟩) ?_ ?_
                                        rotate_left
                                        · intro w'
                                          go_simp
                                          with_reducible rfl
                                        rotate_left
                                        · simp only [Act.put, List.setIfInBounds_toArray, List.set_cons_zero, List.set_cons_succ, i64_w, i32_w]
                                          rfl
                                        refine done_ (done_of HT_.out (by kernel_rfl)) ?_
                                        try go_wp2
                                        go_roundg k4
                                        case measure => have := HJ2.out; have := HK2.out; have := HJ9.out; have := HK4.out; omega
                                        case rel => exact ⟨(wrap64 (x14_4 + 1)), (by first | rfl | (simp; done) | (simp [*]; done) | (simp; omega)), H', ⟨by have := HJ2.out; have := HK2.out; have := HJ9.out; have := HK4.out; omega⟩, ⟨by (with_reducible repeat (first | apply Kd.R_alloc | apply Kd.R_drewN | apply Kd.R_drew)); exact HO_6.out⟩, ⟨by (with_reducible repeat (first | apply Kd.R_alloc | apply Kd.R_drewN | apply Kd.R_drew)); exact HO_7.out⟩, ⟨by (with_reducible repeat (first | apply Kd.R_alloc | apply Kd.R_drewN | apply Kd.R_drew)); exact HO_8.out⟩, ⟨by (with_reducible repeat (first | apply Kd.R_alloc | apply Kd.R_drewN | apply Kd.R_drew)); exact HO_12.out⟩, ⟨by (with_reducible repeat (first | refine blk_drewN ?_ _ | refine blk_drew ?_ | refine blk_alloc ?_ _)); exact BK147.out⟩, ⟨by repeat (first | (with_reducible first | exact HB.out | apply below_alloc | apply pw_below_drewN | apply below_drew1 | refine below_set ?_ GE147.out) | exact HB.out)⟩⟩
                                      · rw [if_neg c43] at H
                                        have c43b0 : ((rd x7_2 x14_4) == (rd t148 x14_4)) = false := beq_eq_false_iff_ne.mpr c43
                                        have c43b1 : ((rd x7_2 x14_4) != (rd t148 x14_4)) = true := bne_iff_ne.mpr c43
                                        have H' := Aside0.mk H
                                        clear H
                                        try go_wp2
                                        have n0_ := Aside0.mk (Kd.R_drew HO_6.out)
                                        have n1_ := Aside0.mk (Kd.R_drew HO_7.out)
                                        have n2_ := Aside0.mk (Kd.R_drew HO_8.out)
                                        have n3_ := Aside0.mk (Kd.R_drew HO_12.out)
                                        have n4_ := Aside0.mk (blk_drew BK147.out)
                                        have n5_ := Aside0.mk (below_drew1 HB.out)
                                        clear HO_6
                                        clear HO_7
                                        clear HO_8
                                        clear HO_12
                                        clear BK147
                                        clear HB
                                        have HO_6 := n0_
                                        have HO_7 := n1_
                                        have HO_8 := n2_
                                        have HO_12 := n3_
                                        have BK147 := n4_
                                        have HB := n5_
                                        clear n0_ n1_ n2_ n3_ n4_ n5_
                                        obtain ⟨Ao48, co48, eo48⟩ := Kd.R_slice HO_7.out
                                        (first | subst eo48 | (injection eo48 with f1_ f2_ f3_; have f4_ := f1_.symm; have f5_ := f3_.symm; clear f1_ f2_ f3_; subst f4_; subst f5_))
                                        obtain ⟨Ao49, co49, eo49⟩ := Kd.R_slice HO_12.out
                                        (first | subst eo49 | (injection eo49 with f1_ f2_ f3_; have f4_ := f1_.symm; have f5_ := f3_.symm; clear f1_ f2_ f3_; subst f4_; subst f5_))
                                        have p160 : 0 ≤ (x14_4 : Int) := of_decide_eq_true (by first | (with_reducible assumption) | assumption)
                                        have q160 : x14_4 < (x7_2.length : Int) := of_decide_eq_true (by first | (with_reducible assumption) | assumption)
                                        obtain ⟨ad160, e160, hx160_0⟩ := Kd.at_int (Kd.R_reads' HO_7.out).2.2 x14_4 p160 q160
                                        cases e160
                                        replace p160 := eq_true p160
                                        replace q160 := eq_true q160
                                        have p161 : 0 ≤ (x14_4 : Int) := of_decide_eq_true (by first | (with_reducible assumption) | assumption)
                                        have q161 : x14_4 < (t148.length : Int) := of_decide_eq_true (by first | (with_reducible assumption) | assumption)
                                        obtain ⟨ad161, e161, hx161_0⟩ := Kd.at_int (Kd.R_reads' HO_12.out).2.2 x14_4 p161 q161
                                        cases e161
                                        replace p161 := eq_true p161
                                        replace q161 := eq_true q161
                                        refine start_ (n := 21) (S := fun w' => w'.cell? (ad160.add (x14_4).toNat) = some (.int .u8 (rd x7_2 x14_4)) ∧ w'.cell? (ad161.add (x14_4).toNat) = some (.int .u8 (rd t148 x14_4))) (ds := []) #[false, false, false, false, false, false, false, false, false, false, false, false, false, false, false, false, false, false, false, false, false] (by kernel_rfl) rfl rfl ⟨hx160_0, hx161_0⟩ (fun hHeld => ?_); refine with_tabW block_Build.tab19 block_Build.bits19 (fun HT_ HW_ => ?_)
                                        generalize wr.drew = w47 at HO_6 HO_7 HO_8 HO_12 BK147 HB hx160_0 hx161_0 hHeld ⊢
                                        refine pure_ (i := 0) (N := some 72) (v := ?_) (a' := ?_) #[true, false, false, false, false, false, false, false, false, false, false, false, false, false, false, false, false, false, false, false, false] rfl rfl (any_of HT_.out (by kernel_rfl)) (fun _ _ _ h => h) (Or.inl ⟨by rfl, ?_⟩) ?_ ?_
                                        rotate_left
                                        · intro w'
                                          go_simp
                                          with_reducible rfl
                                        rotate_left
                                        · simp only [Act.put, List.setIfInBounds_toArray, List.set_cons_zero, List.set_cons_succ, i64_w, i32_w]
                                          rfl
                                        refine pure_ (i := 1) (N := some 73) (v := ?_) (a' := ?_) #[true, true, false, false, false, false, false, false, false, false, false, false, false, false, false, false, false, false, false, false, false] rfl rfl (any_of HT_.out (by kernel_rfl)) (fun _ _ _ h => h) (Or.inl ⟨by rfl, ?_⟩) ?_ ?_
                                        rotate_left
                                        · intro w'
                                          go_simp
                                          with_reducible rfl
                                        rotate_left
                                        · simp only [Act.put, List.setIfInBounds_toArray, List.set_cons_zero, List.set_cons_succ, i64_w, i32_w]
                                          rfl
                                        refine pure_ (i := 2) (N := some 74) (v := ?_) (a' := ?_) #[true, true, true, false, false, false, false, false, false, false, false, false, false, false, false, false, false, false, false, false, false] rfl rfl (any_of HT_.out (by kernel_rfl)) (fun _ _ _ h => h) (Or.inl ⟨by rfl, ?_⟩) ?_ ?_
                                        rotate_left
                                        · intro w'
                                          go_simp
                                          with_reducible rfl
                                        rotate_left
                                        · simp only [Act.put, List.setIfInBounds_toArray, List.set_cons_zero, List.set_cons_succ, i64_w, i32_w]
                                          rfl
                                        refine pure_ (i := 3) (N := some 75) (v := ?_) (a' := ?_) #[true, true, true, true, false, false, false, false, false, false, false, false, false, false, false, false, false, false, false, false, false] rfl rfl (any_of HT_.out (by kernel_rfl)) (fun _ _ _ h => h) (Or.inl ⟨by rfl, ?_⟩) ?_ ?_
                                        rotate_left
                                        · intro w'
                                          go_simp
                                          with_reducible rfl
                                        rotate_left
                                        · simp only [Act.put, List.setIfInBounds_toArray, List.set_cons_zero, List.set_cons_succ, i64_w, i32_w]
                                          rfl
                                        refine pure_ (i := 4) (N := some 76) (v := ?_) (a' := ?_) #[true, true, true, true, true, false, false, false, false, false, false, false, false, false, false, false, false, false, false, false, false] rfl rfl (any_of HT_.out (by kernel_rfl)) (fun _ _ _ h => h) (Or.inl ⟨by rfl, ?_⟩) ?_ ?_
                                        rotate_left
                                        · intro w'
                                          go_simp
                                          with_reducible rfl
                                        rotate_left
                                        · simp only [Act.put, List.setIfInBounds_toArray, List.set_cons_zero, List.set_cons_succ, i64_w, i32_w]
                                          rfl
                                        refine pure_ (i := 5) (N := some 77) (v := ?_) (a' := ?_) #[true, true, true, true, true, true, false, false, false, false, false, false, false, false, false, false, false, false, false, false, false] rfl rfl (any_of HT_.out (by kernel_rfl)) (fun _ _ _ h => h) (Or.inl ⟨by rfl, ?_⟩) ?_ ?_
                                        rotate_left
                                        · intro w'
                                          go_simp
                                          with_reducible rfl
                                        rotate_left
                                        · simp only [Act.put, List.setIfInBounds_toArray, List.set_cons_zero, List.set_cons_succ, i64_w, i32_w]
                                          rfl
                                        refine pure_ (i := 6) (N := some 78) (v := ?_) (a' := ?_) #[true, true, true, true, true, true, true, false, false, false, false, false, false, false, false, false, false, false, false, false, false] rfl rfl (any_of HT_.out (by kernel_rfl)) (fun _ _ _ h => h) (Or.inl ⟨by rfl, ?_⟩) ?_ ?_
                                        rotate_left
                                        · intro w'
                                          go_simp
                                          with_reducible rfl
                                        rotate_left
                                        · simp only [Act.put, List.setIfInBounds_toArray, List.set_cons_zero, List.set_cons_succ, i64_w, i32_w]
                                          rfl
                                        refine pure_ (i := 7) (N := some 79) (v := ?_) (a' := ?_) #[true, true, true, true, true, true, true, true, false, false, false, false, false, false, false, false, false, false, false, false, false] rfl rfl (any_of HT_.out (by kernel_rfl)) (fun _ _ _ h => h) (Or.inl ⟨by rfl, ?_⟩) ?_ ?_
                                        rotate_left
                                        · intro w'
                                          go_simp
                                          with_reducible rfl
                                        rotate_left
                                        · simp only [Act.put, List.setIfInBounds_toArray, List.set_cons_zero, List.set_cons_succ, i64_w, i32_w]
                                          rfl
                                        refine pure_ (i := 8) (N := some 80) (v := ?_) (a' := ?_) #[true, true, true, true, true, true, true, true, true, false, false, false, false, false, false, false, false, false, false, false, false] rfl rfl (any_of HT_.out (by kernel_rfl)) (fun _ _ _ h => h) (Or.inl ⟨by rfl, ?_⟩) ?_ ?_
                                        rotate_left
                                        · intro w'
                                          go_simp
                                          with_reducible rfl
                                        rotate_left
                                        · simp only [Act.put, List.setIfInBounds_toArray, List.set_cons_zero, List.set_cons_succ, i64_w, i32_w]
                                          rfl
                                        refine pure_ (i := 9) (N := some 81) (v := ?_) (a' := ?_) #[true, true, true, true, true, true, true, true, true, true, false, false, false, false, false, false, false, false, false, false, false] rfl rfl (any_of HT_.out (by kernel_rfl)) (fun _ _ _ h => h) (Or.inl ⟨by rfl, ?_⟩) ?_ ?_
                                        rotate_left
                                        · intro w'
                                          go_simp
                                          with_reducible rfl
                                        rotate_left
                                        · simp only [Act.put, List.setIfInBounds_toArray, List.set_cons_zero, List.set_cons_succ, i64_w, i32_w]
                                          rfl
                                        refine pure_ (i := 10) (N := some 82) (v := ?_) (a' := ?_) #[true, true, true, true, true, true, true, true, true, true, true, false, false, false, false, false, false, false, false, false, false] rfl rfl (any_of HT_.out (by kernel_rfl)) (fun _ _ _ h => h) (Or.inl ⟨by rfl, ?_⟩) ?_ ?_
                                        rotate_left
                                        · intro w'
                                          go_simp
                                          with_reducible rfl
                                        rotate_left
                                        · simp only [Act.put, List.setIfInBounds_toArray, List.set_cons_zero, List.set_cons_succ, i64_w, i32_w]
                                          rfl
                                        refine pure_ (i := 11) (N := some 83) (v := ?_) (a' := ?_) #[true, true, true, true, true, true, true, true, true, true, true, true, false, false, false, false, false, false, false, false, false] rfl rfl (any_of HT_.out (by kernel_rfl)) (fun _ _ _ h => h) (Or.inl ⟨by rfl, ?_⟩) ?_ ?_
                                        rotate_left
                                        · intro w'
                                          go_simp
                                          with_reducible rfl
                                        rotate_left
                                        · simp only [Act.put, List.setIfInBounds_toArray, List.set_cons_zero, List.set_cons_succ, i64_w, i32_w]
                                          rfl
                                        refine pure_ (i := 12) (N := some 84) (v := ?_) (a' := ?_) #[true, true, true, true, true, true, true, true, true, true, true, true, true, false, false, false, false, false, false, false, false] rfl rfl (any_of HT_.out (by kernel_rfl)) (fun _ _ _ h => h) (Or.inl ⟨by rfl, ?_⟩) ?_ ?_
                                        rotate_left
                                        · intro w'
                                          go_simp
                                          with_reducible rfl
                                        rotate_left
                                        · simp only [Act.put, List.setIfInBounds_toArray, List.set_cons_zero, List.set_cons_succ, i64_w, i32_w]
                                          rfl
                                        refine pure_ (i := 13) (N := some 85) (v := ?_) (a' := ?_) #[true, true, true, true, true, true, true, true, true, true, true, true, true, true, false, false, false, false, false, false, false] rfl rfl (any_of HT_.out (by kernel_rfl)) (fun _ _ _ h => h) (Or.inl ⟨by rfl, ?_⟩) ?_ ?_
                                        rotate_left
                                        · intro w'
                                          go_simp
                                          with_reducible rfl
                                        rotate_left
                                        · simp only [Act.put, List.setIfInBounds_toArray, List.set_cons_zero, List.set_cons_succ, i64_w, i32_w]
                                          rfl
                                        refine pure_ (i := 15) (N := some 87) (v := ?_) (a' := ?_) #[true, true, true, true, true, true, true, true, true, true, true, true, true, true, false, true, false, false, false, false, false] rfl rfl (any_of HT_.out (by kernel_rfl)) (fun _ _ _ h => h) (Or.inl ⟨by rfl, ?_⟩) ?_ ?_
                                        rotate_left
                                        · intro w'
                                          go_simp
                                          with_reducible rfl
                                        rotate_left
                                        · simp only [Act.put, List.setIfInBounds_toArray, List.set_cons_zero, List.set_cons_succ, i64_w, i32_w]
                                          rfl
                                        refine pure_ (i := 16) (N := some 88) (v := ?_) (a' := ?_) #[true, true, true, true, true, true, true, true, true, true, true, true, true, true, false, true, true, false, false, false, false] rfl rfl (any_of HT_.out (by kernel_rfl)) (fun _ _ _ h => h) (Or.inl ⟨by rfl, ?_⟩) ?_ ?_
                                        rotate_left
                                        · intro w'
                                          go_simp
                                          with_reducible rfl
                                        rotate_left
                                        · simp only [Act.put, List.setIfInBounds_toArray, List.set_cons_zero, List.set_cons_succ, i64_w, i32_w]
                                          rfl
                                        refine pure_ (i := 17) (N := some 89) (v := ?_) (a' := ?_) #[true, true, true, true, true, true, true, true, true, true, true, true, true, true, false, true, true, true, false, false, false] rfl rfl (any_of HT_.out (by kernel_rfl)) (fun _ _ _ h => h) (Or.inl ⟨by rfl, ?_⟩) ?_ ?_
                                        rotate_left
                                        · intro w'
                                          go_simp
                                          with_reducible rfl
                                        rotate_left
                                        · simp only [Act.put, List.setIfInBounds_toArray, List.set_cons_zero, List.set_cons_succ, i64_w, i32_w]
                                          rfl
                                        refine take_ (i := 14) (N := some 86) (v := ?_) (a' := ?_) #[true, true, true, true, true, true, true, true, true, true, true, true, true, true, true, true, true, true, false, false, false] rfl rfl (take_ofW HT_.out HW_.out (by kernel_rfl)) (fun _ _ _ h => h) (Or.inl ⟨by rfl, ?_⟩) hHeld ?_ ?_
                                        rotate_left
                                        · rintro w' ⟨s0, s1⟩
                                          go_simp
                                          with_reducible rfl
                                        rotate_left
                                        · simp only [Act.put, List.setIfInBounds_toArray, List.set_cons_zero, List.set_cons_succ, i64_w, i32_w]
                                          rfl
                                        refine take_ (i := 18) (N := some 90) (v := ?_) (a' := ?_) #[true, true, true, true, true, true, true, true, true, true, true, true, true, true, true, true, true, true, true, false, false] rfl rfl (take_ofW HT_.out HW_.out (by kernel_rfl)) (fun _ _ _ h => h) (Or.inl ⟨by rfl, ?_⟩) hHeld ?_ ?_
                                        rotate_left
                                        · rintro w' ⟨s0, s1⟩
                                          go_simp
                                          with_reducible rfl
                                        rotate_left
                                        · simp only [Act.put, List.setIfInBounds_toArray, List.set_cons_zero, List.set_cons_succ, i64_w, i32_w]
                                          rfl
                                        refine pure_ (i := 19) (N := some 91) (v := ?_) (a' := ?_) #[true, true, true, true, true, true, true, true, true, true, true, true, true, true, true, true, true, true, true, true, false] rfl rfl (any_of HT_.out (by kernel_rfl)) (fun _ _ _ h => h) (Or.inl ⟨by rfl, ?_⟩) ?_ ?_
                                        rotate_left
                                        · intro w'
                                          go_simp
                                          with_reducible rfl
                                        rotate_left
                                        · simp only [Act.put, List.setIfInBounds_toArray, List.set_cons_zero, List.set_cons_succ, i64_w, i32_w]
                                          rfl
                                        refine pure_ (i := 20) (N := some 92) (v := ?_) (a' := ?_) #[true, true, true, true, true, true, true, true, true, true, true, true, true, true, true, true, true, true, true, true, true] rfl rfl (any_of HT_.out (by kernel_rfl)) (fun _ _ _ h => h) (Or.inl ⟨by rfl, ?_⟩) ?_ ?_
                                        rotate_left
                                        · intro w'
                                          go_simp
                                          with_reducible rfl
                                        rotate_left
                                        · simp only [Act.put, List.setIfInBounds_toArray, List.set_cons_zero, List.set_cons_succ, i64_w, i32_w]
                                          rfl
                                        refine done_ (done_of HT_.out (by kernel_rfl)) ?_
                                        try go_wp2
                                        go_meet
                                        case rel => exact ⟨_, (x8_2), (x9_2), (x14_4), (by first | rfl | (simp; done) | (simp [*]; done) | (simp; omega)), (by first | rfl | (simp; done) | (simp [*]; done) | (simp; omega)), H', ⟨by have := HJ2.out; have := HK2.out; have := HJ9.out; have := HK4.out; first | omega | exact Nat.le_refl _⟩, ⟨by (with_reducible repeat (first | apply Kd.R_alloc | apply Kd.R_drewN | apply Kd.R_drew)); exact Kd.R_mono HO_6.out (fun _ hk => ⟨hk.2.1, hk.2.2⟩)⟩, ⟨by (with_reducible repeat (first | apply Kd.R_alloc | apply Kd.R_drewN | apply Kd.R_drew)); exact Kd.R_mono HO_8.out (fun _ hk => ⟨hk.1, hk.2.2⟩)⟩, ⟨by (with_reducible repeat (first | apply Kd.R_alloc | apply Kd.R_drewN | apply Kd.R_drew)); exact Kd.R_mono HO_12.out (fun _ hk => ⟨hk.1, hk.2.2⟩)⟩, ⟨by (with_reducible repeat (first | refine blk_drewN ?_ _ | refine blk_drew ?_ | refine blk_alloc ?_ _)); exact BK147.out⟩, ⟨by repeat (first | (with_reducible first | exact HB.out | apply below_alloc | apply pw_below_drewN | apply below_drew1 | refine below_set ?_ GE147.out) | exact HB.out)⟩⟩
                                    · rw [if_neg c42] at H
                                      exact absurd H (by simp)
                                  · rw [if_neg c41] at H
                                    have c41b0 : decide (x14_4 < (t148.length : Int)) = false := decide_eq_false c41
                                    clear c41
                                    have H' := Aside0.mk H
                                    clear H
                                    try go_wp2
                                    have n0_ := Aside0.mk (Kd.R_drew HO_6.out)
                                    have n1_ := Aside0.mk (Kd.R_drew HO_7.out)
                                    have n2_ := Aside0.mk (Kd.R_drew HO_8.out)
                                    have n3_ := Aside0.mk (Kd.R_drew HO_12.out)
                                    have n4_ := Aside0.mk (blk_drew BK147.out)
                                    have n5_ := Aside0.mk (below_drew1 HB.out)
                                    clear HO_6
                                    clear HO_7
                                    clear HO_8
                                    clear HO_12
                                    clear BK147
                                    clear HB
                                    have HO_6 := n0_
                                    have HO_7 := n1_
                                    have HO_8 := n2_
                                    have HO_12 := n3_
                                    have BK147 := n4_
                                    have HB := n5_
                                    clear n0_ n1_ n2_ n3_ n4_ n5_
                                    obtain ⟨Ao51, co51, eo51⟩ := Kd.R_slice HO_7.out
                                    (first | subst eo51 | (injection eo51 with f1_ f2_ f3_; have f4_ := f1_.symm; have f5_ := f3_.symm; clear f1_ f2_ f3_; subst f4_; subst f5_))
                                    obtain ⟨Ao52, co52, eo52⟩ := Kd.R_slice HO_12.out
                                    (first | subst eo52 | (injection eo52 with f1_ f2_ f3_; have f4_ := f1_.symm; have f5_ := f3_.symm; clear f1_ f2_ f3_; subst f4_; subst f5_))
                                    refine start_ (n := 21) (S := fun w' => True) (ds := []) #[false, false, false, false, false, false, false, false, false, false, false, false, false, false, false, false, false, false, false, false, false] (by kernel_rfl) rfl rfl trivial (fun hHeld => ?_); refine with_tabW block_Build.tab19 block_Build.bits19 (fun HT_ HW_ => ?_)
                                    generalize wr.drew = w50 at HO_6 HO_7 HO_8 HO_12 BK147 HB hHeld ⊢
                                    refine pure_ (i := 0) (N := some 72) (v := ?_) (a' := ?_) #[true, false, false, false, false, false, false, false, false, false, false, false, false, false, false, false, false, false, false, false, false] rfl rfl (any_of HT_.out (by kernel_rfl)) (fun _ _ _ h => h) (Or.inl ⟨by rfl, ?_⟩) ?_ ?_
                                    rotate_left
                                    · intro w'
                                      go_simp
                                      with_reducible rfl
                                    rotate_left
                                    · simp only [Act.put, List.setIfInBounds_toArray, List.set_cons_zero, List.set_cons_succ, i64_w, i32_w]
                                      rfl
                                    refine pure_ (i := 1) (N := some 73) (v := ?_) (a' := ?_) #[true, true, false, false, false, false, false, false, false, false, false, false, false, false, false, false, false, false, false, false, false] rfl rfl (any_of HT_.out (by kernel_rfl)) (fun _ _ _ h => h) (Or.inl ⟨by rfl, ?_⟩) ?_ ?_
                                    rotate_left
                                    · intro w'
                                      go_simp
                                      with_reducible rfl
                                    rotate_left
                                    · simp only [Act.put, List.setIfInBounds_toArray, List.set_cons_zero, List.set_cons_succ, i64_w, i32_w]
                                      rfl
                                    refine pure_ (i := 2) (N := some 74) (v := ?_) (a' := ?_) #[true, true, true, false, false, false, false, false, false, false, false, false, false, false, false, false, false, false, false, false, false] rfl rfl (any_of HT_.out (by kernel_rfl)) (fun _ _ _ h => h) (Or.inl ⟨by rfl, ?_⟩) ?_ ?_
                                    rotate_left
                                    · intro w'
                                      go_simp
                                      with_reducible rfl
                                    rotate_left
                                    · simp only [Act.put, List.setIfInBounds_toArray, List.set_cons_zero, List.set_cons_succ, i64_w, i32_w]
                                      rfl
                                    refine pure_ (i := 3) (N := some 75) (v := ?_) (a' := ?_) #[true, true, true, true, false, false, false, false, false, false, false, false, false, false, false, false, false, false, false, false, false] rfl rfl (any_of HT_.out (by kernel_rfl)) (fun _ _ _ h => h) (Or.inl ⟨by rfl, ?_⟩) ?_ ?_
                                    rotate_left
                                    · intro w'
                                      go_simp
                                      with_reducible rfl
                                    rotate_left
                                    · simp only [Act.put, List.setIfInBounds_toArray, List.set_cons_zero, List.set_cons_succ, i64_w, i32_w]
                                      rfl
                                    refine pure_ (i := 4) (N := some 76) (v := ?_) (a' := ?_) #[true, true, true, true, true, false, false, false, false, false, false, false, false, false, false, false, false, false, false, false, false] rfl rfl (any_of HT_.out (by kernel_rfl)) (fun _ _ _ h => h) (Or.inl ⟨by rfl, ?_⟩) ?_ ?_
                                    rotate_left
                                    · intro w'
                                      go_simp
                                      with_reducible rfl
                                    rotate_left
                                    · simp only [Act.put, List.setIfInBounds_toArray, List.set_cons_zero, List.set_cons_succ, i64_w, i32_w]
                                      rfl
                                    refine pure_ (i := 5) (N := some 77) (v := ?_) (a' := ?_) #[true, true, true, true, true, true, false, false, false, false, false, false, false, false, false, false, false, false, false, false, false] rfl rfl (any_of HT_.out (by kernel_rfl)) (fun _ _ _ h => h) (Or.inl ⟨by rfl, ?_⟩) ?_ ?_
                                    rotate_left
                                    · intro w'
                                      go_simp
                                      with_reducible rfl
                                    rotate_left
                                    · simp only [Act.put, List.setIfInBounds_toArray, List.set_cons_zero, List.set_cons_succ, i64_w, i32_w]
                                      rfl
                                    refine pure_ (i := 6) (N := some 78) (v := ?_) (a' := ?_) #[true, true, true, true, true, true, true, false, false, false, false, false, false, false, false, false, false, false, false, false, false] rfl rfl (any_of HT_.out (by kernel_rfl)) (fun _ _ _ h => h) (Or.inl ⟨by rfl, ?_⟩) ?_ ?_
                                    rotate_left
                                    · intro w'
                                      go_simp
                                      with_reducible rfl
                                    rotate_left
                                    · simp only [Act.put, List.setIfInBounds_toArray, List.set_cons_zero, List.set_cons_succ, i64_w, i32_w]
                                      rfl
                                    refine pure_ (i := 7) (N := some 79) (v := ?_) (a' := ?_) #[true, true, true, true, true, true, true, true, false, false, false, false, false, false, false, false, false, false, false, false, false] rfl rfl (any_of HT_.out (by kernel_rfl)) (fun _ _ _ h => h) (Or.inl ⟨by rfl, ?_⟩) ?_ ?_
                                    rotate_left
                                    · intro w'
                                      go_simp
                                      with_reducible rfl
                                    rotate_left
                                    · simp only [Act.put, List.setIfInBounds_toArray, List.set_cons_zero, List.set_cons_succ, i64_w, i32_w]
                                      rfl
                                    refine pure_ (i := 8) (N := some 80) (v := ?_) (a' := ?_) #[true, true, true, true, true, true, true, true, true, false, false, false, false, false, false, false, false, false, false, false, false] rfl rfl (any_of HT_.out (by kernel_rfl)) (fun _ _ _ h => h) (Or.inl ⟨by rfl, ?_⟩) ?_ ?_
                                    rotate_left
                                    · intro w'
                                      go_simp
                                      with_reducible rfl
                                    rotate_left
                                    · simp only [Act.put, List.setIfInBounds_toArray, List.set_cons_zero, List.set_cons_succ, i64_w, i32_w]
                                      rfl
                                    refine pure_ (i := 9) (N := some 81) (v := ?_) (a' := ?_) #[true, true, true, true, true, true, true, true, true, true, false, false, false, false, false, false, false, false, false, false, false] rfl rfl (any_of HT_.out (by kernel_rfl)) (fun _ _ _ h => h) (Or.inl ⟨by rfl, ?_⟩) ?_ ?_
                                    rotate_left
                                    · intro w'
                                      go_simp
                                      with_reducible rfl
                                    rotate_left
                                    · simp only [Act.put, List.setIfInBounds_toArray, List.set_cons_zero, List.set_cons_succ, i64_w, i32_w]
                                      rfl
                                    refine pure_ (i := 10) (N := some 82) (v := ?_) (a' := ?_) #[true, true, true, true, true, true, true, true, true, true, true, false, false, false, false, false, false, false, false, false, false] rfl rfl (any_of HT_.out (by kernel_rfl)) (fun _ _ _ h => h) (Or.inl ⟨by rfl, ?_⟩) ?_ ?_
                                    rotate_left
                                    · intro w'
                                      go_simp
                                      with_reducible rfl
                                    rotate_left
                                    · simp only [Act.put, List.setIfInBounds_toArray, List.set_cons_zero, List.set_cons_succ, i64_w, i32_w]
                                      rfl
                                    refine pure_ (i := 11) (N := some 83) (v := undef) (a' := ?_) #[true, true, true, true, true, true, true, true, true, true, true, true, false, false, false, false, false, false, false, false, false] rfl rfl (any_of HT_.out (by kernel_rfl)) (fun _ _ _ h => h) (Or.inr ⟨by rfl, rfl⟩) ?_ ?_
                                    rotate_left
                                    · simp only [Act.put, List.setIfInBounds_toArray, List.set_cons_zero, List.set_cons_succ, i64_w, i32_w]
                                      rfl
                                    refine pure_ (i := 12) (N := some 84) (v := undef) (a' := ?_) #[true, true, true, true, true, true, true, true, true, true, true, true, true, false, false, false, false, false, false, false, false] rfl rfl (any_of HT_.out (by kernel_rfl)) (fun _ _ _ h => h) (Or.inr ⟨by rfl, rfl⟩) ?_ ?_
                                    rotate_left
                                    · simp only [Act.put, List.setIfInBounds_toArray, List.set_cons_zero, List.set_cons_succ, i64_w, i32_w]
                                      rfl
                                    refine pure_ (i := 13) (N := some 85) (v := undef) (a' := ?_) #[true, true, true, true, true, true, true, true, true, true, true, true, true, true, false, false, false, false, false, false, false] rfl rfl (any_of HT_.out (by kernel_rfl)) (fun _ _ _ h => h) (Or.inr ⟨by rfl, rfl⟩) ?_ ?_
                                    rotate_left
                                    · simp only [Act.put, List.setIfInBounds_toArray, List.set_cons_zero, List.set_cons_succ, i64_w, i32_w]
                                      rfl
                                    refine pure_ (i := 14) (N := some 86) (v := undef) (a' := ?_) #[true, true, true, true, true, true, true, true, true, true, true, true, true, true, true, false, false, false, false, false, false] rfl rfl (any_of HT_.out (by kernel_rfl)) (fun _ _ _ h => h) (Or.inr ⟨by rfl, rfl⟩) ?_ ?_
                                    rotate_left
                                    · simp only [Act.put, List.setIfInBounds_toArray, List.set_cons_zero, List.set_cons_succ, i64_w, i32_w]
                                      rfl
                                    refine pure_ (i := 15) (N := some 87) (v := undef) (a' := ?_) #[true, true, true, true, true, true, true, true, true, true, true, true, true, true, true, true, false, false, false, false, false] rfl rfl (any_of HT_.out (by kernel_rfl)) (fun _ _ _ h => h) (Or.inr ⟨by rfl, rfl⟩) ?_ ?_
                                    rotate_left
                                    · simp only [Act.put, List.setIfInBounds_toArray, List.set_cons_zero, List.set_cons_succ, i64_w, i32_w]
                                      rfl
                                    refine pure_ (i := 16) (N := some 88) (v := undef) (a' := ?_) #[true, true, true, true, true, true, true, true, true, true, true, true, true, true, true, true, true, false, false, false, false] rfl rfl (any_of HT_.out (by kernel_rfl)) (fun _ _ _ h => h) (Or.inr ⟨by rfl, rfl⟩) ?_ ?_
                                    rotate_left
                                    · simp only [Act.put, List.setIfInBounds_toArray, List.set_cons_zero, List.set_cons_succ, i64_w, i32_w]
                                      rfl
                                    refine pure_ (i := 17) (N := some 89) (v := undef) (a' := ?_) #[true, true, true, true, true, true, true, true, true, true, true, true, true, true, true, true, true, true, false, false, false] rfl rfl (any_of HT_.out (by kernel_rfl)) (fun _ _ _ h => h) (Or.inr ⟨by rfl, rfl⟩) ?_ ?_
                                    rotate_left
                                    · simp only [Act.put, List.setIfInBounds_toArray, List.set_cons_zero, List.set_cons_succ, i64_w, i32_w]
                                      rfl
                                    refine pure_ (i := 18) (N := some 90) (v := undef) (a' := ?_) #[true, true, true, true, true, true, true, true, true, true, true, true, true, true, true, true, true, true, true, false, false] rfl rfl (any_of HT_.out (by kernel_rfl)) (fun _ _ _ h => h) (Or.inr ⟨by rfl, rfl⟩) ?_ ?_
                                    rotate_left
                                    · simp only [Act.put, List.setIfInBounds_toArray, List.set_cons_zero, List.set_cons_succ, i64_w, i32_w]
                                      rfl
                                    refine pure_ (i := 19) (N := some 91) (v := undef) (a' := ?_) #[true, true, true, true, true, true, true, true, true, true, true, true, true, true, true, true, true, true, true, true, false] rfl rfl (any_of HT_.out (by kernel_rfl)) (fun _ _ _ h => h) (Or.inr ⟨by rfl, rfl⟩) ?_ ?_
                                    rotate_left
                                    · simp only [Act.put, List.setIfInBounds_toArray, List.set_cons_zero, List.set_cons_succ, i64_w, i32_w]
                                      rfl
                                    refine pure_ (i := 20) (N := some 92) (v := ?_) (a' := ?_) #[true, true, true, true, true, true, true, true, true, true, true, true, true, true, true, true, true, true, true, true, true] rfl rfl (any_of HT_.out (by kernel_rfl)) (fun _ _ _ h => h) (Or.inl ⟨by rfl, ?_⟩) ?_ ?_
                                    rotate_left
                                    · intro w'
                                      go_simp
                                      with_reducible rfl
                                    rotate_left
                                    · simp only [Act.put, List.setIfInBounds_toArray, List.set_cons_zero, List.set_cons_succ, i64_w, i32_w]
                                      rfl
                                    refine done_ (done_of HT_.out (by kernel_rfl)) ?_
                                    try go_wp2
                                    go_meet
                                    case rel => exact ⟨_, (x8_2), (x9_2), (x14_4), (by first | rfl | (simp; done) | (simp [*]; done) | (simp; omega)), (by first | rfl | (simp; done) | (simp [*]; done) | (simp; omega)), H', ⟨by have := HJ2.out; have := HK2.out; have := HJ9.out; have := HK4.out; first | omega | exact Nat.le_refl _⟩, ⟨by (with_reducible repeat (first | apply Kd.R_alloc | apply Kd.R_drewN | apply Kd.R_drew)); exact Kd.R_mono HO_6.out (fun _ hk => ⟨hk.2.1, hk.2.2⟩)⟩, ⟨by (with_reducible repeat (first | apply Kd.R_alloc | apply Kd.R_drewN | apply Kd.R_drew)); exact Kd.R_mono HO_8.out (fun _ hk => ⟨hk.1, hk.2.2⟩)⟩, ⟨by (with_reducible repeat (first | apply Kd.R_alloc | apply Kd.R_drewN | apply Kd.R_drew)); exact Kd.R_mono HO_12.out (fun _ hk => ⟨hk.1, hk.2.2⟩)⟩, ⟨by (with_reducible repeat (first | refine blk_drewN ?_ _ | refine blk_drew ?_ | refine blk_alloc ?_ _)); exact BK147.out⟩, ⟨by repeat (first | (with_reducible first | exact HB.out | apply below_alloc | apply pw_below_drewN | apply below_drew1 | refine below_set ?_ GE147.out) | exact HB.out)⟩⟩
                                · rw [if_neg c40] at H
                                  have c40b0 : decide (x14_4 < (x7_2.length : Int)) = false := decide_eq_false c40
                                  clear c40
                                  have H' := Aside0.mk H
                                  clear H
                                  try go_wp2
                                  have n0_ := Aside0.mk (Kd.R_drew HO_6.out)
                                  have n1_ := Aside0.mk (Kd.R_drew HO_7.out)
                                  have n2_ := Aside0.mk (Kd.R_drew HO_8.out)
                                  have n3_ := Aside0.mk (Kd.R_drew HO_12.out)
                                  have n4_ := Aside0.mk (blk_drew BK147.out)
                                  have n5_ := Aside0.mk (below_drew1 HB.out)
                                  clear HO_6
                                  clear HO_7
                                  clear HO_8
                                  clear HO_12
                                  clear BK147
                                  clear HB
                                  have HO_6 := n0_
                                  have HO_7 := n1_
                                  have HO_8 := n2_
                                  have HO_12 := n3_
                                  have BK147 := n4_
                                  have HB := n5_
                                  clear n0_ n1_ n2_ n3_ n4_ n5_
                                  obtain ⟨Ao54, co54, eo54⟩ := Kd.R_slice HO_7.out
                                  (first | subst eo54 | (injection eo54 with f1_ f2_ f3_; have f4_ := f1_.symm; have f5_ := f3_.symm; clear f1_ f2_ f3_; subst f4_; subst f5_))
                                  refine start_ (n := 21) (S := fun w' => True) (ds := []) #[false, false, false, false, false, false, false, false, false, false, false, false, false, false, false, false, false, false, false, false, false] (by kernel_rfl) rfl rfl trivial (fun hHeld => ?_); refine with_tabW block_Build.tab19 block_Build.bits19 (fun HT_ HW_ => ?_)
                                  generalize wr.drew = w53 at HO_6 HO_7 HO_8 HO_12 BK147 HB hHeld ⊢
                                  refine pure_ (i := 0) (N := some 72) (v := ?_) (a' := ?_) #[true, false, false, false, false, false, false, false, false, false, false, false, false, false, false, false, false, false, false, false, false] rfl rfl (any_of HT_.out (by kernel_rfl)) (fun _ _ _ h => h) (Or.inl ⟨by rfl, ?_⟩) ?_ ?_
                                  rotate_left
                                  · intro w'
                                    go_simp
                                    with_reducible rfl
                                  rotate_left
                                  · simp only [Act.put, List.setIfInBounds_toArray, List.set_cons_zero, List.set_cons_succ, i64_w, i32_w]
                                    rfl
                                  refine pure_ (i := 1) (N := some 73) (v := ?_) (a' := ?_) #[true, true, false, false, false, false, false, false, false, false, false, false, false, false, false, false, false, false, false, false, false] rfl rfl (any_of HT_.out (by kernel_rfl)) (fun _ _ _ h => h) (Or.inl ⟨by rfl, ?_⟩) ?_ ?_
                                  rotate_left
                                  · intro w'
                                    go_simp
                                    with_reducible rfl
                                  rotate_left
                                  · simp only [Act.put, List.setIfInBounds_toArray, List.set_cons_zero, List.set_cons_succ, i64_w, i32_w]
                                    rfl
                                  refine pure_ (i := 2) (N := some 74) (v := ?_) (a' := ?_) #[true, true, true, false, false, false, false, false, false, false, false, false, false, false, false, false, false, false, false, false, false] rfl rfl (any_of HT_.out (by kernel_rfl)) (fun _ _ _ h => h) (Or.inl ⟨by rfl, ?_⟩) ?_ ?_
                                  rotate_left
                                  · intro w'
                                    go_simp
                                    with_reducible rfl
                                  rotate_left
                                  · simp only [Act.put, List.setIfInBounds_toArray, List.set_cons_zero, List.set_cons_succ, i64_w, i32_w]
                                    rfl
                                  refine pure_ (i := 3) (N := some 75) (v := ?_) (a' := ?_) #[true, true, true, true, false, false, false, false, false, false, false, false, false, false, false, false, false, false, false, false, false] rfl rfl (any_of HT_.out (by kernel_rfl)) (fun _ _ _ h => h) (Or.inl ⟨by rfl, ?_⟩) ?_ ?_
                                  rotate_left
                                  · intro w'
                                    go_simp
                                    with_reducible rfl
                                  rotate_left
                                  · simp only [Act.put, List.setIfInBounds_toArray, List.set_cons_zero, List.set_cons_succ, i64_w, i32_w]
                                    rfl
                                  refine pure_ (i := 4) (N := some 76) (v := ?_) (a' := ?_) #[true, true, true, true, true, false, false, false, false, false, false, false, false, false, false, false, false, false, false, false, false] rfl rfl (any_of HT_.out (by kernel_rfl)) (fun _ _ _ h => h) (Or.inl ⟨by rfl, ?_⟩) ?_ ?_
                                  rotate_left
                                  · intro w'
                                    go_simp
                                    with_reducible rfl
                                  rotate_left
                                  · simp only [Act.put, List.setIfInBounds_toArray, List.set_cons_zero, List.set_cons_succ, i64_w, i32_w]
                                    rfl
                                  refine pure_ (i := 5) (N := some 77) (v := undef) (a' := ?_) #[true, true, true, true, true, true, false, false, false, false, false, false, false, false, false, false, false, false, false, false, false] rfl rfl (any_of HT_.out (by kernel_rfl)) (fun _ _ _ h => h) (Or.inr ⟨by rfl, rfl⟩) ?_ ?_
                                  rotate_left
                                  · simp only [Act.put, List.setIfInBounds_toArray, List.set_cons_zero, List.set_cons_succ, i64_w, i32_w]
                                    rfl
                                  refine pure_ (i := 6) (N := some 78) (v := undef) (a' := ?_) #[true, true, true, true, true, true, true, false, false, false, false, false, false, false, false, false, false, false, false, false, false] rfl rfl (any_of HT_.out (by kernel_rfl)) (fun _ _ _ h => h) (Or.inr ⟨by rfl, rfl⟩) ?_ ?_
                                  rotate_left
                                  · simp only [Act.put, List.setIfInBounds_toArray, List.set_cons_zero, List.set_cons_succ, i64_w, i32_w]
                                    rfl
                                  refine pure_ (i := 7) (N := some 79) (v := undef) (a' := ?_) #[true, true, true, true, true, true, true, true, false, false, false, false, false, false, false, false, false, false, false, false, false] rfl rfl (any_of HT_.out (by kernel_rfl)) (fun _ _ _ h => h) (Or.inr ⟨by rfl, rfl⟩) ?_ ?_
                                  rotate_left
                                  · simp only [Act.put, List.setIfInBounds_toArray, List.set_cons_zero, List.set_cons_succ, i64_w, i32_w]
                                    rfl
                                  refine pure_ (i := 8) (N := some 80) (v := undef) (a' := ?_) #[true, true, true, true, true, true, true, true, true, false, false, false, false, false, false, false, false, false, false, false, false] rfl rfl (any_of HT_.out (by kernel_rfl)) (fun _ _ _ h => h) (Or.inr ⟨by rfl, rfl⟩) ?_ ?_
                                  rotate_left
                                  · simp only [Act.put, List.setIfInBounds_toArray, List.set_cons_zero, List.set_cons_succ, i64_w, i32_w]
                                    rfl
                                  refine pure_ (i := 9) (N := some 81) (v := ?_) (a' := ?_) #[true, true, true, true, true, true, true, true, true, true, false, false, false, false, false, false, false, false, false, false, false] rfl rfl (any_of HT_.out (by kernel_rfl)) (fun _ _ _ h => h) (Or.inl ⟨by rfl, ?_⟩) ?_ ?_
                                  rotate_left
                                  · intro w'
                                    go_simp
                                    with_reducible rfl
                                  rotate_left
                                  · simp only [Act.put, List.setIfInBounds_toArray, List.set_cons_zero, List.set_cons_succ, i64_w, i32_w]
                                    rfl
                                  refine pure_ (i := 10) (N := some 82) (v := ?_) (a' := ?_) #[true, true, true, true, true, true, true, true, true, true, true, false, false, false, false, false, false, false, false, false, false] rfl rfl (any_of HT_.out (by kernel_rfl)) (fun _ _ _ h => h) (Or.inl ⟨by rfl, ?_⟩) ?_ ?_
                                  rotate_left
                                  · intro w'
                                    go_simp
                                    with_reducible rfl
                                  rotate_left
                                  · simp only [Act.put, List.setIfInBounds_toArray, List.set_cons_zero, List.set_cons_succ, i64_w, i32_w]
                                    rfl
                                  refine pure_ (i := 11) (N := some 83) (v := undef) (a' := ?_) #[true, true, true, true, true, true, true, true, true, true, true, true, false, false, false, false, false, false, false, false, false] rfl rfl (any_of HT_.out (by kernel_rfl)) (fun _ _ _ h => h) (Or.inr ⟨by rfl, rfl⟩) ?_ ?_
                                  rotate_left
                                  · simp only [Act.put, List.setIfInBounds_toArray, List.set_cons_zero, List.set_cons_succ, i64_w, i32_w]
                                    rfl
                                  refine pure_ (i := 12) (N := some 84) (v := undef) (a' := ?_) #[true, true, true, true, true, true, true, true, true, true, true, true, true, false, false, false, false, false, false, false, false] rfl rfl (any_of HT_.out (by kernel_rfl)) (fun _ _ _ h => h) (Or.inr ⟨by rfl, rfl⟩) ?_ ?_
                                  rotate_left
                                  · simp only [Act.put, List.setIfInBounds_toArray, List.set_cons_zero, List.set_cons_succ, i64_w, i32_w]
                                    rfl
                                  refine pure_ (i := 13) (N := some 85) (v := undef) (a' := ?_) #[true, true, true, true, true, true, true, true, true, true, true, true, true, true, false, false, false, false, false, false, false] rfl rfl (any_of HT_.out (by kernel_rfl)) (fun _ _ _ h => h) (Or.inr ⟨by rfl, rfl⟩) ?_ ?_
                                  rotate_left
                                  · simp only [Act.put, List.setIfInBounds_toArray, List.set_cons_zero, List.set_cons_succ, i64_w, i32_w]
                                    rfl
                                  refine pure_ (i := 14) (N := some 86) (v := undef) (a' := ?_) #[true, true, true, true, true, true, true, true, true, true, true, true, true, true, true, false, false, false, false, false, false] rfl rfl (any_of HT_.out (by kernel_rfl)) (fun _ _ _ h => h) (Or.inr ⟨by rfl, rfl⟩) ?_ ?_
                                  rotate_left
                                  · simp only [Act.put, List.setIfInBounds_toArray, List.set_cons_zero, List.set_cons_succ, i64_w, i32_w]
                                    rfl
                                  refine pure_ (i := 15) (N := some 87) (v := undef) (a' := ?_) #[true, true, true, true, true, true, true, true, true, true, true, true, true, true, true, true, false, false, false, false, false] rfl rfl (any_of HT_.out (by kernel_rfl)) (fun _ _ _ h => h) (Or.inr ⟨by rfl, rfl⟩) ?_ ?_
                                  rotate_left
                                  · simp only [Act.put, List.setIfInBounds_toArray, List.set_cons_zero, List.set_cons_succ, i64_w, i32_w]
                                    rfl
                                  refine pure_ (i := 16) (N := some 88) (v := undef) (a' := ?_) #[true, true, true, true, true, true, true, true, true, true, true, true, true, true, true, true, true, false, false, false, false] rfl rfl (any_of HT_.out (by kernel_rfl)) (fun _ _ _ h => h) (Or.inr ⟨by rfl, rfl⟩) ?_ ?_
                                  rotate_left
                                  · simp only [Act.put, List.setIfInBounds_toArray, List.set_cons_zero, List.set_cons_succ, i64_w, i32_w]
                                    rfl
                                  refine pure_ (i := 17) (N := some 89) (v := undef) (a' := ?_) #[true, true, true, true, true, true, true, true, true, true, true, true, true, true, true, true, true, true, false, false, false] rfl rfl (any_of HT_.out (by kernel_rfl)) (fun _ _ _ h => h) (Or.inr ⟨by rfl, rfl⟩) ?_ ?_
                                  rotate_left
                                  · simp only [Act.put, List.setIfInBounds_toArray, List.set_cons_zero, List.set_cons_succ, i64_w, i32_w]
                                    rfl
                                  refine pure_ (i := 18) (N := some 90) (v := undef) (a' := ?_) #[true, true, true, true, true, true, true, true, true, true, true, true, true, true, true, true, true, true, true, false, false] rfl rfl (any_of HT_.out (by kernel_rfl)) (fun _ _ _ h => h) (Or.inr ⟨by rfl, rfl⟩) ?_ ?_
                                  rotate_left
                                  · simp only [Act.put, List.setIfInBounds_toArray, List.set_cons_zero, List.set_cons_succ, i64_w, i32_w]
                                    rfl
                                  refine pure_ (i := 19) (N := some 91) (v := undef) (a' := ?_) #[true, true, true, true, true, true, true, true, true, true, true, true, true, true, true, true, true, true, true, true, false] rfl rfl (any_of HT_.out (by kernel_rfl)) (fun _ _ _ h => h) (Or.inr ⟨by rfl, rfl⟩) ?_ ?_
                                  rotate_left
                                  · simp only [Act.put, List.setIfInBounds_toArray, List.set_cons_zero, List.set_cons_succ, i64_w, i32_w]
                                    rfl
                                  refine pure_ (i := 20) (N := some 92) (v := ?_) (a' := ?_) #[true, true, true, true, true, true, true, true, true, true, true, true, true, true, true, true, true, true, true, true, true] rfl rfl (any_of HT_.out (by kernel_rfl)) (fun _ _ _ h => h) (Or.inl ⟨by rfl, ?_⟩) ?_ ?_
                                  rotate_left
                                  · intro w'
                                    go_simp
                                    with_reducible rfl
                                  rotate_left
                                  · simp only [Act.put, List.setIfInBounds_toArray, List.set_cons_zero, List.set_cons_succ, i64_w, i32_w]
                                    rfl
                                  refine done_ (done_of HT_.out (by kernel_rfl)) ?_
                                  try go_wp2
                                  go_meet
                                  case rel => exact ⟨_, (x8_2), (x9_2), (x14_4), (by first | rfl | (simp; done) | (simp [*]; done) | (simp; omega)), (by first | rfl | (simp; done) | (simp [*]; done) | (simp; omega)), H', ⟨by have := HJ2.out; have := HK2.out; have := HJ9.out; have := HK4.out; first | omega | exact Nat.le_refl _⟩, ⟨by (with_reducible repeat (first | apply Kd.R_alloc | apply Kd.R_drewN | apply Kd.R_drew)); exact Kd.R_mono HO_6.out (fun _ hk => ⟨hk.2.1, hk.2.2⟩)⟩, ⟨by (with_reducible repeat (first | apply Kd.R_alloc | apply Kd.R_drewN | apply Kd.R_drew)); exact Kd.R_mono HO_8.out (fun _ hk => ⟨hk.1, hk.2.2⟩)⟩, ⟨by (with_reducible repeat (first | apply Kd.R_alloc | apply Kd.R_drewN | apply Kd.R_drew)); exact Kd.R_mono HO_12.out (fun _ hk => ⟨hk.1, hk.2.2⟩)⟩, ⟨by (with_reducible repeat (first | refine blk_drewN ?_ _ | refine blk_drew ?_ | refine blk_alloc ?_ _)); exact BK147.out⟩, ⟨by repeat (first | (with_reducible first | exact HB.out | apply below_alloc | apply pw_below_drewN | apply below_drew1 | refine below_set ?_ GE147.out) | exact HB.out)⟩⟩
                        case rest =>
                          clear HC32
                          try clear p1
                          try clear q1
                          try clear hx1
                          try clear p2
                          try clear c4
                          try clear p6
                          try clear p16
                          try clear q16
                          try clear hx16
                          try clear c40
                          try clear c40b0
                          try clear c41
                          try clear c41b0
                          try clear c42
                          try clear c43
                          try clear c43b0
                          try clear c43b1
                          try clear hx160_0
                          try clear hx161_0
                          try clear p160
                          try clear p161
                          try clear q160
                          try clear q161
                          obtain ⟨kq, x8_31, x9_31, x14_31, rfl, rfl, HA, HJ31, HO_6, HO_8, HO_12, BK147, HB⟩ := hcut
                          cases kq with
                          | zero => exact absurd HA.out (by simp [block_Build.j4])
                          | succ kj31 =>
                            have H := HA.out
                            clear HA
                            simp only [block_Build.j4] at H
                            obtain ⟨y162, hy162⟩ : ∃ y_ : List Int, y_ = (([x14_31, wrap64 ((t148.length : Int) - x14_31), (((rd_T47 l0 x25_2).f1).size : Int)] : List Int)) := ⟨_, rfl⟩
                            replace H : (block_Build.l2 kj31 l0 a1 x6_2 x8_31 x9_31 t148 x14_31 l0 (l0.length : Int) x25_2 y162 (y162.length : Int) 0 ((rd_T47 l0 x25_2).f0.f0) ((rd_T47 l0 x25_2).f0.f1) ((rd_T47 l0 x25_2).f0.f2) ((rd_T47 l0 x25_2).f1)) = some (r1, r2) := by first | (rw [hy162]; with_reducible exact H) | (have H2_ := (Option.bind_some _ _).symm.trans H; rw [hy162]; with_reducible exact H2_) | (have H2_ := (Option.bind_some _ _).symm.trans H; with_reducible exact H2_) | with_reducible exact H | (rw [hy162]; exact H) | exact H
                            have Ny162 := Aside0.mk hy162
                            clear hy162
                            have H' := Aside0.mk H
                            clear H
                            obtain ⟨Ao55, co55, eo55⟩ := Kd.R_slice HO_12.out
                            subst eo55
                            have hcz56_0 : wc.cell? ⟨gb147, 0, none⟩ = some (.string ((rd_T47 l0 x25_2).f0.f0)) := (blk_cell BK147.out 0).trans rfl
                            have hcz56_1 : wc.cell? ⟨gb147, 1, none⟩ = some (.int .u64 ((rd_T47 l0 x25_2).f0.f1)) := (blk_cell BK147.out 1).trans rfl
                            have hcz56_2 : wc.cell? ⟨gb147, 2, none⟩ = some (.int .i64 ((rd_T47 l0 x25_2).f0.f2)) := (blk_cell BK147.out 2).trans rfl
                            have hcz56_3 : wc.cell? ⟨gb147, 3, none⟩ = some (.string ((rd_T47 l0 x25_2).f1)) := (blk_cell BK147.out 3).trans rfl
                            have hfz56_0 := blk_frozen BK147.out 0
                            have hfz56_1 := blk_frozen BK147.out 1
                            have hfz56_2 := blk_frozen BK147.out 2
                            have hfz56_3 := blk_frozen BK147.out 3
                            go_wp2_with (first | ((with_reducible refine gate_dst (N := 103) rfl ?_); (try (refine gate_guard (by rfl) ?_; dsimp only)); refine Kd.R_lit (Kd.int .i64) _ 3 ?hg (N := 103) ?hd (xs := ([x14_31, wrap64 ((t148.length : Int) - x14_31), (((rd_T47 l0 x25_2).f1).size : Int)] : List Int)) (inner := [.int .i64 x14_31, .int .i64 (wrap64 ((t148.length : Int) - x14_31)), .int .i64 (((rd_T47 l0 x25_2).f1).size : Int)]) (ok := fun _ => True) (okp := fun _ => True) ?hr ?hp (fun _ hk => hk) trivial (Below.refl _ _) (Nat.le_refl _) (by simp) ?_; (case hd => rfl); (case hg => rfl); (case hr => first | (go_simp; done) | (go_simp; rfl)); (case hp => exact (Reps.one (show Kd.M (Kd.int .i64) _ _ _ x14_31 [.int .i64 x14_31] from rfl) (Reps.one (show Kd.M (Kd.int .i64) _ _ _ (wrap64 ((t148.length : Int) - x14_31)) [.int .i64 (wrap64 ((t148.length : Int) - x14_31))] from rfl) (Reps.one (show Kd.M (Kd.int .i64) _ _ _ (((rd_T47 l0 x25_2).f1).size : Int) [.int .i64 (((rd_T47 l0 x25_2).f1).size : Int)] from rfl) (Reps.none _ _))))); intro v163 w57 ho58 hb hg_ hnew_; clear hg_ hnew_; (first | rw [← Ny162.out] at ho58 | (simp only [Int.reduceToNat] at ho58; rw [← Ny162.out] at ho58)); have n0_ := Aside0.mk (Kd.R_below (by (with_reducible repeat (first | apply Kd.R_alloc | apply Kd.R_drewN | apply Kd.R_drew)); exact HO_6.out) hb); have n1_ := Aside0.mk (Kd.R_below (by (with_reducible repeat (first | apply Kd.R_alloc | apply Kd.R_drewN | apply Kd.R_drew)); exact HO_8.out) hb); have n2_ := Aside0.mk (Kd.R_below (by (with_reducible repeat (first | apply Kd.R_alloc | apply Kd.R_drewN | apply Kd.R_drew)); exact HO_12.out) hb); have n3_ := Aside0.mk (Kd.R_lower ho58 (below_size (by repeat (first | (with_reducible first | exact HB.out | apply below_alloc | apply pw_below_drewN | apply below_drew1 | refine below_set ?_ GE147.out) | exact HB.out)))); have n4_ := Aside0.mk (blk_below (g := gb147) (o := .cells #[.string ((rd_T47 l0 x25_2).f0.f0), .int .u64 ((rd_T47 l0 x25_2).f0.f1), .int .i64 ((rd_T47 l0 x25_2).f0.f2), .string ((rd_T47 l0 x25_2).f1)] 47 (0, 0)) (by (with_reducible repeat (first | refine blk_drewN ?_ _ | refine blk_drew ?_ | refine blk_alloc ?_ _)); exact BK147.out) hb); have n5_ := Aside0.mk (below_step (by repeat (first | (with_reducible first | exact HB.out | apply below_alloc | apply pw_below_drewN | apply below_drew1 | refine below_set ?_ GE147.out) | exact HB.out)) hb); clear HO_6; clear HO_8; clear HO_12; clear BK147; clear HB; have HO_6 := n0_; have HO_8 := n1_; have HO_12 := n2_; have HO164 := n3_; have BK147 := n4_; have HB := n5_; clear n0_ n1_ n2_ n3_ n4_ n5_; clear hb ho58; obtain ⟨Ao59, co59, eo59⟩ := Kd.R_slice HO164.out; subst eo59))
                            go_loopg [6, 105] kj31 (fun kq v6 v105 w' => ∃ (x6_5 : List Int) (x105_5 : Int), v105 = .int .i64 x105_5 ∧ Aside0 (block_Build.l2 kq l0 a1 x6_5 x8_31 x9_31 t148 x14_31 l0 (l0.length : Int) x25_2 y162 (y162.length : Int) x105_5 ((rd_T47 l0 x25_2).f0.f0) ((rd_T47 l0 x25_2).f0.f1) ((rd_T47 l0 x25_2).f0.f2) ((rd_T47 l0 x25_2).f1) = some (r1, r2)) ∧ Aside0 (kq ≤ kj31) ∧ Aside0 (Kd.R (Kd.int .u8) 5 w' w.heap.size (fun k_ => some k_ ≠ (u8 : Value).ownBlock ∧ some k_ ≠ ((.slice Ao55 t148.length co55) : Value).ownBlock) v6 x6_5) ∧ Aside0 (Kd.R (Kd.int .u8) 5 w' w.heap.size (fun k_ => some k_ ≠ (v6 : Value).ownBlock ∧ some k_ ≠ ((.slice Ao55 t148.length co55) : Value).ownBlock) u8 x8_31) ∧ Aside0 (Kd.R (Kd.int .u8) 5 w' w.heap.size (fun k_ => some k_ ≠ (v6 : Value).ownBlock ∧ some k_ ≠ (u8 : Value).ownBlock) (.slice Ao55 t148.length co55) t148) ∧ Aside0 (Kd.R (Kd.int .i64) 3 w' w.heap.size (fun _ => True) (.slice Ao59 y162.length co59) y162) ∧ Aside0 (w'.heap[gb147]? = some (.cells #[.string ((rd_T47 l0 x25_2).f0.f0), .int .u64 ((rd_T47 l0 x25_2).f0.f1), .int .i64 ((rd_T47 l0 x25_2).f0.f2), .string ((rd_T47 l0 x25_2).f1)] 47 (0, 0))) ∧ Aside0 (Below w.heap.size w w'))
                            case atStart => exact ⟨(x6_2), (0), (by first | rfl | (simp; done) | (simp [*]; done) | (simp; omega)), H', ⟨Nat.le_refl _⟩, ⟨by (with_reducible repeat (first | apply Kd.R_alloc | apply Kd.R_drewN | apply Kd.R_drew)); exact HO_6.out⟩, ⟨by (with_reducible repeat (first | apply Kd.R_alloc | apply Kd.R_drewN | apply Kd.R_drew)); exact HO_8.out⟩, ⟨by (with_reducible repeat (first | apply Kd.R_alloc | apply Kd.R_drewN | apply Kd.R_drew)); exact HO_12.out⟩, ⟨by (with_reducible repeat (first | apply Kd.R_alloc | apply Kd.R_drewN | apply Kd.R_drew)); exact HO164.out⟩, ⟨by (with_reducible repeat (first | refine blk_drewN ?_ _ | refine blk_drew ?_ | refine blk_alloc ?_ _)); exact BK147.out⟩, ⟨by repeat (first | (with_reducible first | exact HB.out | apply below_alloc | apply pw_below_drewN | apply below_drew1 | refine below_set ?_ GE147.out) | exact HB.out)⟩⟩
                            case round =>
                              clear H'
                              try clear p1
                              try clear q1
                              try clear hx1
                              try clear p2
                              try clear c4
                              try clear p6
                              try clear p16
                              try clear q16
                              try clear hx16
                              try clear c40
                              try clear c40b0
                              try clear c41
                              try clear c41b0
                              try clear c42
                              try clear c43
                              try clear c43b0
                              try clear c43b1
                              try clear hcz56_0
                              try clear hcz56_1
                              try clear hcz56_2
                              try clear hcz56_3
                              try clear hfz56_0
                              try clear hfz56_1
                              try clear hfz56_2
                              try clear hfz56_3
                              try clear hx160_0
                              try clear hx161_0
                              try clear p1
                              try clear p16
                              try clear p160
                              try clear p161
                              try clear p2
                              try clear p6
                              try clear q1
                              try clear q16
                              try clear q160
                              try clear q161
                              obtain ⟨x6_5, x105_5, rfl, HA, HK5, HO_6, HO_8, HO_12, HO_103, BK147, HB⟩ := hrel
                              cases gk with
                              | zero => exact absurd HA.out (by simp [block_Build.l2])
                              | succ k5 =>
                                have H := HA.out
                                clear HA
                                simp only [block_Build.l2] at H
                                by_cases c60 : x105_5 < (y162.length : Int)
                                · rw [if_pos c60] at H
                                  have c60b0 : decide (x105_5 < (y162.length : Int)) = true := decide_eq_true c60
                                  clear c60
                                  by_cases c61 : 0 ≤ x105_5
                                  · rw [if_pos c61] at H
                                    have c61b0 : decide (0 ≤ x105_5) = true := decide_eq_true c61
                                    clear c61
                                    by_cases c62 : x105_5 < (y162.length : Int)
                                    · rw [if_pos c62] at H
                                      have c62b0 : decide (x105_5 < (y162.length : Int)) = true := decide_eq_true c62
                                      clear c62
                                      replace H := Option.bind_eq_some_iff.mp H
                                      obtain ⟨t166, A630, H⟩ := H
                                      replace H : (if x6_5.length + t166.length < 140737488355328 then (block_Build.l2 k5 l0 a1 (x6_5 ++ t166) x8_31 x9_31 t148 x14_31 l0 (l0.length : Int) x25_2 y162 (y162.length : Int) (wrap64 (x105_5 + 1)) ((rd_T47 l0 x25_2).f0.f0) ((rd_T47 l0 x25_2).f0.f1) ((rd_T47 l0 x25_2).f0.f2) ((rd_T47 l0 x25_2).f1)) else (none)) = some (r1, r2) := H
                                      have A63 := Aside0.mk A630
                                      clear A630
                                      by_cases c64 : x6_5.length + t166.length < 140737488355328
                                      · rw [if_pos c64] at H
                                        have LMc64 := Aside0.mk c64
                                        clear c64
                                        obtain ⟨y169, hy169⟩ : ∃ y_ : List Int, y_ = (x6_5 ++ t166) := ⟨_, rfl⟩
                                        replace H : (block_Build.l2 k5 l0 a1 y169 x8_31 x9_31 t148 x14_31 l0 (l0.length : Int) x25_2 y162 (y162.length : Int) (wrap64 (x105_5 + 1)) ((rd_T47 l0 x25_2).f0.f0) ((rd_T47 l0 x25_2).f0.f1) ((rd_T47 l0 x25_2).f0.f2) ((rd_T47 l0 x25_2).f1)) = some (r1, r2) := by first | (rw [hy169]; with_reducible exact H) | (have H2_ := (Option.bind_some _ _).symm.trans H; rw [hy169]; with_reducible exact H2_) | (have H2_ := (Option.bind_some _ _).symm.trans H; with_reducible exact H2_) | with_reducible exact H | (rw [hy169]; exact H) | exact H
                                        have Ny169 := Aside0.mk hy169
                                        clear hy169
                                        have H' := Aside0.mk H
                                        clear H
                                        have p165 : 0 ≤ (x105_5 : Int) := of_decide_eq_true (by first | (with_reducible assumption) | assumption)
                                        have q165 : x105_5 < (y162.length : Int) := of_decide_eq_true (by first | (with_reducible assumption) | assumption)
                                        obtain ⟨ad165, e165, hx165_0⟩ := Kd.at_int (Kd.R_reads' HO_103.out).2.2 x105_5 p165 q165
                                        cases e165
                                        replace p165 := eq_true p165
                                        replace q165 := eq_true q165
                                        go_wp2_with (first | ((with_reducible refine gate_callee (f := 21) rfl ?_); refine goesL_ (some 112) rfl rfl Try.func21 (by kernel_rfl) rfl #[.slice none 0 0, .int .u64 (IntKind.u64.wrap (rd y162 x105_5))] rfl (by (try simp only [List.map_toArray, List.map_cons, List.map_nil]); first | done | rfl | (simp only [List.length_drop, List.length_take]; rfl)) ?_; (refine (codec_PutUvarint.calls k5 _ _ ([] : List Int) (IntKind.u64.wrap (rd y162 x105_5)) t166 _ ?side1 ?side2 A63.out).mono ?_); (case side1 => exact Kd.C_nil _ _); (case side2 => exact Nat.le_refl _); rintro e w65 ⟨v167, rfl, ho0, hb⟩; refine ⟨_, rfl, ?_⟩; have n0_ := Aside0.mk (Kd.R_elder' (by (with_reducible repeat (first | apply Kd.R_alloc | apply Kd.R_drewN | apply Kd.R_drew)); exact HO_6.out) (Kd.R_base ho0) hb); have n1_ := Aside0.mk (Kd.R_elder' (by (with_reducible repeat (first | apply Kd.R_alloc | apply Kd.R_drewN | apply Kd.R_drew)); exact HO_8.out) (Kd.R_base ho0) hb); have n2_ := Aside0.mk (Kd.R_elder' (by (with_reducible repeat (first | apply Kd.R_alloc | apply Kd.R_drewN | apply Kd.R_drew)); exact HO_12.out) (Kd.R_base ho0) hb); have n3_ := Aside0.mk (Kd.R_below (by (with_reducible repeat (first | apply Kd.R_alloc | apply Kd.R_drewN | apply Kd.R_drew)); exact HO_103.out) hb); have n4_ := Aside0.mk (Kd.R_lower (Kd.R_new' (Kd.R_new' (Kd.R_new' ho0 (Kd.R_lt (by (with_reducible repeat (first | apply Kd.R_alloc | apply Kd.R_drewN | apply Kd.R_drew)); exact HO_6.out))) (Kd.R_lt (by (with_reducible repeat (first | apply Kd.R_alloc | apply Kd.R_drewN | apply Kd.R_drew)); exact HO_8.out))) (Kd.R_lt (by (with_reducible repeat (first | apply Kd.R_alloc | apply Kd.R_drewN | apply Kd.R_drew)); exact HO_12.out))) (below_size (by repeat (first | (with_reducible first | exact HB.out | apply below_alloc | apply pw_below_drewN | apply below_drew1 | refine below_set ?_ GE147.out) | exact HB.out)))); have n5_ := Aside0.mk (blk_below (g := gb147) (o := .cells #[.string ((rd_T47 l0 x25_2).f0.f0), .int .u64 ((rd_T47 l0 x25_2).f0.f1), .int .i64 ((rd_T47 l0 x25_2).f0.f2), .string ((rd_T47 l0 x25_2).f1)] 47 (0, 0)) (by (with_reducible repeat (first | refine blk_drewN ?_ _ | refine blk_drew ?_ | refine blk_alloc ?_ _)); exact BK147.out) hb); have n6_ := Aside0.mk (below_step (by repeat (first | (with_reducible first | exact HB.out | apply below_alloc | apply pw_below_drewN | apply below_drew1 | refine below_set ?_ GE147.out) | exact HB.out)) hb); clear HO_6; clear HO_8; clear HO_12; clear HO_103; clear BK147; clear HB; have HO_6 := n0_; have HO_8 := n1_; have HO_12 := n2_; have HO_103 := n3_; have HO168 := n4_; have BK147 := n5_; have HB := n6_; clear n0_ n1_ n2_ n3_ n4_ n5_ n6_; (try clear hb); (try clear hb2); (try clear hk); (try clear hi); (try clear ho0); obtain ⟨Ao67, co67, eo67⟩ := Kd.R_slice HO168.out; subst eo67) | ((with_reducible refine gate_builtin (b := .append) (xs := #[.tmp 109, .tmp 112]) rfl ?_); (try (refine gate_guard (by rfl) ?_; dsimp only)); at_builtin; refine Kd.R_append_rows (Kd.int .u8) (w0 := w) w.heap.size rfl (.tmp 109) (.tmp 112) 27 5 (.int .u8 0) 1 rfl Try.underlying27 info5 rfl (by decide) (by omega) u6 x6_5 t166 _ _ _ (fun k_ => some k_ ≠ (u8 : Value).ownBlock ∧ some k_ ≠ (.slice Ao55 t148.length co55 : Value).ownBlock ∧ some k_ ≠ (.slice Ao67 t166.length co67 : Value).ownBlock) (fun _ => False) rfl rfl ?aO ?aR (fun _ _ h => h) (fun _ h => h.elim) ?aF ?aB ?aS ?aL ?_; (case aR => repeat (first | exact (Kd.R_reads' HO168.out).2.2 | (with_reducible refine Kd.C_alloc ?_ _) | (with_reducible refine Kd.C_drewN ?_ _) | (with_reducible refine Kd.C_drew ?_))); (case aB => exact (by repeat (first | (with_reducible first | exact HB.out | apply below_alloc | apply pw_below_drewN | apply below_drew1 | refine below_set ?_ GE147.out) | exact HB.out))); (case aF => exact (fun k_ hk => ⟨Kd.fresh' (Kd.R_lt (by (with_reducible repeat (first | apply Kd.R_alloc | apply Kd.R_drewN | apply Kd.R_drew)); exact HO_8.out)) k_ hk, Kd.fresh' (Kd.R_lt (by (with_reducible repeat (first | apply Kd.R_alloc | apply Kd.R_drewN | apply Kd.R_drew)); exact HO_12.out)) k_ hk, Kd.fresh' (Kd.R_lt (by (with_reducible repeat (first | apply Kd.R_alloc | apply Kd.R_drewN | apply Kd.R_drew)); exact HO168.out)) k_ hk⟩)); (case aO => exact (by (with_reducible repeat (first | apply Kd.R_alloc | apply Kd.R_drewN | apply Kd.R_drew)); exact Kd.R_mono HO_6.out (fun _ hk => ⟨hk.1.1, ⟨hk.1.2, hk.2⟩⟩))); (case aS => exact (below_size (by repeat (first | (with_reducible first | exact HB.out | apply below_alloc | apply pw_below_drewN | apply below_drew1 | refine below_set ?_ GE147.out) | exact HB.out)))); (case aL => have := LMc64.out; omega); intro v170 w66 ho hb hg hat; rw [← Ny169.out] at ho; have n0_ := Aside0.mk (Kd.R_after (ok := (fun k_ => some k_ ≠ (.slice Ao55 t148.length co55 : Value).ownBlock ∧ some k_ ≠ (.slice Ao67 t166.length co67 : Value).ownBlock)) (by (with_reducible repeat (first | apply Kd.R_alloc | apply Kd.R_drewN | apply Kd.R_drew)); exact Kd.R_mono HO_8.out (fun _ hk => ⟨⟨hk.1.2, hk.2⟩, hk.1.1⟩)) hg hat); have n1_ := Aside0.mk (Kd.R_after (ok := (fun k_ => some k_ ≠ (u8 : Value).ownBlock ∧ some k_ ≠ (.slice Ao67 t166.length co67 : Value).ownBlock)) (by (with_reducible repeat (first | apply Kd.R_alloc | apply Kd.R_drewN | apply Kd.R_drew)); exact Kd.R_mono HO_12.out (fun _ hk => ⟨⟨hk.1.2, hk.2⟩, hk.1.1⟩)) hg hat); have n2_ := Aside0.mk (Kd.R_over' (by (with_reducible repeat (first | apply Kd.R_alloc | apply Kd.R_drewN | apply Kd.R_drew)); exact HO_103.out) (Kd.R_typed (by (with_reducible repeat (first | apply Kd.R_alloc | apply Kd.R_drewN | apply Kd.R_drew)); exact HO_6.out)) (by decide) hg); have n3_ := Aside0.mk (blk_grown (g := gb147) (o := .cells #[.string ((rd_T47 l0 x25_2).f0.f0), .int .u64 ((rd_T47 l0 x25_2).f0.f1), .int .i64 ((rd_T47 l0 x25_2).f0.f2), .string ((rd_T47 l0 x25_2).f1)] 47 (0, 0)) (by (with_reducible repeat (first | refine blk_drewN ?_ _ | refine blk_drew ?_ | refine blk_alloc ?_ _)); exact BK147.out) hg (Kd.R_ne HO_6.out BK147.out (by decide))); have n4_ := Aside0.mk (Kd.R_after (ok := (fun k_ => some k_ ≠ (u8 : Value).ownBlock ∧ some k_ ≠ (.slice Ao55 t148.length co55 : Value).ownBlock)) (by (with_reducible repeat (first | apply Kd.R_alloc | apply Kd.R_drewN | apply Kd.R_drew)); exact Kd.R_mono HO168.out (fun _ hk => ⟨⟨hk.1.2, hk.2⟩, hk.1.1.2⟩)) hg hat); have n5_ := Aside0.mk (hb); have n6_ := Aside0.mk (ho); clear HO_8; clear HO_12; clear HO_103; clear BK147; clear HO168; clear HB; clear HO_6; have HO_8 := n0_; have HO_12 := n1_; have HO_103 := n2_; have BK147 := n3_; have HO168 := n4_; have HB := n5_; have HO171 := n6_; clear n0_ n1_ n2_ n3_ n4_ n5_ n6_; clear ho hb hg hat))
                                        go_roundg k5
                                        case measure => have := HJ2.out; have := HK2.out; have := HJ9.out; have := HJ31.out; have := HK5.out; omega
                                        case rel => exact ⟨(y169), (wrap64 (x105_5 + 1)), (by first | rfl | (simp; done) | (simp [*]; done) | (simp; omega)), H', ⟨by have := HJ2.out; have := HK2.out; have := HJ9.out; have := HJ31.out; have := HK5.out; omega⟩, ⟨by (with_reducible repeat (first | apply Kd.R_alloc | apply Kd.R_drewN | apply Kd.R_drew)); exact Kd.R_mono HO171.out (fun _ hk => ⟨hk.1, hk.2.1⟩)⟩, ⟨by (with_reducible repeat (first | apply Kd.R_alloc | apply Kd.R_drewN | apply Kd.R_drew)); exact Kd.R_mono HO_8.out (fun _ hk => ⟨hk.2, hk.1.1⟩)⟩, ⟨by (with_reducible repeat (first | apply Kd.R_alloc | apply Kd.R_drewN | apply Kd.R_drew)); exact Kd.R_mono HO_12.out (fun _ hk => ⟨hk.2, hk.1.1⟩)⟩, ⟨by (with_reducible repeat (first | apply Kd.R_alloc | apply Kd.R_drewN | apply Kd.R_drew)); exact HO_103.out⟩, ⟨by (with_reducible repeat (first | refine blk_drewN ?_ _ | refine blk_drew ?_ | refine blk_alloc ?_ _)); exact BK147.out⟩, ⟨by repeat (first | (with_reducible first | exact HB.out | apply below_alloc | apply pw_below_drewN | apply below_drew1 | refine below_set ?_ GE147.out) | exact HB.out)⟩⟩
                                      · rw [if_neg c64] at H
                                        exact absurd H (by simp)
                                    · rw [if_neg c62] at H
                                      exact absurd H (by simp)
                                  · rw [if_neg c61] at H
                                    exact absurd H (by simp)
                                · rw [if_neg c60] at H
                                  have c60b0 : decide (x105_5 < (y162.length : Int)) = false := decide_eq_false c60
                                  clear c60
                                  by_cases c68 : 0 ≤ x14_31
                                  · rw [if_pos c68] at H
                                    have c68b0 := eq_true c68
                                    have c68b1 : decide (0 ≤ x14_31) = true := decide_eq_true c68
                                    clear c68
                                    by_cases c69 : x14_31 ≤ (t148.length : Int)
                                    · rw [if_pos c69] at H
                                      have c69b0 := eq_true c69
                                      have c69b1 : decide (x14_31 ≤ (t148.length : Int)) = true := decide_eq_true c69
                                      clear c69
                                      obtain ⟨y172, hy172⟩ : ∃ y_ : List Int, y_ = (t148.drop (x14_31 : Int).toNat) := ⟨_, rfl⟩
                                      replace H : (if x6_5.length + y172.length < 140737488355328 then ((some (x6_5 ++ y172 : List Int)).bind fun y176 => (if y176.length + ((rd_T47 l0 x25_2).f1).size < 140737488355328 then (block_Build.l0 k5 l0 a1 (y176 ++ bytesOf ((rd_T47 l0 x25_2).f1)) t148 x8_31 x9_31 l0 (l0.length : Int) (wrap64 (x25_2 + 1))) else (none))) else (none)) = some (r1, r2) := by first | (rw [hy172]; with_reducible exact H) | (have H2_ := (Option.bind_some _ _).symm.trans H; rw [hy172]; with_reducible exact H2_) | (have H2_ := (Option.bind_some _ _).symm.trans H; with_reducible exact H2_) | with_reducible exact H | (rw [hy172]; exact H) | exact H
                                      have Ny172 := Aside0.mk hy172
                                      clear hy172
                                      by_cases c70 : x6_5.length + y172.length < 140737488355328
                                      · rw [if_pos c70] at H
                                        have LMc70 := Aside0.mk c70
                                        clear c70
                                        obtain ⟨y176, hy176⟩ : ∃ y_ : List Int, y_ = (x6_5 ++ y172) := ⟨_, rfl⟩
                                        replace H : (if y176.length + ((rd_T47 l0 x25_2).f1).size < 140737488355328 then (block_Build.l0 k5 l0 a1 (y176 ++ bytesOf ((rd_T47 l0 x25_2).f1)) t148 x8_31 x9_31 l0 (l0.length : Int) (wrap64 (x25_2 + 1))) else (none)) = some (r1, r2) := by first | (rw [hy176]; with_reducible exact H) | (have H2_ := (Option.bind_some _ _).symm.trans H; rw [hy176]; with_reducible exact H2_) | (have H2_ := (Option.bind_some _ _).symm.trans H; with_reducible exact H2_) | with_reducible exact H | (rw [hy176]; exact H) | exact H
                                        have Ny176 := Aside0.mk hy176
                                        clear hy176
                                        by_cases c71 : y176.length + ((rd_T47 l0 x25_2).f1).size < 140737488355328
                                        · rw [if_pos c71] at H
                                          have LMc71 := Aside0.mk c71
                                          clear c71
                                          obtain ⟨y179, hy179⟩ : ∃ y_ : List Int, y_ = (y176 ++ bytesOf ((rd_T47 l0 x25_2).f1)) := ⟨_, rfl⟩
                                          replace H : (block_Build.l0 k5 l0 a1 y179 t148 x8_31 x9_31 l0 (l0.length : Int) (wrap64 (x25_2 + 1))) = some (r1, r2) := by first | (rw [hy179]; with_reducible exact H) | (have H2_ := (Option.bind_some _ _).symm.trans H; rw [hy179]; with_reducible exact H2_) | (have H2_ := (Option.bind_some _ _).symm.trans H; with_reducible exact H2_) | with_reducible exact H | (rw [hy179]; exact H) | exact H
                                          have Ny179 := Aside0.mk hy179
                                          clear hy179
                                          have H' := Aside0.mk H
                                          clear H
                                          try go_wp2
                                          have n0_ := Aside0.mk (Kd.R_drew HO_6.out)
                                          have n1_ := Aside0.mk (Kd.R_drew HO_8.out)
                                          have n2_ := Aside0.mk (Kd.R_drew HO_12.out)
                                          have n3_ := Aside0.mk (Kd.R_drew HO_103.out)
                                          have n4_ := Aside0.mk (blk_drew BK147.out)
                                          have n5_ := Aside0.mk (below_drew1 HB.out)
                                          clear HO_6
                                          clear HO_8
                                          clear HO_12
                                          clear HO_103
                                          clear BK147
                                          clear HB
                                          have HO_6 := n0_
                                          have HO_8 := n1_
                                          have HO_12 := n2_
                                          have HO_103 := n3_
                                          have BK147 := n4_
                                          have HB := n5_
                                          clear n0_ n1_ n2_ n3_ n4_ n5_
                                          have q73 : (x14_31 : Int) ≤ ((t148.length : Int) : Int) := of_decide_eq_true (by first | (with_reducible assumption) | assumption)
                                          obtain ⟨i073, hi073, _, hsz73, _⟩ := info_parts info5
                                          have hroom73 : t148.length ≤ co55 := (Kd.R_reads' HO_12.out).2.1
                                          have hC73 : Kd.C (Kd.int .u8) _ Ao55 t148.length t148 := (Kd.R_reads' HO_12.out).2.2
                                          have q073 : (0 : Int) ≤ (x14_31 : Int) := of_decide_eq_true (by first | (with_reducible assumption) | assumption)
                                          have hcut73 := cut_from (P := Try.prog) 27 5 .i64 Try.underlying27 hi073 1 hsz73 Ao55 t148.length co55 x14_31 q073 q73
                                          have hr73 := Kd.C_drop (m := (x14_31 : Int).toNat) (c := co55) hC73 (by omega) hroom73
                                          obtain ⟨A73, hA73⟩ : ∃ A1, A1 = (if co55 = (x14_31 : Int).toNat then Ao55 else (Ao55 : Option Addr).map (·.add ((x14_31 : Int).toNat * 1))) := ⟨_, rfl⟩
                                          obtain ⟨c73, hc73⟩ : ∃ c1, c1 = co55 - (x14_31 : Int).toNat := ⟨_, rfl⟩
                                          have hy73 : y172.length = t148.length - (x14_31 : Int).toNat := (by rw [Ny172.out, List.length_drop] <;> omega)
                                          rw [show (t148).drop (x14_31 : Int).toNat = y172 from Ny172.out.symm] at hr73
                                          replace hr73 : Kd.C (Kd.int .u8) _ A73 y172.length y172 := (by rw [hA73]; exact hr73)
                                          rw [← hy73, ← hA73, ← hc73] at hcut73
                                          have HR175 := Aside0.mk hr73
                                          have HC175 := Aside0.mk (show y172.length ≤ c73 from by rw [hy73, hc73]; exact Nat.sub_le_sub_right hroom73 _)
                                          clear hr73 hC73 hroom73 hi073 hsz73 hc73
                                          have KY73 := Aside0.mk hy73
                                          have KA73 := Aside0.mk hA73
                                          clear hy73 hA73
                                          have KL73 := Aside0.mk (show (x14_31 : Int).toNat ≤ t148.length from by omega)
                                          replace q73 := eq_true q73
                                          refine start_ (n := 9) (S := fun w' => w'.cell? ⟨gb147, 0, none⟩ = some (.string ((rd_T47 l0 x25_2).f0.f0)) ∧ w'.cell? ⟨gb147, 1, none⟩ = some (.int .u64 ((rd_T47 l0 x25_2).f0.f1)) ∧ w'.cell? ⟨gb147, 2, none⟩ = some (.int .i64 ((rd_T47 l0 x25_2).f0.f2)) ∧ w'.cell? ⟨gb147, 3, none⟩ = some (.string ((rd_T47 l0 x25_2).f1))) (ds := []) #[false, false, false, false, false, false, false, false, false] (by kernel_rfl) rfl rfl ⟨(blk_cell BK147.out 0).trans rfl, (blk_cell BK147.out 1).trans rfl, (blk_cell BK147.out 2).trans rfl, (blk_cell BK147.out 3).trans rfl⟩ (fun hHeld => ?_); refine with_tabW block_Build.tab26 block_Build.bits26 (fun HT_ HW_ => ?_)
                                          generalize wr.drew = w72 at HO_6 HO_8 HO_12 HO_103 BK147 HB HR175 hHeld ⊢
                                          refine pure_ (i := 0) (N := some 115) (v := ?_) (a' := ?_) #[true, false, false, false, false, false, false, false, false] rfl rfl (any_of HT_.out (by kernel_rfl)) (fun _ _ _ h => h) (Or.inl ⟨by rfl, ?_⟩) ?_ ?_
                                          rotate_left
                                          · intro w'
                                            go_simp
                                            with_reducible rfl
                                          rotate_left
                                          · simp only [Act.put, List.setIfInBounds_toArray, List.set_cons_zero, List.set_cons_succ, i64_w, i32_w]
                                            rfl
                                          refine pure_ (i := 1) (N := some 116) (v := ?_) (a' := ?_) #[true, true, false, false, false, false, false, false, false] rfl rfl (any_of HT_.out (by kernel_rfl)) (fun _ _ _ h => h) (Or.inl ⟨by rfl, ?_⟩) ?_ ?_
                                          rotate_left
                                          · intro w'
                                            go_simp
                                            with_reducible rfl
                                          rotate_left
                                          · simp only [Act.put, List.setIfInBounds_toArray, List.set_cons_zero, List.set_cons_succ, i64_w, i32_w]
                                            rfl
                                          refine pure_ (i := 2) (N := some 117) (v := ?_) (a' := ?_) #[true, true, true, false, false, false, false, false, false] rfl rfl (any_of HT_.out (by kernel_rfl)) (fun _ _ _ h => h) (Or.inl ⟨by rfl, ?_⟩) ?_ ?_
                                          rotate_left
                                          · intro w'
                                            go_simp
                                            with_reducible rfl
                                          rotate_left
                                          · simp only [Act.put, List.setIfInBounds_toArray, List.set_cons_zero, List.set_cons_succ, i64_w, i32_w]
                                            rfl
                                          refine pure_ (i := 3) (N := some 118) (v := ?_) (a' := ?_) #[true, true, true, true, false, false, false, false, false] rfl rfl (any_of HT_.out (by kernel_rfl)) (fun _ _ _ h => h) (Or.inl ⟨by rfl, ?_⟩) ?_ ?_
                                          rotate_left
                                          · intro w'
                                            go_simp
                                            with_reducible rfl
                                          rotate_left
                                          · simp only [Act.put, List.setIfInBounds_toArray, List.set_cons_zero, List.set_cons_succ, i64_w, i32_w]
                                            rfl
                                          refine pure_ (i := 5) (N := some 120) (v := ?_) (a' := ?_) #[true, true, true, true, false, true, false, false, false] rfl rfl (any_of HT_.out (by kernel_rfl)) (fun _ _ _ h => h) (Or.inl ⟨by rfl, ?_⟩) ?_ ?_
                                          rotate_left
                                          · intro w'
                                            go_simp
                                            with_reducible rfl
                                          rotate_left
                                          · simp only [Act.put, List.setIfInBounds_toArray, List.set_cons_zero, List.set_cons_succ, i64_w, i32_w]
                                            rfl
                                          refine take_ (i := 6) (N := some 121) (v := ?_) (a' := ?_) #[true, true, true, true, false, true, true, false, false] rfl rfl (take_ofW HT_.out HW_.out (by kernel_rfl)) (fun _ _ _ h => h) (Or.inl ⟨by rfl, ?_⟩) hHeld ?_ ?_
                                          rotate_left
                                          · rintro w' ⟨s0, s1, s2, s3⟩
                                            go_simp
                                            with_reducible rfl
                                          rotate_left
                                          · simp only [Act.put, List.setIfInBounds_toArray, List.set_cons_zero, List.set_cons_succ, i64_w, i32_w]
                                            rfl
                                          refine one_ (i := 4) (N := some 119) #[true, true, true, true, true, true, true, false, false] rfl rfl (one_of HT_.out (by kernel_rfl)) (by decide) (fun K hK => ?_)
                                          refine Kd.R_append_rows_step (Kd.int .u8) (w0 := w) w.heap.size (by rfl) (.tmp 115) (.tmp 118) 27 5 (.int .u8 0) 1 rfl Try.underlying27 info5 rfl (by decide) (by omega) u6 x6_5 y172 _ _ _ (fun k_ => some k_ ≠ (u8 : Value).ownBlock ∧ some k_ ≠ (.slice Ao55 t148.length co55 : Value).ownBlock) (fun _ => False) rfl rfl ?aO ?aR (fun _ _ h => h) (fun _ h => h.elim) ?aF ?aB ?aS ?aL ?_
                                          (case aR => repeat (first | exact (by repeat (first | (with_reducible exact HR175.out) | (with_reducible refine Kd.C_alloc ?_ _) | (with_reducible refine Kd.C_drewN ?_ _) | (with_reducible refine Kd.C_drew ?_) | exact HR175.out)) | (with_reducible refine Kd.C_alloc ?_ _) | (with_reducible refine Kd.C_drewN ?_ _) | (with_reducible refine Kd.C_drew ?_)))
                                          (case aB => exact (by repeat (first | (with_reducible first | exact HB.out | apply below_alloc | apply pw_below_drewN | apply below_drew1 | refine below_set ?_ GE147.out) | exact HB.out)))
                                          (case aF => exact (fun k_ hk => ⟨Kd.fresh' (Kd.R_lt (by (with_reducible repeat (first | apply Kd.R_alloc | apply Kd.R_drewN | apply Kd.R_drew)); exact HO_8.out)) k_ hk, Kd.fresh' (Kd.R_lt (by (with_reducible repeat (first | apply Kd.R_alloc | apply Kd.R_drewN | apply Kd.R_drew)); exact HO_12.out)) k_ hk⟩))
                                          (case aO => exact (by (with_reducible repeat (first | apply Kd.R_alloc | apply Kd.R_drewN | apply Kd.R_drew)); exact HO_6.out))
                                          (case aS => exact (below_size (by repeat (first | (with_reducible first | exact HB.out | apply below_alloc | apply pw_below_drewN | apply below_drew1 | refine below_set ?_ GE147.out) | exact HB.out))))
                                          (case aL => have := LMc70.out; omega)
                                          intro v177 w74 ho hb hg hat
                                          rw [← Ny176.out] at ho
                                          have n0_ := Aside0.mk (Kd.R_after (ok := (fun k_ => some k_ ≠ (.slice Ao55 t148.length co55 : Value).ownBlock)) (by (with_reducible repeat (first | apply Kd.R_alloc | apply Kd.R_drewN | apply Kd.R_drew)); exact Kd.R_mono HO_8.out (fun _ hk => ⟨hk.2, hk.1⟩)) hg hat)
                                          have n1_ := Aside0.mk (Kd.R_after (ok := (fun k_ => some k_ ≠ (u8 : Value).ownBlock)) (by (with_reducible repeat (first | apply Kd.R_alloc | apply Kd.R_drewN | apply Kd.R_drew)); exact Kd.R_mono HO_12.out (fun _ hk => ⟨hk.2, hk.1⟩)) hg hat)
                                          have n2_ := Aside0.mk (Kd.R_over' (by (with_reducible repeat (first | apply Kd.R_alloc | apply Kd.R_drewN | apply Kd.R_drew)); exact HO_103.out) (Kd.R_typed (by (with_reducible repeat (first | apply Kd.R_alloc | apply Kd.R_drewN | apply Kd.R_drew)); exact HO_6.out)) (by decide) hg)
                                          have n3_ := Aside0.mk (blk_grown (g := gb147) (o := .cells #[.string ((rd_T47 l0 x25_2).f0.f0), .int .u64 ((rd_T47 l0 x25_2).f0.f1), .int .i64 ((rd_T47 l0 x25_2).f0.f2), .string ((rd_T47 l0 x25_2).f1)] 47 (0, 0)) (by (with_reducible repeat (first | refine blk_drewN ?_ _ | refine blk_drew ?_ | refine blk_alloc ?_ _)); exact BK147.out) hg (Kd.R_ne HO_6.out BK147.out (by decide)))
                                          have n4_ := Aside0.mk (hb)
                                          have n5_ := Aside0.mk ((show Kd.C (Kd.int .u8) w74 A73 y172.length y172 from by rw [Ny172.out, KA73.out]; exact Kd.C_drop (m := (x14_31 : Int).toNat) (c := co55) ((Kd.R_reads' (Kd.R_after (ok := (fun k_ => some k_ ≠ (u8 : Value).ownBlock)) (by (with_reducible repeat (first | apply Kd.R_alloc | apply Kd.R_drewN | apply Kd.R_drew)); exact Kd.R_mono HO_12.out (fun _ hk => ⟨hk.2, hk.1⟩)) hg hat)).2.2) KL73.out ((Kd.R_reads' (Kd.R_after (ok := (fun k_ => some k_ ≠ (u8 : Value).ownBlock)) (by (with_reducible repeat (first | apply Kd.R_alloc | apply Kd.R_drewN | apply Kd.R_drew)); exact Kd.R_mono HO_12.out (fun _ hk => ⟨hk.2, hk.1⟩)) hg hat)).2.1)))
                                          have n6_ := Aside0.mk (ho)
                                          clear HO_8
                                          clear HO_12
                                          clear HO_103
                                          clear BK147
                                          clear HB
                                          clear HR175
                                          clear HO_6
                                          have HO_8 := n0_
                                          have HO_12 := n1_
                                          have HO_103 := n2_
                                          have BK147 := n3_
                                          have HB := n4_
                                          have HR175 := n5_
                                          have HO178 := n6_
                                          clear n0_ n1_ n2_ n3_ n4_ n5_ n6_
                                          clear ho hb hg hat
                                          refine hK.out _ _ ⟨(blk_cell BK147.out 0).trans rfl, (blk_cell BK147.out 1).trans rfl, (blk_cell BK147.out 2).trans rfl, (blk_cell BK147.out 3).trans rfl⟩ (fun hHeld => ?_)
                                          clear hK K
                                          refine norm_ (a' := ?_) ?_ ?_
                                          rotate_left
                                          · show Act.put _ (some 119) _ = _
                                            simp only [Act.put, List.setIfInBounds_toArray, List.set_cons_zero, List.set_cons_succ, i64_w, i32_w]
                                            rfl
                                          refine one_ (i := 7) (N := some 122) #[true, true, true, true, true, true, true, true, false] rfl rfl (one_of HT_.out (by kernel_rfl)) (by decide) (fun K hK => ?_)
                                          refine h_R_append_str_step (w0 := w) w.heap.size (by rfl) (.tmp 119) _ 27 9 5 rfl Try.underlying27 Try.underlying9 info5 v177 y176 ((rd_T47 l0 x25_2).f1) (fun k_ => some k_ ≠ (u8 : Value).ownBlock ∧ some k_ ≠ (.slice Ao55 t148.length co55 : Value).ownBlock) rfl rfl ?aO ?aF ?aB ?aS ?aL ?_
                                          (case aB => exact (by repeat (first | (with_reducible first | exact HB.out | apply below_alloc | apply pw_below_drewN | apply below_drew1 | refine below_set ?_ GE147.out) | exact HB.out)))
                                          (case aF => exact (fun k_ hk => ⟨Kd.fresh' (Kd.R_lt (by (with_reducible repeat (first | apply Kd.R_alloc | apply Kd.R_drewN | apply Kd.R_drew)); exact HO_8.out)) k_ hk, Kd.fresh' (Kd.R_lt (by (with_reducible repeat (first | apply Kd.R_alloc | apply Kd.R_drewN | apply Kd.R_drew)); exact HO_12.out)) k_ hk⟩))
                                          (case aO => exact (by (with_reducible repeat (first | apply Kd.R_alloc | apply Kd.R_drewN | apply Kd.R_drew)); exact HO178.out))
                                          (case aS => exact (below_size (by repeat (first | (with_reducible first | exact HB.out | apply below_alloc | apply pw_below_drewN | apply below_drew1 | refine below_set ?_ GE147.out) | exact HB.out))))
                                          (case aL => have := LMc71.out; omega)
                                          intro v180 w75 ho hb hg hat
                                          rw [← Ny179.out] at ho
                                          have n0_ := Aside0.mk (Kd.R_after (ok := (fun k_ => some k_ ≠ (.slice Ao55 t148.length co55 : Value).ownBlock)) (by (with_reducible repeat (first | apply Kd.R_alloc | apply Kd.R_drewN | apply Kd.R_drew)); exact HO_8.out) hg hat)
                                          have n1_ := Aside0.mk (Kd.R_after (ok := (fun k_ => some k_ ≠ (u8 : Value).ownBlock)) (by (with_reducible repeat (first | apply Kd.R_alloc | apply Kd.R_drewN | apply Kd.R_drew)); exact HO_12.out) hg hat)
                                          have n2_ := Aside0.mk (Kd.R_over' (by (with_reducible repeat (first | apply Kd.R_alloc | apply Kd.R_drewN | apply Kd.R_drew)); exact HO_103.out) (Kd.R_typed (by (with_reducible repeat (first | apply Kd.R_alloc | apply Kd.R_drewN | apply Kd.R_drew)); exact HO178.out)) (by decide) hg)
                                          have n3_ := Aside0.mk (blk_grown (g := gb147) (o := .cells #[.string ((rd_T47 l0 x25_2).f0.f0), .int .u64 ((rd_T47 l0 x25_2).f0.f1), .int .i64 ((rd_T47 l0 x25_2).f0.f2), .string ((rd_T47 l0 x25_2).f1)] 47 (0, 0)) (by (with_reducible repeat (first | refine blk_drewN ?_ _ | refine blk_drew ?_ | refine blk_alloc ?_ _)); exact BK147.out) hg (Kd.R_ne HO178.out BK147.out (by decide)))
                                          have n4_ := Aside0.mk (hb)
                                          have n5_ := Aside0.mk ((show Kd.C (Kd.int .u8) w75 A73 y172.length y172 from by rw [Ny172.out, KA73.out]; exact Kd.C_drop (m := (x14_31 : Int).toNat) (c := co55) ((Kd.R_reads' (Kd.R_after (ok := (fun k_ => some k_ ≠ (u8 : Value).ownBlock)) (by (with_reducible repeat (first | apply Kd.R_alloc | apply Kd.R_drewN | apply Kd.R_drew)); exact HO_12.out) hg hat)).2.2) KL73.out ((Kd.R_reads' (Kd.R_after (ok := (fun k_ => some k_ ≠ (u8 : Value).ownBlock)) (by (with_reducible repeat (first | apply Kd.R_alloc | apply Kd.R_drewN | apply Kd.R_drew)); exact HO_12.out) hg hat)).2.1)))
                                          have n6_ := Aside0.mk (ho)
                                          clear HO_8
                                          clear HO_12
                                          clear HO_103
                                          clear BK147
                                          clear HB
                                          clear HR175
                                          clear HO178
                                          have HO_8 := n0_
                                          have HO_12 := n1_
                                          have HO_103 := n2_
                                          have BK147 := n3_
                                          have HB := n4_
                                          have HR175 := n5_
                                          have HO181 := n6_
                                          clear n0_ n1_ n2_ n3_ n4_ n5_ n6_
                                          clear ho hb hg hat
                                          refine hK.out _ _ ⟨(blk_cell BK147.out 0).trans rfl, (blk_cell BK147.out 1).trans rfl, (blk_cell BK147.out 2).trans rfl, (blk_cell BK147.out 3).trans rfl⟩ (fun hHeld => ?_)
                                          clear hK K
                                          refine norm_ (a' := ?_) ?_ ?_
                                          rotate_left
                                          · show Act.put _ (some 122) _ = _
                                            simp only [Act.put, List.setIfInBounds_toArray, List.set_cons_zero, List.set_cons_succ, i64_w, i32_w]
                                            rfl
                                          refine pure_ (i := 8) (N := some 6) (v := ?_) (a' := ?_) #[true, true, true, true, true, true, true, true, true] rfl rfl (any_of HT_.out (by kernel_rfl)) (fun _ _ _ h => h) (Or.inl ⟨by rfl, ?_⟩) ?_ ?_
                                          rotate_left
                                          · intro w'
                                            go_simp
                                            with_reducible rfl
                                          rotate_left
                                          · simp only [Act.put, List.setIfInBounds_toArray, List.set_cons_zero, List.set_cons_succ, i64_w, i32_w]
                                            rfl
                                          refine done_ (done_of HT_.out (by kernel_rfl)) ?_
                                          try go_wp2
                                          go_roundg k5
                                          case measure => have := HJ2.out; have := HK2.out; have := HJ9.out; have := HJ31.out; have := HK5.out; omega
                                          case rel => exact ⟨(y179), (t148), (x8_31), (x9_31), (wrap64 (x25_2 + 1)), (by first | rfl | (simp; done) | (simp [*]; done) | (simp; omega)), (by first | rfl | (simp; done) | (simp [*]; done) | (simp; omega)), H', ⟨by have := HJ2.out; have := HK2.out; have := HJ9.out; have := HJ31.out; have := HK5.out; omega⟩, ⟨by (with_reducible repeat (first | apply Kd.R_alloc | apply Kd.R_drewN | apply Kd.R_drew)); exact Kd.R_mono HO181.out (fun _ hk => ⟨hk.2, hk.1⟩)⟩, ⟨by (with_reducible repeat (first | apply Kd.R_alloc | apply Kd.R_drewN | apply Kd.R_drew)); exact Kd.R_mono HO_12.out (fun _ hk => ⟨hk.2, hk.1⟩)⟩, ⟨by (with_reducible repeat (first | apply Kd.R_alloc | apply Kd.R_drewN | apply Kd.R_drew)); exact Kd.R_mono HO_8.out (fun _ hk => ⟨hk.2, hk.1⟩)⟩, ⟨by repeat (first | (with_reducible first | exact HB.out | apply below_alloc | apply pw_below_drewN | apply below_drew1 | refine below_set ?_ GE147.out) | exact HB.out)⟩⟩
                                        · rw [if_neg c71] at H
                                          exact absurd H (by simp)
                                      · rw [if_neg c70] at H
                                        exact absurd H (by simp)
                                    · rw [if_neg c69] at H
                                      exact absurd H (by simp)
                                  · rw [if_neg c68] at H
                                    exact absurd H (by simp)
                · rw [if_neg c8] at H
                  exact absurd H (by simp)
              · rw [if_neg c7] at H
                exact absurd H (by simp)
            · rw [if_neg c6] at H
              have c6b0 : decide (x25_2 < (l0.length : Int)) = false := decide_eq_false c6
              clear c6
              by_cases c76 : x6_2.length + x8_2.length < 140737488355328
              · rw [if_pos c76] at H
                have LMc76 := Aside0.mk c76
                clear c76
                obtain ⟨y137, hy137⟩ : ∃ y_ : List Int, y_ = (x6_2 ++ x8_2) := ⟨_, rfl⟩
                replace H : (if y137.length < 140737488355328 then ((codec_PutFixed.f k2 (y137 ++ [(a1) % 256]) x9_2 4).bind fun t143 => (some (t143, 0))) else (none)) = some (r1, r2) := by first | (rw [hy137]; with_reducible exact H) | (have H2_ := (Option.bind_some _ _).symm.trans H; rw [hy137]; with_reducible exact H2_) | (have H2_ := (Option.bind_some _ _).symm.trans H; with_reducible exact H2_) | with_reducible exact H | (rw [hy137]; exact H) | exact H
                have Ny137 := Aside0.mk hy137
                clear hy137
                by_cases c77 : y137.length < 140737488355328
                · rw [if_pos c77] at H
                  have LMc77 := Aside0.mk c77
                  clear c77
                  obtain ⟨y140, hy140⟩ : ∃ y_ : List Int, y_ = (y137 ++ [(a1) % 256]) := ⟨_, rfl⟩
                  replace H : ((codec_PutFixed.f k2 y140 x9_2 4).bind fun t143 => (some (t143, 0))) = some (r1, r2) := by first | (rw [hy140]; with_reducible exact H) | (have H2_ := (Option.bind_some _ _).symm.trans H; rw [hy140]; with_reducible exact H2_) | (have H2_ := (Option.bind_some _ _).symm.trans H; with_reducible exact H2_) | with_reducible exact H | (rw [hy140]; exact H) | exact H
                  have Ny140 := Aside0.mk hy140
                  clear hy140
                  replace H := Option.bind_eq_some_iff.mp H
                  obtain ⟨t143, A780, H⟩ := H
                  replace H : (some (t143, 0)) = some (r1, r2) := H
                  have A78 := Aside0.mk A780
                  clear A780
                  simp only [Option.some.injEq, Prod.mk.injEq] at H
                  obtain ⟨rfl, rfl⟩ := H
                  obtain ⟨Ao80, co80, eo80⟩ := Kd.R_slice HO_8.out
                  subst eo80
                  go_wp2_with (first | ((with_reducible refine gate_builtin (b := .append) (xs := #[.tmp 125, .tmp 126]) rfl ?_); (try (refine gate_guard (by rfl) ?_; dsimp only)); at_builtin; refine Kd.R_append_rows (Kd.int .u8) (w0 := w) w.heap.size rfl (.tmp 125) (.tmp 126) 27 5 (.int .u8 0) 1 rfl Try.underlying27 info5 rfl (by decide) (by omega) u6 x6_2 x8_2 _ _ _ (fun k_ => some k_ ≠ (u7 : Value).ownBlock ∧ some k_ ≠ (.slice Ao80 x8_2.length co80 : Value).ownBlock) (fun _ => False) rfl rfl ?aO ?aR (fun _ _ h => h) (fun _ h => h.elim) ?aF ?aB ?aS ?aL ?_; (case aR => repeat (first | exact (Kd.R_reads' HO_8.out).2.2 | (with_reducible refine Kd.C_alloc ?_ _) | (with_reducible refine Kd.C_drewN ?_ _) | (with_reducible refine Kd.C_drew ?_))); (case aB => exact (by repeat (first | (with_reducible first | exact HB.out | apply below_alloc | apply pw_below_drewN | apply below_drew1) | exact HB.out))); (case aF => exact (fun k_ hk => ⟨Kd.fresh' (Kd.R_lt (by (with_reducible repeat (first | apply Kd.R_alloc | apply Kd.R_drewN | apply Kd.R_drew)); exact HO_7.out)) k_ hk, Kd.fresh' (Kd.R_lt (by (with_reducible repeat (first | apply Kd.R_alloc | apply Kd.R_drewN | apply Kd.R_drew)); exact HO_8.out)) k_ hk⟩)); (case aO => exact (by (with_reducible repeat (first | apply Kd.R_alloc | apply Kd.R_drewN | apply Kd.R_drew)); exact HO_6.out)); (case aS => exact (below_size (by repeat (first | (with_reducible first | exact HB.out | apply below_alloc | apply pw_below_drewN | apply below_drew1) | exact HB.out)))); (case aL => have := LMc76.out; omega); intro v138 w79 ho hb hg hat; rw [← Ny137.out] at ho; have n0_ := Aside0.mk (Kd.R_after (ok := (fun k_ => some k_ ≠ (.slice Ao80 x8_2.length co80 : Value).ownBlock)) (by (with_reducible repeat (first | apply Kd.R_alloc | apply Kd.R_drewN | apply Kd.R_drew)); exact Kd.R_mono HO_7.out (fun _ hk => ⟨hk.2, hk.1⟩)) hg hat); have n1_ := Aside0.mk (Kd.R_after (ok := (fun k_ => some k_ ≠ (u7 : Value).ownBlock)) (by (with_reducible repeat (first | apply Kd.R_alloc | apply Kd.R_drewN | apply Kd.R_drew)); exact Kd.R_mono HO_8.out (fun _ hk => ⟨hk.2, hk.1⟩)) hg hat); have n2_ := Aside0.mk (hb); have n3_ := Aside0.mk (ho); clear HO_7; clear HO_8; clear HB; clear HO_6; have HO_7 := n0_; have HO_8 := n1_; have HB := n2_; have HO139 := n3_; clear n0_ n1_ n2_ n3_; clear ho hb hg hat) | ((with_reducible refine gate_builtin (b := .append) (xs := #[.tmp 127, .tmp 130]) rfl ?_); (try (refine gate_guard (by rfl) ?_; dsimp only)); at_builtin; refine Kd.R_append (Kd.int .u8) (w0 := w) w.heap.size rfl (.tmp 127) (.tmp 130) 27 5 (.int .u8 0) 1 rfl Try.underlying27 info5 rfl (by decide) (by omega) v138 y137 ((a1) % 256) [_] (fun k_ => some k_ ≠ (u7 : Value).ownBlock ∧ some k_ ≠ (.slice Ao80 x8_2.length co80 : Value).ownBlock) (fun _ => False) rfl rfl ?aP (fun _ hk => hk.elim) ?aF ?aO ?aB ?aS ?aL ?_; (case aP => first | exact rfl | exact h_cell (by simp) | exact h_cell (by simp [*])); (case aB => exact (by repeat (first | (with_reducible first | exact HB.out | apply below_alloc | apply pw_below_drewN | apply below_drew1) | exact HB.out))); (case aF => exact (fun k_ hk => ⟨Kd.fresh' (Kd.R_lt (by (with_reducible repeat (first | apply Kd.R_alloc | apply Kd.R_drewN | apply Kd.R_drew)); exact HO_7.out)) k_ hk, Kd.fresh' (Kd.R_lt (by (with_reducible repeat (first | apply Kd.R_alloc | apply Kd.R_drewN | apply Kd.R_drew)); exact HO_8.out)) k_ hk⟩)); (case aO => exact (by (with_reducible repeat (first | apply Kd.R_alloc | apply Kd.R_drewN | apply Kd.R_drew)); exact HO139.out)); (case aS => exact (below_size (by repeat (first | (with_reducible first | exact HB.out | apply below_alloc | apply pw_below_drewN | apply below_drew1) | exact HB.out)))); (case aL => have := LMc77.out; omega); intro v141 w81 ho hb hg hat; rw [← Ny140.out] at ho; have n0_ := Aside0.mk (Kd.R_after (ok := (fun k_ => some k_ ≠ (.slice Ao80 x8_2.length co80 : Value).ownBlock)) (by (with_reducible repeat (first | apply Kd.R_alloc | apply Kd.R_drewN | apply Kd.R_drew)); exact HO_7.out) hg hat); have n1_ := Aside0.mk (Kd.R_after (ok := (fun k_ => some k_ ≠ (u7 : Value).ownBlock)) (by (with_reducible repeat (first | apply Kd.R_alloc | apply Kd.R_drewN | apply Kd.R_drew)); exact HO_8.out) hg hat); have n2_ := Aside0.mk (hb); have n3_ := Aside0.mk (ho); clear HO_7; clear HO_8; clear HB; clear HO139; have HO_7 := n0_; have HO_8 := n1_; have HB := n2_; have HO142 := n3_; clear n0_ n1_ n2_ n3_; clear ho hb hg hat; obtain ⟨Ao82, co82, eo82⟩ := Kd.R_slice HO142.out; subst eo82) | ((with_reducible refine gate_callee (f := 23) rfl ?_); refine goesL_ (some 133) rfl rfl Try.func23 (by kernel_rfl) rfl #[.slice Ao82 y140.length co82, .int .u64 x9_2, .int .i64 4] rfl (by (try simp only [List.map_toArray, List.map_cons, List.map_nil]); first | done | rfl | (simp only [List.length_drop, List.length_take]; rfl)) ?_; (with_reducible refine (codec_PutFixed.calls k2 _ _ y140 x9_2 4 t143 _ ?side1 ?side2 A78.out).mono ?_); (case side1 => repeat (first | exact (Kd.R_reads' HO142.out).2.2 | (with_reducible refine Kd.C_alloc ?_ _) | (with_reducible refine Kd.C_drewN ?_ _) | (with_reducible refine Kd.C_drew ?_))); (case side2 => exact (Kd.R_reads' HO142.out).2.1); rintro e w83 ⟨v144, rfl, ho0, hb⟩; refine ⟨_, rfl, ?_⟩; have n0_ := Aside0.mk (Kd.R_elder' (by (with_reducible repeat (first | apply Kd.R_alloc | apply Kd.R_drewN | apply Kd.R_drew)); exact HO_7.out) (Kd.R_base ho0) hb); have n1_ := Aside0.mk (Kd.R_elder' (by (with_reducible repeat (first | apply Kd.R_alloc | apply Kd.R_drewN | apply Kd.R_drew)); exact HO_8.out) (Kd.R_base ho0) hb); have n2_ := Aside0.mk (Kd.R_elder' (by (with_reducible repeat (first | apply Kd.R_alloc | apply Kd.R_drewN | apply Kd.R_drew)); exact HO142.out) (Kd.R_base ho0) hb); have n3_ := Aside0.mk (Kd.R_lower (Kd.R_new' (Kd.R_new' (Kd.R_new' ho0 (Kd.R_lt (by (with_reducible repeat (first | apply Kd.R_alloc | apply Kd.R_drewN | apply Kd.R_drew)); exact HO_7.out))) (Kd.R_lt (by (with_reducible repeat (first | apply Kd.R_alloc | apply Kd.R_drewN | apply Kd.R_drew)); exact HO_8.out))) (Kd.R_lt (by (with_reducible repeat (first | apply Kd.R_alloc | apply Kd.R_drewN | apply Kd.R_drew)); exact HO142.out))) (below_size (by repeat (first | (with_reducible first | exact HB.out | apply below_alloc | apply pw_below_drewN | apply below_drew1) | exact HB.out)))); have n4_ := Aside0.mk (below_step (by repeat (first | (with_reducible first | exact HB.out | apply below_alloc | apply pw_below_drewN | apply below_drew1) | exact HB.out)) hb); clear HO_7; clear HO_8; clear HO142; clear HB; have HO_7 := n0_; have HO_8 := n1_; have HO142 := n2_; have HO145 := n3_; have HB := n4_; clear n0_ n1_ n2_ n3_ n4_; (try clear hb); (try clear hb2); (try clear hk); (try clear hi); (try clear ho0)))
                  go_ret2
                  exact ⟨_, by first | rfl | (simp [errW_none, errW_some] <;> rfl) | (simp [*, errW_none, errW_some] <;> rfl), by (with_reducible repeat (first | apply Kd.R_alloc | apply Kd.R_drewN | apply Kd.R_drew)); exact Kd.R_mono HO145.out (fun _ hk => trivial), by repeat (first | (with_reducible first | exact HB.out | apply below_alloc | apply pw_below_drewN | apply below_drew1) | exact HB.out)⟩
                · rw [if_neg c77] at H
                  exact absurd H (by simp)
              · rw [if_neg c76] at H
                exact absurd H (by simp)

end Go.Proofs.Ythdemdjobgbpdaa.P
