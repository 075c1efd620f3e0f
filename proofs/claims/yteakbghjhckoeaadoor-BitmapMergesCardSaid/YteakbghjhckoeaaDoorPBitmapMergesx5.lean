/- The functions that a law uses, each as a plain function, with the proof that a call of the Go function comes to its answer. Condition of each: the arguments read as the data that it names, and the plain function has an answer. Written by a program of this session (standin.py). -/
import Derived.Test.YteakbghjhckoeaaDoorPBitmapMergesx0
import Derived.Test.YteakbghjhckoeaaDoorPBitmapMergesx1
import Derived.Test.YteakbghjhckoeaaDoorPBitmapMergesx3
import Derived.Test.YteakbghjhckoeaaDoorPBitmapMergesx4
import Derived.Test.YteakbghjhckoeaaDoorShort
import Derived.Lib.SliceRun
import Derived.Test.YteakbghjhckoeaaDoorTabs
import Derived.Test.YteakbghjhckoeaaDoorPress
namespace Go.Proofs.YteakbghjhckoeaaDoor.PBitmapMerges
open Go.RowKit Go.Proofs.YteakbghjhckoeaaDoorW.PrintWords Go.Proofs.YteakbghjhckoeaaDoorW.PrintLast Go.Proofs.YteakbghjhckoeaaDoorW.PrintMore Go.Proofs.YteakbghjhckoeaaDoor.Short Go.Proofs.YteakbghjhckoeaaDoor.Tabs Go.Proofs.YteakbghjhckoeaaDoor.Short Go.Proofs.YteakbghjhckoeaaDoor.Press
attribute [local go_sem] max2_int min2_int max_two min_two max_three min_three max_four min_four   -- for this text's walks alone
set_option linter.unusedVariables false
set_option linter.unusedSimpArgs false

/-! ### rillmeterlaw13_BitmapMerges: function 6 -/
mutual
def rillmeterlaw13_BitmapMerges.j0 : Nat → Bool → Int → List (List Bool) → Int → List (List Bool) → Int → List (List Bool) → Int → List (List Bool) → Option (Bool)
  | 0, _, _, _, _, _, _, _, _, _ => none
  | k + 1, x22, x213000, x213001, x214000, x214001, x223000, x223001, x224000, x224001 => if x22 = true then ((rillmeterlaw13_awake.f k).bind fun t226 => (some t226)) else ((bitmap_Merge.f k x213000 x213001 x214000 x214001).bind fun bt227 => ((rillmeterref13_Right.f k x223000 x223001).bind fun t233 => (if t233 = true then ((rillmeterref13_Right.f k x224000 x224001).bind fun t234 => (if t234 = true then (if x213000 = x214000 then (if (x213001.length : Int) = (x214001.length : Int) then (if 0 < (x213001.length : Int) then (if 0 < (x214001.length : Int) then (rillmeterlaw13_BitmapMerges.j1 k bt227.2.2 (((rd_L1 x213001 0).length : Int) != ((rd_L1 x214001 0).length : Int)) x213000 x213001 x214000 x214001 bt227.1 bt227.2.1) else (none)) else (none)) else (rillmeterlaw13_BitmapMerges.j1 k bt227.2.2 true x213000 x213001 x214000 x214001 bt227.1 bt227.2.1)) else (rillmeterlaw13_BitmapMerges.j1 k bt227.2.2 true x213000 x213001 x214000 x214001 bt227.1 bt227.2.1)) else (rillmeterlaw13_BitmapMerges.j1 k bt227.2.2 true x213000 x213001 x214000 x214001 bt227.1 bt227.2.1))) else (rillmeterlaw13_BitmapMerges.j1 k bt227.2.2 true x213000 x213001 x214000 x214001 bt227.1 bt227.2.1))))
def rillmeterlaw13_BitmapMerges.j1 : Nat → Int → Bool → Int → List (List Bool) → Int → List (List Bool) → Int → List (List Bool) → Option (Bool)
  | 0, _, _, _, _, _, _, _, _ => none
  | k + 1, x8, x66, x213000, x213001, x214000, x214001, x233000, x233001 => if x66 = true then (if x8 = 1 then (if (x233001.length : Int) = 0 then ((rillmeterlaw13_awake.f k).bind fun t237 => (some t237)) else (some false)) else (some false)) else (if (x233001.length : Int) = (x213001.length : Int) then (rillmeterlaw13_BitmapMerges.j2 k x8 (x233000 != x213000) x213000 x213001 x214000 x214001 x233000 x233001) else (rillmeterlaw13_BitmapMerges.j2 k x8 true x213000 x213001 x214000 x214001 x233000 x233001))
def rillmeterlaw13_BitmapMerges.j2 : Nat → Int → Bool → Int → List (List Bool) → Int → List (List Bool) → Int → List (List Bool) → Option (Bool)
  | 0, _, _, _, _, _, _, _, _ => none
  | k + 1, x8, x91, x213000, x213001, x214000, x214001, x233000, x233001 => if x91 = true then (some false) else (rillmeterlaw13_BitmapMerges.l0 k x8 (x233001.length : Int) 0 x213000 x213001 x214000 x214001 x233000 x233001)
def rillmeterlaw13_BitmapMerges.l0 : Nat → Int → Int → Int → Int → List (List Bool) → Int → List (List Bool) → Int → List (List Bool) → Option (Bool)
  | 0, _, _, _, _, _, _, _, _, _ => none
  | k + 1, x8, x94, x95, x213000, x213001, x214000, x214001, x233000, x233001 => if x95 < x94 then (if 0 ≤ x95 then (if x95 < (x233001.length : Int) then (if x95 < (x213001.length : Int) then (if ((rd_L1 x233001 x95).length : Int) = ((rd_L1 x213001 x95).length : Int) then (rillmeterlaw13_BitmapMerges.l1 k x8 x95 x94 x95 ((rd_L1 x233001 x95).length : Int) 0 x213000 x213001 x214000 x214001 x233000 x233001) else (some false)) else (none)) else (none)) else (none)) else (if x8 = 0 then ((rillmeterlaw13_awake.f k).bind fun t238 => (some t238)) else (some false))
def rillmeterlaw13_BitmapMerges.l1 : Nat → Int → Int → Int → Int → Int → Int → Int → List (List Bool) → Int → List (List Bool) → Int → List (List Bool) → Option (Bool)
  | 0, _, _, _, _, _, _, _, _, _, _, _, _ => none
  | k + 1, x8, x9, x94, x95, x116, x117, x213000, x213001, x214000, x214001, x233000, x233001 => if x117 < x116 then (if 0 ≤ x9 then (if x9 < (x233001.length : Int) then (if 0 ≤ x117 then (if x117 < ((rd_L1 x233001 x9).length : Int) then (if x9 < (x213001.length : Int) then (if x117 < ((rd_L1 x213001 x9).length : Int) then (if rdOf false (rd_L1 x213001 x9) x117 = true then (if ((rdOf false (rd_L1 x233001 x9) x117) != true) = true then (some false) else (rillmeterlaw13_BitmapMerges.l1 k x8 x9 x94 x95 x116 (wrap64 (x117 + 1)) x213000 x213001 x214000 x214001 x233000 x233001)) else (if x9 < (x214001.length : Int) then (if x117 < ((rd_L1 x214001 x9).length : Int) then (if ((rdOf false (rd_L1 x233001 x9) x117) != (rdOf false (rd_L1 x214001 x9) x117)) = true then (some false) else (rillmeterlaw13_BitmapMerges.l1 k x8 x9 x94 x95 x116 (wrap64 (x117 + 1)) x213000 x213001 x214000 x214001 x233000 x233001)) else (none)) else (none))) else (none)) else (none)) else (none)) else (none)) else (none)) else (none)) else (rillmeterlaw13_BitmapMerges.l0 k x8 x94 (wrap64 (x95 + 1)) x213000 x213001 x214000 x214001 x233000 x233001)
end
def rillmeterlaw13_BitmapMerges.f (k : Nat) (a0_0 : Int) (l0_1 : List (List Bool)) (a1_0 : Int) (l1_1 : List (List Bool)) : Option (Bool) := (rillmeterlaw13_ref.f a0_0 l0_1).bind fun bt214 => ((rillmeterlaw13_ref.f a1_0 l1_1).bind fun bt218 => ((rillmeterref13_Small.f k bt214.1 bt214.2).bind fun t224 => (if t224 = true then ((rillmeterref13_Small.f k bt218.1 bt218.2).bind fun t225 => (rillmeterlaw13_BitmapMerges.j0 k (!t225) a0_0 l0_1 a1_0 l1_1 bt214.1 bt214.2 bt218.1 bt218.2)) else (rillmeterlaw13_BitmapMerges.j0 k true a0_0 l0_1 a1_0 l1_1 bt214.1 bt214.2 bt218.1 bt218.2))))
theorem rillmeterlaw13_BitmapMerges.mono_l : ∀ k, (∀ y0 y1 y2 y3 y4 y5 y6 y7 y8, LeO (rillmeterlaw13_BitmapMerges.j0 k y0 y1 y2 y3 y4 y5 y6 y7 y8) (rillmeterlaw13_BitmapMerges.j0 (k + 1) y0 y1 y2 y3 y4 y5 y6 y7 y8)) ∧ (∀ y0 y1 y2 y3 y4 y5 y6 y7, LeO (rillmeterlaw13_BitmapMerges.j1 k y0 y1 y2 y3 y4 y5 y6 y7) (rillmeterlaw13_BitmapMerges.j1 (k + 1) y0 y1 y2 y3 y4 y5 y6 y7)) ∧ (∀ y0 y1 y2 y3 y4 y5 y6 y7, LeO (rillmeterlaw13_BitmapMerges.j2 k y0 y1 y2 y3 y4 y5 y6 y7) (rillmeterlaw13_BitmapMerges.j2 (k + 1) y0 y1 y2 y3 y4 y5 y6 y7)) ∧ (∀ y0 y1 y2 y3 y4 y5 y6 y7 y8, LeO (rillmeterlaw13_BitmapMerges.l0 k y0 y1 y2 y3 y4 y5 y6 y7 y8) (rillmeterlaw13_BitmapMerges.l0 (k + 1) y0 y1 y2 y3 y4 y5 y6 y7 y8)) ∧ (∀ y0 y1 y2 y3 y4 y5 y6 y7 y8 y9 y10 y11, LeO (rillmeterlaw13_BitmapMerges.l1 k y0 y1 y2 y3 y4 y5 y6 y7 y8 y9 y10 y11) (rillmeterlaw13_BitmapMerges.l1 (k + 1) y0 y1 y2 y3 y4 y5 y6 y7 y8 y9 y10 y11))
  | 0 => ⟨fun _ _ _ _ _ _ _ _ _ r h => by simp [rillmeterlaw13_BitmapMerges.j0] at h, fun _ _ _ _ _ _ _ _ r h => by simp [rillmeterlaw13_BitmapMerges.j1] at h, fun _ _ _ _ _ _ _ _ r h => by simp [rillmeterlaw13_BitmapMerges.j2] at h, fun _ _ _ _ _ _ _ _ _ r h => by simp [rillmeterlaw13_BitmapMerges.l0] at h, fun _ _ _ _ _ _ _ _ _ _ _ _ r h => by simp [rillmeterlaw13_BitmapMerges.l1] at h⟩
  | k + 1 => by
    obtain ⟨ih0, ih1, ih2, ih3, ih4⟩ := rillmeterlaw13_BitmapMerges.mono_l k
    refine ⟨?_, ?_, ?_, ?_, ?_⟩
    · intro y0 y1 y2 y3 y4 y5 y6 y7 y8
      unfold rillmeterlaw13_BitmapMerges.j0
      repeat' first
      | (with_reducible exact ih0 _ _ _ _ _ _ _ _ _)
      | (with_reducible exact ih1 _ _ _ _ _ _ _ _)
      | (with_reducible exact ih2 _ _ _ _ _ _ _ _)
      | (with_reducible exact ih3 _ _ _ _ _ _ _ _ _)
      | (with_reducible exact ih4 _ _ _ _ _ _ _ _ _ _ _ _)
      | (with_reducible exact bitmap_Merge.mono _ _ _ _ _)
      | (with_reducible exact rillmeterlaw13_awake.mono _)
      | (with_reducible exact rillmeterref13_Right.mono _ _ _)
      | (with_reducible exact rillmeterref13_Small.mono _ _ _)
      | (with_reducible exact LeO.refl _)
      | (with_reducible exact LeO.none _)
      | (with_reducible refine LeO.ite ?_ ?_)
      | (with_reducible refine LeO.bind ?_ (fun _ => ?_))
      | exact ih0 _ _ _ _ _ _ _ _ _
      | exact ih1 _ _ _ _ _ _ _ _
      | exact ih2 _ _ _ _ _ _ _ _
      | exact ih3 _ _ _ _ _ _ _ _ _
      | exact ih4 _ _ _ _ _ _ _ _ _ _ _ _
      | exact bitmap_Merge.mono _ _ _ _ _
      | exact rillmeterlaw13_awake.mono _
      | exact rillmeterref13_Right.mono _ _ _
      | exact rillmeterref13_Small.mono _ _ _
      | exact LeO.none _
      | refine LeO.ite ?_ ?_
      | refine LeO.bind ?_ (fun _ => ?_)
    · intro y0 y1 y2 y3 y4 y5 y6 y7
      unfold rillmeterlaw13_BitmapMerges.j1
      repeat' first
      | (with_reducible exact ih0 _ _ _ _ _ _ _ _ _)
      | (with_reducible exact ih1 _ _ _ _ _ _ _ _)
      | (with_reducible exact ih2 _ _ _ _ _ _ _ _)
      | (with_reducible exact ih3 _ _ _ _ _ _ _ _ _)
      | (with_reducible exact ih4 _ _ _ _ _ _ _ _ _ _ _ _)
      | (with_reducible exact bitmap_Merge.mono _ _ _ _ _)
      | (with_reducible exact rillmeterlaw13_awake.mono _)
      | (with_reducible exact rillmeterref13_Right.mono _ _ _)
      | (with_reducible exact rillmeterref13_Small.mono _ _ _)
      | (with_reducible exact LeO.refl _)
      | (with_reducible exact LeO.none _)
      | (with_reducible refine LeO.ite ?_ ?_)
      | (with_reducible refine LeO.bind ?_ (fun _ => ?_))
      | exact ih0 _ _ _ _ _ _ _ _ _
      | exact ih1 _ _ _ _ _ _ _ _
      | exact ih2 _ _ _ _ _ _ _ _
      | exact ih3 _ _ _ _ _ _ _ _ _
      | exact ih4 _ _ _ _ _ _ _ _ _ _ _ _
      | exact bitmap_Merge.mono _ _ _ _ _
      | exact rillmeterlaw13_awake.mono _
      | exact rillmeterref13_Right.mono _ _ _
      | exact rillmeterref13_Small.mono _ _ _
      | exact LeO.none _
      | refine LeO.ite ?_ ?_
      | refine LeO.bind ?_ (fun _ => ?_)
    · intro y0 y1 y2 y3 y4 y5 y6 y7
      unfold rillmeterlaw13_BitmapMerges.j2
      repeat' first
      | (with_reducible exact ih0 _ _ _ _ _ _ _ _ _)
      | (with_reducible exact ih1 _ _ _ _ _ _ _ _)
      | (with_reducible exact ih2 _ _ _ _ _ _ _ _)
      | (with_reducible exact ih3 _ _ _ _ _ _ _ _ _)
      | (with_reducible exact ih4 _ _ _ _ _ _ _ _ _ _ _ _)
      | (with_reducible exact bitmap_Merge.mono _ _ _ _ _)
      | (with_reducible exact rillmeterlaw13_awake.mono _)
      | (with_reducible exact rillmeterref13_Right.mono _ _ _)
      | (with_reducible exact rillmeterref13_Small.mono _ _ _)
      | (with_reducible exact LeO.refl _)
      | (with_reducible exact LeO.none _)
      | (with_reducible refine LeO.ite ?_ ?_)
      | (with_reducible refine LeO.bind ?_ (fun _ => ?_))
      | exact ih0 _ _ _ _ _ _ _ _ _
      | exact ih1 _ _ _ _ _ _ _ _
      | exact ih2 _ _ _ _ _ _ _ _
      | exact ih3 _ _ _ _ _ _ _ _ _
      | exact ih4 _ _ _ _ _ _ _ _ _ _ _ _
      | exact bitmap_Merge.mono _ _ _ _ _
      | exact rillmeterlaw13_awake.mono _
      | exact rillmeterref13_Right.mono _ _ _
      | exact rillmeterref13_Small.mono _ _ _
      | exact LeO.none _
      | refine LeO.ite ?_ ?_
      | refine LeO.bind ?_ (fun _ => ?_)
    · intro y0 y1 y2 y3 y4 y5 y6 y7 y8
      unfold rillmeterlaw13_BitmapMerges.l0
      repeat' first
      | (with_reducible exact ih0 _ _ _ _ _ _ _ _ _)
      | (with_reducible exact ih1 _ _ _ _ _ _ _ _)
      | (with_reducible exact ih2 _ _ _ _ _ _ _ _)
      | (with_reducible exact ih3 _ _ _ _ _ _ _ _ _)
      | (with_reducible exact ih4 _ _ _ _ _ _ _ _ _ _ _ _)
      | (with_reducible exact bitmap_Merge.mono _ _ _ _ _)
      | (with_reducible exact rillmeterlaw13_awake.mono _)
      | (with_reducible exact rillmeterref13_Right.mono _ _ _)
      | (with_reducible exact rillmeterref13_Small.mono _ _ _)
      | (with_reducible exact LeO.refl _)
      | (with_reducible exact LeO.none _)
      | (with_reducible refine LeO.ite ?_ ?_)
      | (with_reducible refine LeO.bind ?_ (fun _ => ?_))
      | exact ih0 _ _ _ _ _ _ _ _ _
      | exact ih1 _ _ _ _ _ _ _ _
      | exact ih2 _ _ _ _ _ _ _ _
      | exact ih3 _ _ _ _ _ _ _ _ _
      | exact ih4 _ _ _ _ _ _ _ _ _ _ _ _
      | exact bitmap_Merge.mono _ _ _ _ _
      | exact rillmeterlaw13_awake.mono _
      | exact rillmeterref13_Right.mono _ _ _
      | exact rillmeterref13_Small.mono _ _ _
      | exact LeO.none _
      | refine LeO.ite ?_ ?_
      | refine LeO.bind ?_ (fun _ => ?_)
    · intro y0 y1 y2 y3 y4 y5 y6 y7 y8 y9 y10 y11
      unfold rillmeterlaw13_BitmapMerges.l1
      repeat' first
      | (with_reducible exact ih0 _ _ _ _ _ _ _ _ _)
      | (with_reducible exact ih1 _ _ _ _ _ _ _ _)
      | (with_reducible exact ih2 _ _ _ _ _ _ _ _)
      | (with_reducible exact ih3 _ _ _ _ _ _ _ _ _)
      | (with_reducible exact ih4 _ _ _ _ _ _ _ _ _ _ _ _)
      | (with_reducible exact bitmap_Merge.mono _ _ _ _ _)
      | (with_reducible exact rillmeterlaw13_awake.mono _)
      | (with_reducible exact rillmeterref13_Right.mono _ _ _)
      | (with_reducible exact rillmeterref13_Small.mono _ _ _)
      | (with_reducible exact LeO.refl _)
      | (with_reducible exact LeO.none _)
      | (with_reducible refine LeO.ite ?_ ?_)
      | (with_reducible refine LeO.bind ?_ (fun _ => ?_))
      | exact ih0 _ _ _ _ _ _ _ _ _
      | exact ih1 _ _ _ _ _ _ _ _
      | exact ih2 _ _ _ _ _ _ _ _
      | exact ih3 _ _ _ _ _ _ _ _ _
      | exact ih4 _ _ _ _ _ _ _ _ _ _ _ _
      | exact bitmap_Merge.mono _ _ _ _ _
      | exact rillmeterlaw13_awake.mono _
      | exact rillmeterref13_Right.mono _ _ _
      | exact rillmeterref13_Small.mono _ _ _
      | exact LeO.none _
      | refine LeO.ite ?_ ?_
      | refine LeO.bind ?_ (fun _ => ?_)
theorem rillmeterlaw13_BitmapMerges.mono : ∀ a0 a1 a2 a3 k, LeO (rillmeterlaw13_BitmapMerges.f k a0 a1 a2 a3) (rillmeterlaw13_BitmapMerges.f (k + 1) a0 a1 a2 a3) := by
  intro a0 a1 a2 a3 k
  obtain ⟨ih0, ih1, ih2, ih3, ih4⟩ := rillmeterlaw13_BitmapMerges.mono_l k
  unfold rillmeterlaw13_BitmapMerges.f
  repeat' first
      | (with_reducible exact ih0 _ _ _ _ _ _ _ _ _)
      | (with_reducible exact ih1 _ _ _ _ _ _ _ _)
      | (with_reducible exact ih2 _ _ _ _ _ _ _ _)
      | (with_reducible exact ih3 _ _ _ _ _ _ _ _ _)
      | (with_reducible exact ih4 _ _ _ _ _ _ _ _ _ _ _ _)
      | (with_reducible exact bitmap_Merge.mono _ _ _ _ _)
      | (with_reducible exact rillmeterlaw13_awake.mono _)
      | (with_reducible exact rillmeterref13_Right.mono _ _ _)
      | (with_reducible exact rillmeterref13_Small.mono _ _ _)
      | (with_reducible exact LeO.refl _)
      | (with_reducible exact LeO.none _)
      | (with_reducible refine LeO.ite ?_ ?_)
      | (with_reducible refine LeO.bind ?_ (fun _ => ?_))
      | exact ih0 _ _ _ _ _ _ _ _ _
      | exact ih1 _ _ _ _ _ _ _ _
      | exact ih2 _ _ _ _ _ _ _ _
      | exact ih3 _ _ _ _ _ _ _ _ _
      | exact ih4 _ _ _ _ _ _ _ _ _ _ _ _
      | exact bitmap_Merge.mono _ _ _ _ _
      | exact rillmeterlaw13_awake.mono _
      | exact rillmeterref13_Right.mono _ _ _
      | exact rillmeterref13_Small.mono _ _ _
      | exact LeO.none _
      | refine LeO.ite ?_ ?_
      | refine LeO.bind ?_ (fun _ => ?_)
def rillmeterlaw13_BitmapMerges.T1 : Bool × List (List Nat × List Nat) := (true, [([], []), ([0], [0]), ([], []), ([2, 1], [2]), ([], []), ([], []), ([4, 1, 3, 0, 1, 4, 5], [1, 4]), ([5, 3, 6, 0, 1, 2, 3, 4, 5, 6], [3, 5])])
def rillmeterlaw13_BitmapMerges.B1 : List Nat := [0, 1, 0, 7, 0, 0, 63, 127]
theorem rillmeterlaw13_BitmapMerges.tab1 : rtab .any (opsOf Tryd.f6 1) = rillmeterlaw13_BitmapMerges.T1 := by kernel_rfl
theorem rillmeterlaw13_BitmapMerges.bits1 : waitsOk rillmeterlaw13_BitmapMerges.T1.2 rillmeterlaw13_BitmapMerges.B1 = true := by kernel_rfl
def rillmeterlaw13_BitmapMerges.T5 : Bool × List (List Nat × List Nat) := (true, [([], []), ([0], [0]), ([1], [1]), ([2, 1], [2]), ([3], [3]), ([4, 3, 3], [3, 4]), ([5, 3], [3, 5]), ([3, 6], [3, 6]), ([7, 5], [7]), ([8], [8]), ([9, 8], [8, 9]), ([8], [8]), ([11, 8], [8, 11]), ([10, 12, 8], [8, 10, 12]), ([8, 13], [8, 13]), ([14, 8], [14]), ([15], [15]), ([16, 15], [15, 16]), ([17, 15], [15, 17]), ([15], [15]), ([19, 15], [15, 19]), ([20, 15], [15, 20]), ([18, 21, 15], [15, 18, 21]), ([15, 22], [15, 22]), ([23, 15], [23]), ([24], [24]), ([25, 24], [24, 25]), ([26, 24], [24, 26]), ([27, 24], [24, 27]), ([28, 24], [24, 28]), ([24], [24]), ([30, 24], [24, 30]), ([31, 24], [24, 31]), ([32, 24], [24, 32]), ([33, 24], [24, 33]), ([29, 34, 24], [24, 29, 34]), ([24, 35], [24, 35])])
def rillmeterlaw13_BitmapMerges.B5 : List Nat := [0, 1, 3, 7, 15, 31, 63, 127, 255, 511, 1023, 511, 2559, 8191, 16383, 32767, 65535, 131071, 262143, 65535, 589823, 1638399, 4194303, 8388607, 16777215, 33554431, 67108863, 134217727, 268435455, 536870911, 33554431, 1107296255, 3254779903, 7549747199, 16139681791, 34359738367, 68719476735]
theorem rillmeterlaw13_BitmapMerges.tab5 : rtab .any (opsOf Tryd.f6 5) = rillmeterlaw13_BitmapMerges.T5 := by kernel_rfl
theorem rillmeterlaw13_BitmapMerges.bits5 : waitsOk rillmeterlaw13_BitmapMerges.T5.2 rillmeterlaw13_BitmapMerges.B5 = true := by kernel_rfl
def rillmeterlaw13_BitmapMerges.T12 : Bool × List (List Nat × List Nat) := (true, [([], []), ([0], [0]), ([], []), ([1, 2], [1, 2]), ([3], [3]), ([4], [4]), ([], []), ([6], [6]), ([], []), ([7, 8], [7, 8]), ([9], [9]), ([10], [10]), ([5, 11], [5, 11])])
def rillmeterlaw13_BitmapMerges.B12 : List Nat := [0, 1, 0, 7, 15, 31, 0, 64, 0, 448, 960, 1984, 4095]
theorem rillmeterlaw13_BitmapMerges.tab12 : rtab .any (opsOf Tryd.f6 12) = rillmeterlaw13_BitmapMerges.T12 := by kernel_rfl
theorem rillmeterlaw13_BitmapMerges.bits12 : waitsOk rillmeterlaw13_BitmapMerges.T12.2 rillmeterlaw13_BitmapMerges.B12 = true := by kernel_rfl
def rillmeterlaw13_BitmapMerges.T17 : Bool × List (List Nat × List Nat) := (true, [([], []), ([0], [0]), ([], []), ([1, 2], [1, 2]), ([3], [3]), ([], []), ([4, 5], [4, 5]), ([6], [6]), ([], []), ([8], [8]), ([], []), ([9, 10], [9, 10]), ([11], [11]), ([], []), ([12, 13], [12, 13]), ([14], [14]), ([15], [15]), ([16], [16]), ([17, 16], [16, 17]), ([16], [16]), ([18, 19, 16], [16, 18, 19]), ([20, 16], [16, 20]), ([16], [16]), ([21, 22, 16], [16, 21, 22]), ([23, 16], [16, 23]), ([16, 24], [16, 24]), ([7, 25], [7, 25])])
def rillmeterlaw13_BitmapMerges.B17 : List Nat := [0, 1, 0, 7, 15, 0, 63, 127, 0, 256, 0, 1792, 3840, 0, 16128, 32512, 65280, 130816, 261888, 130816, 1048320, 2096896, 130816, 8388352, 16776960, 33554176, 67108863]
theorem rillmeterlaw13_BitmapMerges.tab17 : rtab .any (opsOf Tryd.f6 17) = rillmeterlaw13_BitmapMerges.T17 := by kernel_rfl
theorem rillmeterlaw13_BitmapMerges.bits17 : waitsOk rillmeterlaw13_BitmapMerges.T17.2 rillmeterlaw13_BitmapMerges.B17 = true := by kernel_rfl
set_option maxHeartbeats 80000000 in
set_option maxRecDepth 100000 in
theorem rillmeterlaw13_BitmapMerges.calls (k : Nat) (a0_0 : Int) (A0_1 : Option Addr) (c0_1 : Nat) (l0_1 : List (List Bool)) (a1_0 : Int) (A1_1 : Option Addr) (c1_1 : Nat) (l1_1 : List (List Bool)) (r : Bool) (w : World) (hr0_1 : Kd.C (Kd.slice 4 Kd.bool) w A0_1 l0_1.length l0_1) (hc0_1 : l0_1.length ≤ c0_1) (hr1_1 : Kd.C (Kd.slice 4 Kd.bool) w A1_1 l1_1.length l1_1) (hc1_1 : l1_1.length ≤ c1_1) (h : rillmeterlaw13_BitmapMerges.f k a0_0 l0_1 a1_0 l1_1 = some r) (hrt : Aside0 (r = true)) (HT0 : Aside0 (Tab w)) :
    Calls Tryd.prog 6 #[.agg #[.int .u64 a0_0, .slice A0_1 l0_1.length c0_1], .agg #[.int .u64 a1_0, .slice A1_1 l1_1.length c1_1]] w fun e w' => e = .returned (.bool r) ∧ Below w.heap.size w w' := by
 have hu25 := Tryd.underlying25; have hu30 := Tryd.underlying30; have HR0_1 := Aside0.mk hr0_1; have HC0_1 := Aside0.mk hc0_1; clear hr0_1 hc0_1; have HR1_1 := Aside0.mk hr1_1; have HC1_1 := Aside0.mk hc1_1; clear hr1_1 hc1_1; have HB := Aside0.mk (Below.refl w.heap.size w); have H : ((rillmeterlaw13_ref.f a0_0 l0_1).bind fun bt214 => ((rillmeterlaw13_ref.f a1_0 l1_1).bind fun bt218 => ((rillmeterref13_Small.f k bt214.1 bt214.2).bind fun t224 => (if t224 = true then ((rillmeterref13_Small.f k bt218.1 bt218.2).bind fun t225 => (rillmeterlaw13_BitmapMerges.j0 k (!t225) a0_0 l0_1 a1_0 l1_1 bt214.1 bt214.2 bt218.1 bt218.2)) else (rillmeterlaw13_BitmapMerges.j0 k true a0_0 l0_1 a1_0 l1_1 bt214.1 bt214.2 bt218.1 bt218.2))))) = some r := h; clear h; replace H := Option.bind_eq_some_iff.mp H; obtain ⟨⟨t214, t215⟩, A30, H⟩ := H; replace H : ((rillmeterlaw13_ref.f a1_0 l1_1).bind fun bt218 => ((rillmeterref13_Small.f k t214 t215).bind fun t224 => (if t224 = true then ((rillmeterref13_Small.f k bt218.1 bt218.2).bind fun t225 => (rillmeterlaw13_BitmapMerges.j0 k (!t225) a0_0 l0_1 a1_0 l1_1 t214 t215 bt218.1 bt218.2)) else (rillmeterlaw13_BitmapMerges.j0 k true a0_0 l0_1 a1_0 l1_1 t214 t215 bt218.1 bt218.2)))) = some r := H; have A3 := Aside0.mk A30; clear A30; replace H := Option.bind_eq_some_iff.mp H; obtain ⟨⟨t218, t219⟩, A40, H⟩ := H
 replace H : ((rillmeterref13_Small.f k t214 t215).bind fun t224 => (if t224 = true then ((rillmeterref13_Small.f k t218 t219).bind fun t225 => (rillmeterlaw13_BitmapMerges.j0 k (!t225) a0_0 l0_1 a1_0 l1_1 t214 t215 t218 t219)) else (rillmeterlaw13_BitmapMerges.j0 k true a0_0 l0_1 a1_0 l1_1 t214 t215 t218 t219))) = some r := H; have A4 := Aside0.mk A40; clear A40; have HC5 := Aside0.mk H; clear H
 go_enter Tryd.func6, Tryd.ntmps6
 try go_wp2_with (first | ((with_reducible refine gate_dst (N := 2) rfl ?_); (try (refine gate_guard (by rfl) ?_; dsimp only)); refine box_event ?hg (N := 2) ?hd (cs := #[.int .u64 a0_0, .slice A0_1 l0_1.length c0_1]) (t := 25) ?hr ?_; (case hd => rfl); (case hg => rfl); (case hr => first | (go_simp; done) | (go_simp; rfl)); intro gb212 hg w6 hbox hb; have n0_ := Aside0.mk (below_step (bl_ HB) hb); have n1_ := Aside0.mk (hbox); have n2_ := Aside0.mk (gl_ hg HB); have n3_ := Aside0.mk (gl_ hg HB); clear HB; have HB := n0_; have BK212 := n1_; have GW212 := n2_; have GE212 := n3_; clear n0_ n1_ n2_ n3_; clear hb hbox hg) | ((with_reducible refine gate_dst (N := 3) rfl ?_); (try (refine gate_guard (by rfl) ?_; dsimp only)); refine box_event ?hg (N := 3) ?hd (cs := #[.int .u64 a1_0, .slice A1_1 l1_1.length c1_1]) (t := 25) ?hr ?_; (case hd => rfl); (case hg => rfl); (case hr => first | (go_simp; done) | (go_simp; rfl)); intro gb213 hg w7 hbox hb; have n0_ := Aside0.mk (blk_below (bk_ BK212) hb); have n1_ := Aside0.mk (below_step (bl_ HB) hb); have n2_ := Aside0.mk (hbox); have n3_ := Aside0.mk (gl_ hg HB); have n4_ := Aside0.mk (gl_ hg HB); have n5_ := Aside0.mk (nl_ hg BK212); have n6_ := Aside0.mk (ng_ hg BK212); clear BK212; clear HB; have BK212 := n0_; have HB := n1_; have BK213 := n2_; have GW213 := n3_; have GE213 := n4_; have NB212_213 := n5_; have NB213_212 := n6_; clear n0_ n1_ n2_ n3_ n4_ n5_ n6_; clear hb hbox hg))
 replace BK212 := Aside0.mk (blk_drew BK212.out); replace BK213 := Aside0.mk (blk_drew BK213.out); replace HB := Aside0.mk (below_drew1 HB.out); refine start_ (n := 8) (S := fun w' => w'.cell? ⟨gb212, 0, none⟩ = some (.int .u64 a0_0) ∧ w'.cell? ⟨gb212, 1, none⟩ = some (.slice A0_1 l0_1.length c0_1) ∧ w'.cell? ⟨gb213, 0, none⟩ = some (.int .u64 a1_0) ∧ w'.cell? ⟨gb213, 1, none⟩ = some (.slice A1_1 l1_1.length c1_1)) (ds := []) (mB 8 0) (by kernel_rfl) rfl rfl ⟨(blk_cell BK212.out 0).trans rfl, (blk_cell BK212.out 1).trans rfl, (blk_cell BK213.out 0).trans rfl, (blk_cell BK213.out 1).trans rfl⟩ (fun hHeld => ?_); refine with_tabW rillmeterlaw13_BitmapMerges.tab1 rillmeterlaw13_BitmapMerges.bits1 (fun HT_ HW_ => ?_); generalize w7.drew = w8 at BK212 BK213 HB hHeld ⊢; refine take_ (i := 0) (N := some 11) (v := ?_) (a' := ?_) (mB 8 1) rfl rfl (take_ofW HT_.out HW_.out (by kernel_rfl)) (fun _ _ _ h => h) (Or.inl ⟨by rfl, ?_⟩) hHeld ?_ ?_; rotate_left
 ·rintro w' ⟨s0, s1, s2, s3⟩; go_simp; with_reducible rfl
 rotate_left
 ·simp only [Act.put, sa_, sb_, sc_, i64_w, i32_w]; rfl
 refine take_ (i := 2) (N := some 13) (v := ?_) (a' := ?_) (mB 8 5) rfl rfl (take_ofW HT_.out HW_.out (by kernel_rfl)) (fun _ _ _ h => h) (Or.inl ⟨by rfl, ?_⟩) hHeld ?_ ?_; rotate_left
 ·rintro w' ⟨s0, s1, s2, s3⟩; go_simp; with_reducible rfl
 rotate_left
 ·simp only [Act.put, sa_, sb_, sc_, i64_w, i32_w]; rfl
 refine join_ (σ := Value × Value × Nat × Nat) 2 (mB 8 63) (fun s_ => [(12, .agg #[.int .u64 t214, s_.1]), (14, .agg #[.int .u64 t218, s_.2.1]), (5, .pointer (some ⟨s_.2.2.1, 0, none⟩)), (6, .pointer (some ⟨s_.2.2.2, 0, none⟩))]) (fun s_ w' => (w'.cell? ⟨gb212, 0, none⟩ = some (.int .u64 a0_0) ∧ w'.cell? ⟨gb212, 1, none⟩ = some (.slice A0_1 l0_1.length c0_1) ∧ w'.cell? ⟨gb213, 0, none⟩ = some (.int .u64 a1_0) ∧ w'.cell? ⟨gb213, 1, none⟩ = some (.slice A1_1 l1_1.length c1_1)) ∧ (Kd.V (Kd.slice 4 Kd.bool) 33 w' w.heap.size (fun k_ => k_ ≠ gb212 ∧ k_ ≠ gb213 ∧ k_ ≠ s_.2.2.1 ∧ k_ ≠ s_.2.2.2) s_.1 t215) ∧ (Kd.V (Kd.slice 4 Kd.bool) 33 w' w.heap.size (fun k_ => k_ ≠ gb212 ∧ k_ ≠ gb213 ∧ k_ ≠ s_.2.2.1 ∧ k_ ≠ s_.2.2.2) s_.2.1 t219) ∧ (w'.heap[gb212]? = some (.cells #[.int .u64 a0_0, .slice A0_1 l0_1.length c0_1] 25 (0, 0))) ∧ (w'.heap[gb213]? = some (.cells #[.int .u64 a1_0, .slice A1_1 l1_1.length c1_1] 25 (0, 0))) ∧ (w'.heap[s_.2.2.1]? = some (.cells #[.int .u64 0, .slice none 0 0] 30 (0, 0))) ∧ (w'.heap[s_.2.2.2]? = some (.cells #[.int .u64 0, .slice none 0 0] 30 (0, 0))) ∧ (w.heap.size ≤ s_.2.2.1) ∧ (w.heap.size ≤ s_.2.2.1) ∧ (gb212 ≠ s_.2.2.1) ∧ (s_.2.2.1 ≠ gb212) ∧ (gb213 ≠ s_.2.2.1) ∧ (s_.2.2.1 ≠ gb213) ∧ (s_.2.2.2 ≠ s_.2.2.1) ∧ (s_.2.2.1 ≠ s_.2.2.2) ∧ (w.heap.size ≤ s_.2.2.2) ∧ (w.heap.size ≤ s_.2.2.2) ∧ (gb212 ≠ s_.2.2.2) ∧ (s_.2.2.2 ≠ gb212) ∧ (gb213 ≠ s_.2.2.2) ∧ (s_.2.2.2 ≠ gb213) ∧ (Below w.heap.size w w')) ?_ ?_; rotate_left
 ·intro hJ1_3_4_5; refine join_ (σ := Value × Value × Nat) 3 (mB 8 31) (fun s_ => [(12, .agg #[.int .u64 t214, s_.1]), (14, .agg #[.int .u64 t218, s_.2.1]), (5, .pointer (some ⟨s_.2.2, 0, none⟩))]) (fun s_ w' => (w'.cell? ⟨gb212, 0, none⟩ = some (.int .u64 a0_0) ∧ w'.cell? ⟨gb212, 1, none⟩ = some (.slice A0_1 l0_1.length c0_1) ∧ w'.cell? ⟨gb213, 0, none⟩ = some (.int .u64 a1_0) ∧ w'.cell? ⟨gb213, 1, none⟩ = some (.slice A1_1 l1_1.length c1_1)) ∧ (Kd.V (Kd.slice 4 Kd.bool) 33 w' w.heap.size (fun k_ => k_ ≠ gb212 ∧ k_ ≠ gb213 ∧ k_ ≠ s_.2.2) s_.1 t215) ∧ (Kd.V (Kd.slice 4 Kd.bool) 33 w' w.heap.size (fun k_ => k_ ≠ gb212 ∧ k_ ≠ gb213 ∧ k_ ≠ s_.2.2) s_.2.1 t219) ∧ (w'.heap[gb212]? = some (.cells #[.int .u64 a0_0, .slice A0_1 l0_1.length c0_1] 25 (0, 0))) ∧ (w'.heap[gb213]? = some (.cells #[.int .u64 a1_0, .slice A1_1 l1_1.length c1_1] 25 (0, 0))) ∧ (w'.heap[s_.2.2]? = some (.cells #[.int .u64 0, .slice none 0 0] 30 (0, 0))) ∧ (w.heap.size ≤ s_.2.2) ∧ (w.heap.size ≤ s_.2.2) ∧ (gb212 ≠ s_.2.2) ∧ (s_.2.2 ≠ gb212) ∧ (gb213 ≠ s_.2.2) ∧ (s_.2.2 ≠ gb213) ∧ (Below w.heap.size w w')) ?_ ?_; rotate_left
  ·intro hJ1_3_4; refine join_ (σ := Value × Value × Nat) 3 (mB 8 47) (fun s_ => [(12, .agg #[.int .u64 t214, s_.1]), (14, .agg #[.int .u64 t218, s_.2.1]), (6, .pointer (some ⟨s_.2.2, 0, none⟩))]) (fun s_ w' => (w'.cell? ⟨gb212, 0, none⟩ = some (.int .u64 a0_0) ∧ w'.cell? ⟨gb212, 1, none⟩ = some (.slice A0_1 l0_1.length c0_1) ∧ w'.cell? ⟨gb213, 0, none⟩ = some (.int .u64 a1_0) ∧ w'.cell? ⟨gb213, 1, none⟩ = some (.slice A1_1 l1_1.length c1_1)) ∧ (Kd.V (Kd.slice 4 Kd.bool) 33 w' w.heap.size (fun k_ => k_ ≠ gb212 ∧ k_ ≠ gb213 ∧ k_ ≠ s_.2.2) s_.1 t215) ∧ (Kd.V (Kd.slice 4 Kd.bool) 33 w' w.heap.size (fun k_ => k_ ≠ gb212 ∧ k_ ≠ gb213 ∧ k_ ≠ s_.2.2) s_.2.1 t219) ∧ (w'.heap[gb212]? = some (.cells #[.int .u64 a0_0, .slice A0_1 l0_1.length c0_1] 25 (0, 0))) ∧ (w'.heap[gb213]? = some (.cells #[.int .u64 a1_0, .slice A1_1 l1_1.length c1_1] 25 (0, 0))) ∧ (w'.heap[s_.2.2]? = some (.cells #[.int .u64 0, .slice none 0 0] 30 (0, 0))) ∧ (w.heap.size ≤ s_.2.2) ∧ (w.heap.size ≤ s_.2.2) ∧ (gb212 ≠ s_.2.2) ∧ (s_.2.2 ≠ gb212) ∧ (gb213 ≠ s_.2.2) ∧ (s_.2.2 ≠ gb213) ∧ (Below w.heap.size w w')) ?_ ?_; rotate_left
   ·intro hJ1_3_5; refine join_ (σ := Value × Nat × Nat) 3 (mB 8 55) (fun s_ => [(12, .agg #[.int .u64 t214, s_.1]), (5, .pointer (some ⟨s_.2.1, 0, none⟩)), (6, .pointer (some ⟨s_.2.2, 0, none⟩))]) (fun s_ w' => (w'.cell? ⟨gb212, 0, none⟩ = some (.int .u64 a0_0) ∧ w'.cell? ⟨gb212, 1, none⟩ = some (.slice A0_1 l0_1.length c0_1) ∧ w'.cell? ⟨gb213, 0, none⟩ = some (.int .u64 a1_0) ∧ w'.cell? ⟨gb213, 1, none⟩ = some (.slice A1_1 l1_1.length c1_1)) ∧ (Kd.V (Kd.slice 4 Kd.bool) 33 w' w.heap.size (fun k_ => k_ ≠ gb212 ∧ k_ ≠ gb213 ∧ k_ ≠ s_.2.1 ∧ k_ ≠ s_.2.2) s_.1 t215) ∧ (w'.heap[gb212]? = some (.cells #[.int .u64 a0_0, .slice A0_1 l0_1.length c0_1] 25 (0, 0))) ∧ (w'.heap[gb213]? = some (.cells #[.int .u64 a1_0, .slice A1_1 l1_1.length c1_1] 25 (0, 0))) ∧ (w'.heap[s_.2.1]? = some (.cells #[.int .u64 0, .slice none 0 0] 30 (0, 0))) ∧ (w'.heap[s_.2.2]? = some (.cells #[.int .u64 0, .slice none 0 0] 30 (0, 0))) ∧ (w.heap.size ≤ s_.2.1) ∧ (w.heap.size ≤ s_.2.1) ∧ (gb212 ≠ s_.2.1) ∧ (s_.2.1 ≠ gb212) ∧ (gb213 ≠ s_.2.1) ∧ (s_.2.1 ≠ gb213) ∧ (s_.2.2 ≠ s_.2.1) ∧ (s_.2.1 ≠ s_.2.2) ∧ (w.heap.size ≤ s_.2.2) ∧ (w.heap.size ≤ s_.2.2) ∧ (gb212 ≠ s_.2.2) ∧ (s_.2.2 ≠ gb212) ∧ (gb213 ≠ s_.2.2) ∧ (s_.2.2 ≠ gb213) ∧ (Below w.heap.size w w')) ?_ ?_; rotate_left
    ·intro hJ1_4_5; refine join_ (σ := Value × Value) 4 (mB 8 15) (fun s_ => [(12, .agg #[.int .u64 t214, s_.1]), (14, .agg #[.int .u64 t218, s_.2])]) (fun s_ w' => (w'.cell? ⟨gb212, 0, none⟩ = some (.int .u64 a0_0) ∧ w'.cell? ⟨gb212, 1, none⟩ = some (.slice A0_1 l0_1.length c0_1) ∧ w'.cell? ⟨gb213, 0, none⟩ = some (.int .u64 a1_0) ∧ w'.cell? ⟨gb213, 1, none⟩ = some (.slice A1_1 l1_1.length c1_1)) ∧ (Kd.V (Kd.slice 4 Kd.bool) 33 w' w.heap.size (fun k_ => k_ ≠ gb212 ∧ k_ ≠ gb213) s_.1 t215) ∧ (Kd.V (Kd.slice 4 Kd.bool) 33 w' w.heap.size (fun k_ => k_ ≠ gb212 ∧ k_ ≠ gb213) s_.2 t219) ∧ (w'.heap[gb212]? = some (.cells #[.int .u64 a0_0, .slice A0_1 l0_1.length c0_1] 25 (0, 0))) ∧ (w'.heap[gb213]? = some (.cells #[.int .u64 a1_0, .slice A1_1 l1_1.length c1_1] 25 (0, 0))) ∧ (Below w.heap.size w w')) ?_ ?_; rotate_left
     ·intro hJ1_3; refine join_ (σ := Value × Nat) 4 (mB 8 23) (fun s_ => [(12, .agg #[.int .u64 t214, s_.1]), (5, .pointer (some ⟨s_.2, 0, none⟩))]) (fun s_ w' => (w'.cell? ⟨gb212, 0, none⟩ = some (.int .u64 a0_0) ∧ w'.cell? ⟨gb212, 1, none⟩ = some (.slice A0_1 l0_1.length c0_1) ∧ w'.cell? ⟨gb213, 0, none⟩ = some (.int .u64 a1_0) ∧ w'.cell? ⟨gb213, 1, none⟩ = some (.slice A1_1 l1_1.length c1_1)) ∧ (Kd.V (Kd.slice 4 Kd.bool) 33 w' w.heap.size (fun k_ => k_ ≠ gb212 ∧ k_ ≠ gb213 ∧ k_ ≠ s_.2) s_.1 t215) ∧ (w'.heap[gb212]? = some (.cells #[.int .u64 a0_0, .slice A0_1 l0_1.length c0_1] 25 (0, 0))) ∧ (w'.heap[gb213]? = some (.cells #[.int .u64 a1_0, .slice A1_1 l1_1.length c1_1] 25 (0, 0))) ∧ (w'.heap[s_.2]? = some (.cells #[.int .u64 0, .slice none 0 0] 30 (0, 0))) ∧ (w.heap.size ≤ s_.2) ∧ (w.heap.size ≤ s_.2) ∧ (gb212 ≠ s_.2) ∧ (s_.2 ≠ gb212) ∧ (gb213 ≠ s_.2) ∧ (s_.2 ≠ gb213) ∧ (Below w.heap.size w w')) ?_ ?_; rotate_left
      ·intro hJ1_4; refine join_ (σ := Value × Nat) 4 (mB 8 39) (fun s_ => [(12, .agg #[.int .u64 t214, s_.1]), (6, .pointer (some ⟨s_.2, 0, none⟩))]) (fun s_ w' => (w'.cell? ⟨gb212, 0, none⟩ = some (.int .u64 a0_0) ∧ w'.cell? ⟨gb212, 1, none⟩ = some (.slice A0_1 l0_1.length c0_1) ∧ w'.cell? ⟨gb213, 0, none⟩ = some (.int .u64 a1_0) ∧ w'.cell? ⟨gb213, 1, none⟩ = some (.slice A1_1 l1_1.length c1_1)) ∧ (Kd.V (Kd.slice 4 Kd.bool) 33 w' w.heap.size (fun k_ => k_ ≠ gb212 ∧ k_ ≠ gb213 ∧ k_ ≠ s_.2) s_.1 t215) ∧ (w'.heap[gb212]? = some (.cells #[.int .u64 a0_0, .slice A0_1 l0_1.length c0_1] 25 (0, 0))) ∧ (w'.heap[gb213]? = some (.cells #[.int .u64 a1_0, .slice A1_1 l1_1.length c1_1] 25 (0, 0))) ∧ (w'.heap[s_.2]? = some (.cells #[.int .u64 0, .slice none 0 0] 30 (0, 0))) ∧ (w.heap.size ≤ s_.2) ∧ (w.heap.size ≤ s_.2) ∧ (gb212 ≠ s_.2) ∧ (s_.2 ≠ gb212) ∧ (gb213 ≠ s_.2) ∧ (s_.2 ≠ gb213) ∧ (Below w.heap.size w w')) ?_ ?_; rotate_left
       ·intro hJ1_5; refine join_ (σ := Nat × Nat) 4 (mB 8 53) (fun s_ => [(5, .pointer (some ⟨s_.1, 0, none⟩)), (6, .pointer (some ⟨s_.2, 0, none⟩))]) (fun s_ w' => (w'.cell? ⟨gb212, 0, none⟩ = some (.int .u64 a0_0) ∧ w'.cell? ⟨gb212, 1, none⟩ = some (.slice A0_1 l0_1.length c0_1) ∧ w'.cell? ⟨gb213, 0, none⟩ = some (.int .u64 a1_0) ∧ w'.cell? ⟨gb213, 1, none⟩ = some (.slice A1_1 l1_1.length c1_1)) ∧ (w'.heap[gb212]? = some (.cells #[.int .u64 a0_0, .slice A0_1 l0_1.length c0_1] 25 (0, 0))) ∧ (w'.heap[gb213]? = some (.cells #[.int .u64 a1_0, .slice A1_1 l1_1.length c1_1] 25 (0, 0))) ∧ (w'.heap[s_.1]? = some (.cells #[.int .u64 0, .slice none 0 0] 30 (0, 0))) ∧ (w'.heap[s_.2]? = some (.cells #[.int .u64 0, .slice none 0 0] 30 (0, 0))) ∧ (w.heap.size ≤ s_.1) ∧ (w.heap.size ≤ s_.1) ∧ (gb212 ≠ s_.1) ∧ (s_.1 ≠ gb212) ∧ (gb213 ≠ s_.1) ∧ (s_.1 ≠ gb213) ∧ (s_.2 ≠ s_.1) ∧ (s_.1 ≠ s_.2) ∧ (w.heap.size ≤ s_.2) ∧ (w.heap.size ≤ s_.2) ∧ (gb212 ≠ s_.2) ∧ (s_.2 ≠ gb212) ∧ (gb213 ≠ s_.2) ∧ (s_.2 ≠ gb213) ∧ (Below w.heap.size w w')) ?_ ?_; rotate_left
        ·intro hJ4_5; refine join_ (σ := Value) 5 (mB 8 7) (fun s_ => [(12, .agg #[.int .u64 t214, s_])]) (fun s_ w' => (w'.cell? ⟨gb212, 0, none⟩ = some (.int .u64 a0_0) ∧ w'.cell? ⟨gb212, 1, none⟩ = some (.slice A0_1 l0_1.length c0_1) ∧ w'.cell? ⟨gb213, 0, none⟩ = some (.int .u64 a1_0) ∧ w'.cell? ⟨gb213, 1, none⟩ = some (.slice A1_1 l1_1.length c1_1)) ∧ (Kd.V (Kd.slice 4 Kd.bool) 33 w' w.heap.size (fun k_ => k_ ≠ gb212 ∧ k_ ≠ gb213) s_ t215) ∧ (w'.heap[gb212]? = some (.cells #[.int .u64 a0_0, .slice A0_1 l0_1.length c0_1] 25 (0, 0))) ∧ (w'.heap[gb213]? = some (.cells #[.int .u64 a1_0, .slice A1_1 l1_1.length c1_1] 25 (0, 0))) ∧ (Below w.heap.size w w')) ?_ ?_; rotate_left
         ·intro hJ1; refine join_ (σ := Nat) 5 (mB 8 21) (fun s_ => [(5, .pointer (some ⟨s_, 0, none⟩))]) (fun s_ w' => (w'.cell? ⟨gb212, 0, none⟩ = some (.int .u64 a0_0) ∧ w'.cell? ⟨gb212, 1, none⟩ = some (.slice A0_1 l0_1.length c0_1) ∧ w'.cell? ⟨gb213, 0, none⟩ = some (.int .u64 a1_0) ∧ w'.cell? ⟨gb213, 1, none⟩ = some (.slice A1_1 l1_1.length c1_1)) ∧ (w'.heap[gb212]? = some (.cells #[.int .u64 a0_0, .slice A0_1 l0_1.length c0_1] 25 (0, 0))) ∧ (w'.heap[gb213]? = some (.cells #[.int .u64 a1_0, .slice A1_1 l1_1.length c1_1] 25 (0, 0))) ∧ (w'.heap[s_]? = some (.cells #[.int .u64 0, .slice none 0 0] 30 (0, 0))) ∧ (w.heap.size ≤ s_) ∧ (w.heap.size ≤ s_) ∧ (gb212 ≠ s_) ∧ (s_ ≠ gb212) ∧ (gb213 ≠ s_) ∧ (s_ ≠ gb213) ∧ (Below w.heap.size w w')) ?_ ?_; rotate_left
          ·intro hJ4; refine join_ (σ := Nat) 5 (mB 8 37) (fun s_ => [(6, .pointer (some ⟨s_, 0, none⟩))]) (fun s_ w' => (w'.cell? ⟨gb212, 0, none⟩ = some (.int .u64 a0_0) ∧ w'.cell? ⟨gb212, 1, none⟩ = some (.slice A0_1 l0_1.length c0_1) ∧ w'.cell? ⟨gb213, 0, none⟩ = some (.int .u64 a1_0) ∧ w'.cell? ⟨gb213, 1, none⟩ = some (.slice A1_1 l1_1.length c1_1)) ∧ (w'.heap[gb212]? = some (.cells #[.int .u64 a0_0, .slice A0_1 l0_1.length c0_1] 25 (0, 0))) ∧ (w'.heap[gb213]? = some (.cells #[.int .u64 a1_0, .slice A1_1 l1_1.length c1_1] 25 (0, 0))) ∧ (w'.heap[s_]? = some (.cells #[.int .u64 0, .slice none 0 0] 30 (0, 0))) ∧ (w.heap.size ≤ s_) ∧ (w.heap.size ≤ s_) ∧ (gb212 ≠ s_) ∧ (s_ ≠ gb212) ∧ (gb213 ≠ s_) ∧ (s_ ≠ gb213) ∧ (Below w.heap.size w w')) ?_ ?_; rotate_left
           ·intro hJ5; refine three_ (i := 1) (j := 4) (k := 5) (Ni := some 12) (Nj := some 5) (Nk := some 6) (mB 8 7) (mB 8 21) (mB 8 37) rfl rfl rfl rfl rfl rfl (three_of HT_.out (by kernel_rfl)) (by decide) (by decide) (by decide) (fun K hK => ?_) (fun K hK => ?_) (fun K hK => ?_)
            ·skip; refine goes_ Tryd.func10 (by kernel_rfl) rfl #[.agg #[.int .u64 a0_0, .slice A0_1 l0_1.length c0_1]] (by rfl) rfl rfl (by (try simp only [List.map_toArray, List.map_cons, List.map_nil]); first | done | rfl | (simp only [List.length_drop, List.length_take]; rfl)) ?_
             with_reducible refine (rillmeterlaw13_ref.calls a0_0 (fun k_ => k_ < w.heap.size) _ _ l0_1 t214 t215 _ ?side1 A3.out).mono ?_
             (case side1 => exact Kd.V_mk HC0_1.out (Kd.F_below (Kd.C_F (Kd.heap_slice 4 Kd.heap_bool) HR0_1.out) (bl_ HB))); rintro e w9 ⟨v216, rfl, ho0, hb⟩; refine ⟨_, rfl, ?_⟩; have HO217 := Aside0.mk (Kd.V_lower (Kd.V_mono (ok' := fun k_ => k_ ≠ gb212 ∧ k_ ≠ gb213) ho0 (fun k_ hk_ => ⟨Or.elim hk_ (fun hs_ => fun e_ => Nat.not_le.2 hs_ (by rw [e_]; exact GW212.out)) (fun hn_ => (Kd.freshB (g := gb212) (o := .cells #[.int .u64 a0_0, .slice A0_1 l0_1.length c0_1] 25 (0, 0)) (bk_ BK212) k_ hn_)), Or.elim hk_ (fun hs_ => fun e_ => Nat.not_le.2 hs_ (by rw [e_]; exact GW213.out)) (fun hn_ => (Kd.freshB (g := gb213) (o := .cells #[.int .u64 a1_0, .slice A1_1 l1_1.length c1_1] 25 (0, 0)) (bk_ BK213) k_ hn_))⟩)) (below_size (bl_ HB))); replace BK212 := Aside0.mk (blk_below (bk_ BK212) hb); replace BK213 := Aside0.mk (blk_below (bk_ BK213) hb); replace HB := Aside0.mk (below_step (bl_ HB) hb); (try clear hb); (try clear ho0); refine hK.out _ _ ⟨(blk_cell BK212.out 0).trans rfl, (blk_cell BK212.out 1).trans rfl, (blk_cell BK213.out 0).trans rfl, (blk_cell BK213.out 1).trans rfl⟩ (fun hHeld => ?_); clear hK K; refine norm_ (a' := ?_) ?_ ?_; rotate_left
             ·show Act.put _ (some 12) _ = _
              simp only [Act.put, sa_, sb_, sc_, i64_w, i32_w]; rfl
             exact norm_ (by first | (simp only [putAll, Act.put, sa_, sb_, sc_]; done) | (simp only [putAll, Act.put, sa_, sb_, sc_]; rfl)) (hJ1 (v216) _ ⟨hHeld, (vk_ HO217), (bk_ BK212), (bk_ BK213), (bl_ HB)⟩)
            ·skip; refine box_step ?hg (N := 5) ?hd (cs := #[.int .u64 0, .slice none 0 0]) (t := 30) ?hr ?_; (case hd => rfl); (case hg => rfl); (case hr => first | (go_simp; done) | (go_simp; rfl))
             intro gb222 hg w9 hbox hb; have BK222 := Aside0.mk (hbox); have GW222 := Aside0.mk (gl_ hg HB); have GE222 := Aside0.mk (gl_ hg HB); replace HB := Aside0.mk (below_step (bl_ HB) hb); have NB212_222 := Aside0.mk (nl_ hg BK212); have NB222_212 := Aside0.mk (ng_ hg BK212); replace BK212 := Aside0.mk (blk_below (bk_ BK212) hb); have NB213_222 := Aside0.mk (nl_ hg BK213); have NB222_213 := Aside0.mk (ng_ hg BK213); replace BK213 := Aside0.mk (blk_below (bk_ BK213) hb); clear hb hbox hg; refine hK.out _ _ ⟨(blk_cell BK212.out 0).trans rfl, (blk_cell BK212.out 1).trans rfl, (blk_cell BK213.out 0).trans rfl, (blk_cell BK213.out 1).trans rfl⟩ (fun hHeld => ?_); clear hK K; refine norm_ (a' := ?_) ?_ ?_; rotate_left
             ·show Act.put _ (some 5) _ = _
              simp only [Act.put, sa_, sb_, sc_, i64_w, i32_w]; rfl
             exact norm_ (by first | (simp only [putAll, Act.put, sa_, sb_, sc_]; done) | (simp only [putAll, Act.put, sa_, sb_, sc_]; rfl)) (hJ4 (gb222) _ ⟨hHeld, (bk_ BK212), (bk_ BK213), (bk_ BK222), GW222.out, GE222.out, NB212_222.out, NB222_212.out, NB213_222.out, NB222_213.out, (bl_ HB)⟩)
            ·skip; refine box_step ?hg (N := 6) ?hd (cs := #[.int .u64 0, .slice none 0 0]) (t := 30) ?hr ?_; (case hd => rfl); (case hg => rfl); (case hr => first | (go_simp; done) | (go_simp; rfl))
             intro gb223 hg w9 hbox hb; have BK223 := Aside0.mk (hbox); have GW223 := Aside0.mk (gl_ hg HB); have GE223 := Aside0.mk (gl_ hg HB); replace HB := Aside0.mk (below_step (bl_ HB) hb); have NB212_223 := Aside0.mk (nl_ hg BK212); have NB223_212 := Aside0.mk (ng_ hg BK212); replace BK212 := Aside0.mk (blk_below (bk_ BK212) hb); have NB213_223 := Aside0.mk (nl_ hg BK213); have NB223_213 := Aside0.mk (ng_ hg BK213); replace BK213 := Aside0.mk (blk_below (bk_ BK213) hb); clear hb hbox hg; refine hK.out _ _ ⟨(blk_cell BK212.out 0).trans rfl, (blk_cell BK212.out 1).trans rfl, (blk_cell BK213.out 0).trans rfl, (blk_cell BK213.out 1).trans rfl⟩ (fun hHeld => ?_); clear hK K; refine norm_ (a' := ?_) ?_ ?_; rotate_left
             ·show Act.put _ (some 6) _ = _
              simp only [Act.put, sa_, sb_, sc_, i64_w, i32_w]; rfl
             exact norm_ (by first | (simp only [putAll, Act.put, sa_, sb_, sc_]; done) | (simp only [putAll, Act.put, sa_, sb_, sc_]; rfl)) (hJ5 (gb223) _ ⟨hHeld, (bk_ BK212), (bk_ BK213), (bk_ BK223), GW223.out, GE223.out, NB212_223.out, NB223_212.out, NB213_223.out, NB223_213.out, (bl_ HB)⟩)
           ·skip; rintro gb223 w10 ⟨hS_, h0_, h1_, h2_, h3_, h4_, h5_, h6_, h7_, h8_, h9_⟩
            have n0_ : Aside0 (w10.heap[gb212]? = some (.cells #[.int .u64 a0_0, .slice A0_1 l0_1.length c0_1] 25 (0, 0))) := ⟨h0_⟩; have n1_ : Aside0 (w10.heap[gb213]? = some (.cells #[.int .u64 a1_0, .slice A1_1 l1_1.length c1_1] 25 (0, 0))) := ⟨h1_⟩; have n2_ : Aside0 (w10.heap[gb223]? = some (.cells #[.int .u64 0, .slice none 0 0] 30 (0, 0))) := ⟨h2_⟩; have n3_ : Aside0 (w.heap.size ≤ gb223) := ⟨h3_⟩; have n4_ : Aside0 (w.heap.size ≤ gb223) := ⟨h4_⟩; have n5_ : Aside0 (gb212 ≠ gb223) := ⟨h5_⟩; have n6_ : Aside0 (gb223 ≠ gb212) := ⟨h6_⟩; have n7_ : Aside0 (gb213 ≠ gb223) := ⟨h7_⟩; have n8_ : Aside0 (gb223 ≠ gb213) := ⟨h8_⟩; have n9_ : Aside0 (Below w.heap.size w w10) := ⟨h9_⟩; clear BK212; clear BK213; clear HB; clear h0_ h1_ h2_ h3_ h4_ h5_ h6_ h7_ h8_ h9_; have BK212 := n0_; have BK213 := n1_; have BK223 := n2_; have GW223 := n3_; have GE223 := n4_; have NB212_223 := n5_; have NB223_212 := n6_; have NB213_223 := n7_; have NB223_213 := n8_; have HB := n9_; clear n0_ n1_ n2_ n3_ n4_ n5_ n6_ n7_ n8_ n9_; have hHeld : w10.cell? ⟨gb212, 0, none⟩ = some (.int .u64 a0_0) ∧ w10.cell? ⟨gb212, 1, none⟩ = some (.slice A0_1 l0_1.length c0_1) ∧ w10.cell? ⟨gb213, 0, none⟩ = some (.int .u64 a1_0) ∧ w10.cell? ⟨gb213, 1, none⟩ = some (.slice A1_1 l1_1.length c1_1) := hS_; refine norm_ (a' := ?_) ?_ ?_; rotate_left
            ·simp only [putAll, Act.put, sa_, sb_, sc_]; rfl
            refine two_ (i := 1) (j := 4) (Ni := some 12) (Nj := some 5) (mB 8 39) (mB 8 53) rfl rfl rfl rfl (two_of HT_.out (by kernel_rfl)) (by decide) (by decide) (fun K hK => ?_) (fun K hK => ?_)
            ·skip; refine goes_ Tryd.func10 (by kernel_rfl) rfl #[.agg #[.int .u64 a0_0, .slice A0_1 l0_1.length c0_1]] (by rfl) rfl rfl (by (try simp only [List.map_toArray, List.map_cons, List.map_nil]); first | done | rfl | (simp only [List.length_drop, List.length_take]; rfl)) ?_
             with_reducible refine (rillmeterlaw13_ref.calls a0_0 (fun k_ => k_ < w.heap.size) _ _ l0_1 t214 t215 _ ?side1 A3.out).mono ?_
             (case side1 => exact Kd.V_mk HC0_1.out (Kd.F_below (Kd.C_F (Kd.heap_slice 4 Kd.heap_bool) HR0_1.out) (bl_ HB))); rintro e w11 ⟨v216, rfl, ho0, hb⟩; refine ⟨_, rfl, ?_⟩; have HO217 := Aside0.mk (Kd.V_lower (Kd.V_mono (ok' := fun k_ => k_ ≠ gb212 ∧ k_ ≠ gb213 ∧ k_ ≠ gb223) ho0 (fun k_ hk_ => ⟨Or.elim hk_ (fun hs_ => fun e_ => Nat.not_le.2 hs_ (by rw [e_]; exact GW212.out)) (fun hn_ => (Kd.freshB (g := gb212) (o := .cells #[.int .u64 a0_0, .slice A0_1 l0_1.length c0_1] 25 (0, 0)) (bk_ BK212) k_ hn_)), Or.elim hk_ (fun hs_ => fun e_ => Nat.not_le.2 hs_ (by rw [e_]; exact GW213.out)) (fun hn_ => (Kd.freshB (g := gb213) (o := .cells #[.int .u64 a1_0, .slice A1_1 l1_1.length c1_1] 25 (0, 0)) (bk_ BK213) k_ hn_)), Or.elim hk_ (fun hs_ => fun e_ => Nat.not_le.2 hs_ (by rw [e_]; exact GW223.out)) (fun hn_ => (Kd.freshB (g := gb223) (o := .cells #[.int .u64 0, .slice none 0 0] 30 (0, 0)) (bk_ BK223) k_ hn_))⟩)) (below_size (bl_ HB))); replace BK212 := Aside0.mk (blk_below (bk_ BK212) hb); replace BK213 := Aside0.mk (blk_below (bk_ BK213) hb); replace BK223 := Aside0.mk (blk_below (bk_ BK223) hb); replace HB := Aside0.mk (below_step (bl_ HB) hb); (try clear hb); (try clear ho0); refine hK.out _ _ ⟨(blk_cell BK212.out 0).trans rfl, (blk_cell BK212.out 1).trans rfl, (blk_cell BK213.out 0).trans rfl, (blk_cell BK213.out 1).trans rfl⟩ (fun hHeld => ?_); clear hK K; refine norm_ (a' := ?_) ?_ ?_; rotate_left
             ·show Act.put _ (some 12) _ = _
              simp only [Act.put, sa_, sb_, sc_, i64_w, i32_w]; rfl
             exact norm_ (by first | (simp only [putAll, Act.put, sa_, sb_, sc_]; done) | (simp only [putAll, Act.put, sa_, sb_, sc_]; rfl)) (hJ1_5 (v216, gb223) _ ⟨hHeld, (vk_ HO217), (bk_ BK212), (bk_ BK213), (bk_ BK223), GW223.out, GE223.out, NB212_223.out, NB223_212.out, NB213_223.out, NB223_213.out, (bl_ HB)⟩)
            ·skip; refine box_step ?hg (N := 5) ?hd (cs := #[.int .u64 0, .slice none 0 0]) (t := 30) ?hr ?_; (case hd => rfl); (case hg => rfl); (case hr => first | (go_simp; done) | (go_simp; rfl))
             intro gb222 hg w11 hbox hb; have BK222 := Aside0.mk (hbox); have GW222 := Aside0.mk (gl_ hg HB); have GE222 := Aside0.mk (gl_ hg HB); replace HB := Aside0.mk (below_step (bl_ HB) hb); have NB212_222 := Aside0.mk (nl_ hg BK212); have NB222_212 := Aside0.mk (ng_ hg BK212); replace BK212 := Aside0.mk (blk_below (bk_ BK212) hb); have NB213_222 := Aside0.mk (nl_ hg BK213); have NB222_213 := Aside0.mk (ng_ hg BK213); replace BK213 := Aside0.mk (blk_below (bk_ BK213) hb); have NB223_222 := Aside0.mk (nl_ hg BK223); have NB222_223 := Aside0.mk (ng_ hg BK223); replace BK223 := Aside0.mk (blk_below (bk_ BK223) hb); clear hb hbox hg; refine hK.out _ _ ⟨(blk_cell BK212.out 0).trans rfl, (blk_cell BK212.out 1).trans rfl, (blk_cell BK213.out 0).trans rfl, (blk_cell BK213.out 1).trans rfl⟩ (fun hHeld => ?_); clear hK K; refine norm_ (a' := ?_) ?_ ?_; rotate_left
             ·show Act.put _ (some 5) _ = _
              simp only [Act.put, sa_, sb_, sc_, i64_w, i32_w]; rfl
             exact norm_ (by first | (simp only [putAll, Act.put, sa_, sb_, sc_]; done) | (simp only [putAll, Act.put, sa_, sb_, sc_]; rfl)) (hJ4_5 (gb222, gb223) _ ⟨hHeld, (bk_ BK212), (bk_ BK213), (bk_ BK222), (bk_ BK223), GW222.out, GE222.out, NB212_222.out, NB222_212.out, NB213_222.out, NB222_213.out, NB223_222.out, NB222_223.out, GW223.out, GE223.out, NB212_223.out, NB223_212.out, NB213_223.out, NB223_213.out, (bl_ HB)⟩)
          ·skip; rintro gb222 w10 ⟨hS_, h0_, h1_, h2_, h3_, h4_, h5_, h6_, h7_, h8_, h9_⟩
           have n0_ : Aside0 (w10.heap[gb212]? = some (.cells #[.int .u64 a0_0, .slice A0_1 l0_1.length c0_1] 25 (0, 0))) := ⟨h0_⟩; have n1_ : Aside0 (w10.heap[gb213]? = some (.cells #[.int .u64 a1_0, .slice A1_1 l1_1.length c1_1] 25 (0, 0))) := ⟨h1_⟩; have n2_ : Aside0 (w10.heap[gb222]? = some (.cells #[.int .u64 0, .slice none 0 0] 30 (0, 0))) := ⟨h2_⟩; have n3_ : Aside0 (w.heap.size ≤ gb222) := ⟨h3_⟩; have n4_ : Aside0 (w.heap.size ≤ gb222) := ⟨h4_⟩; have n5_ : Aside0 (gb212 ≠ gb222) := ⟨h5_⟩; have n6_ : Aside0 (gb222 ≠ gb212) := ⟨h6_⟩; have n7_ : Aside0 (gb213 ≠ gb222) := ⟨h7_⟩; have n8_ : Aside0 (gb222 ≠ gb213) := ⟨h8_⟩; have n9_ : Aside0 (Below w.heap.size w w10) := ⟨h9_⟩; clear BK212; clear BK213; clear HB; clear h0_ h1_ h2_ h3_ h4_ h5_ h6_ h7_ h8_ h9_; have BK212 := n0_; have BK213 := n1_; have BK222 := n2_; have GW222 := n3_; have GE222 := n4_; have NB212_222 := n5_; have NB222_212 := n6_; have NB213_222 := n7_; have NB222_213 := n8_; have HB := n9_; clear n0_ n1_ n2_ n3_ n4_ n5_ n6_ n7_ n8_ n9_; have hHeld : w10.cell? ⟨gb212, 0, none⟩ = some (.int .u64 a0_0) ∧ w10.cell? ⟨gb212, 1, none⟩ = some (.slice A0_1 l0_1.length c0_1) ∧ w10.cell? ⟨gb213, 0, none⟩ = some (.int .u64 a1_0) ∧ w10.cell? ⟨gb213, 1, none⟩ = some (.slice A1_1 l1_1.length c1_1) := hS_; refine norm_ (a' := ?_) ?_ ?_; rotate_left
           ·simp only [putAll, Act.put, sa_, sb_, sc_]; rfl
           refine two_ (i := 1) (j := 5) (Ni := some 12) (Nj := some 6) (mB 8 23) (mB 8 53) rfl rfl rfl rfl (two_of HT_.out (by kernel_rfl)) (by decide) (by decide) (fun K hK => ?_) (fun K hK => ?_)
           ·skip; refine goes_ Tryd.func10 (by kernel_rfl) rfl #[.agg #[.int .u64 a0_0, .slice A0_1 l0_1.length c0_1]] (by rfl) rfl rfl (by (try simp only [List.map_toArray, List.map_cons, List.map_nil]); first | done | rfl | (simp only [List.length_drop, List.length_take]; rfl)) ?_
            with_reducible refine (rillmeterlaw13_ref.calls a0_0 (fun k_ => k_ < w.heap.size) _ _ l0_1 t214 t215 _ ?side1 A3.out).mono ?_
            (case side1 => exact Kd.V_mk HC0_1.out (Kd.F_below (Kd.C_F (Kd.heap_slice 4 Kd.heap_bool) HR0_1.out) (bl_ HB))); rintro e w11 ⟨v216, rfl, ho0, hb⟩; refine ⟨_, rfl, ?_⟩; have HO217 := Aside0.mk (Kd.V_lower (Kd.V_mono (ok' := fun k_ => k_ ≠ gb212 ∧ k_ ≠ gb213 ∧ k_ ≠ gb222) ho0 (fun k_ hk_ => ⟨Or.elim hk_ (fun hs_ => fun e_ => Nat.not_le.2 hs_ (by rw [e_]; exact GW212.out)) (fun hn_ => (Kd.freshB (g := gb212) (o := .cells #[.int .u64 a0_0, .slice A0_1 l0_1.length c0_1] 25 (0, 0)) (bk_ BK212) k_ hn_)), Or.elim hk_ (fun hs_ => fun e_ => Nat.not_le.2 hs_ (by rw [e_]; exact GW213.out)) (fun hn_ => (Kd.freshB (g := gb213) (o := .cells #[.int .u64 a1_0, .slice A1_1 l1_1.length c1_1] 25 (0, 0)) (bk_ BK213) k_ hn_)), Or.elim hk_ (fun hs_ => fun e_ => Nat.not_le.2 hs_ (by rw [e_]; exact GW222.out)) (fun hn_ => (Kd.freshB (g := gb222) (o := .cells #[.int .u64 0, .slice none 0 0] 30 (0, 0)) (bk_ BK222) k_ hn_))⟩)) (below_size (bl_ HB))); replace BK212 := Aside0.mk (blk_below (bk_ BK212) hb); replace BK213 := Aside0.mk (blk_below (bk_ BK213) hb); replace BK222 := Aside0.mk (blk_below (bk_ BK222) hb); replace HB := Aside0.mk (below_step (bl_ HB) hb); (try clear hb); (try clear ho0); refine hK.out _ _ ⟨(blk_cell BK212.out 0).trans rfl, (blk_cell BK212.out 1).trans rfl, (blk_cell BK213.out 0).trans rfl, (blk_cell BK213.out 1).trans rfl⟩ (fun hHeld => ?_); clear hK K; refine norm_ (a' := ?_) ?_ ?_; rotate_left
            ·show Act.put _ (some 12) _ = _
             simp only [Act.put, sa_, sb_, sc_, i64_w, i32_w]; rfl
            exact norm_ (by first | (simp only [putAll, Act.put, sa_, sb_, sc_]; done) | (simp only [putAll, Act.put, sa_, sb_, sc_]; rfl)) (hJ1_4 (v216, gb222) _ ⟨hHeld, (vk_ HO217), (bk_ BK212), (bk_ BK213), (bk_ BK222), GW222.out, GE222.out, NB212_222.out, NB222_212.out, NB213_222.out, NB222_213.out, (bl_ HB)⟩)
           ·skip; refine box_step ?hg (N := 6) ?hd (cs := #[.int .u64 0, .slice none 0 0]) (t := 30) ?hr ?_; (case hd => rfl); (case hg => rfl); (case hr => first | (go_simp; done) | (go_simp; rfl))
            intro gb223 hg w11 hbox hb; have BK223 := Aside0.mk (hbox); have GW223 := Aside0.mk (gl_ hg HB); have GE223 := Aside0.mk (gl_ hg HB); replace HB := Aside0.mk (below_step (bl_ HB) hb); have NB212_223 := Aside0.mk (nl_ hg BK212); have NB223_212 := Aside0.mk (ng_ hg BK212); replace BK212 := Aside0.mk (blk_below (bk_ BK212) hb); have NB213_223 := Aside0.mk (nl_ hg BK213); have NB223_213 := Aside0.mk (ng_ hg BK213); replace BK213 := Aside0.mk (blk_below (bk_ BK213) hb); have NB222_223 := Aside0.mk (nl_ hg BK222); have NB223_222 := Aside0.mk (ng_ hg BK222); replace BK222 := Aside0.mk (blk_below (bk_ BK222) hb); clear hb hbox hg; refine hK.out _ _ ⟨(blk_cell BK212.out 0).trans rfl, (blk_cell BK212.out 1).trans rfl, (blk_cell BK213.out 0).trans rfl, (blk_cell BK213.out 1).trans rfl⟩ (fun hHeld => ?_); clear hK K; refine norm_ (a' := ?_) ?_ ?_; rotate_left
            ·show Act.put _ (some 6) _ = _
             simp only [Act.put, sa_, sb_, sc_, i64_w, i32_w]; rfl
            exact norm_ (by first | (simp only [putAll, Act.put, sa_, sb_, sc_]; done) | (simp only [putAll, Act.put, sa_, sb_, sc_]; rfl)) (hJ4_5 (gb222, gb223) _ ⟨hHeld, (bk_ BK212), (bk_ BK213), (bk_ BK222), (bk_ BK223), GW222.out, GE222.out, NB212_222.out, NB222_212.out, NB213_222.out, NB222_213.out, NB223_222.out, NB222_223.out, GW223.out, GE223.out, NB212_223.out, NB223_212.out, NB213_223.out, NB223_213.out, (bl_ HB)⟩)
         ·skip; rintro v216 w10 ⟨hS_, h0_, h1_, h2_, h3_⟩
          have n0_ : Aside0 (Kd.V (Kd.slice 4 Kd.bool) 33 w10 w.heap.size (fun k_ => k_ ≠ gb212 ∧ k_ ≠ gb213) v216 t215) := ⟨h0_⟩; have n1_ : Aside0 (w10.heap[gb212]? = some (.cells #[.int .u64 a0_0, .slice A0_1 l0_1.length c0_1] 25 (0, 0))) := ⟨h1_⟩; have n2_ : Aside0 (w10.heap[gb213]? = some (.cells #[.int .u64 a1_0, .slice A1_1 l1_1.length c1_1] 25 (0, 0))) := ⟨h2_⟩; have n3_ : Aside0 (Below w.heap.size w w10) := ⟨h3_⟩; clear BK212; clear BK213; clear HB; clear h0_ h1_ h2_ h3_; have HO217 := n0_; have BK212 := n1_; have BK213 := n2_; have HB := n3_; clear n0_ n1_ n2_ n3_; have hHeld : w10.cell? ⟨gb212, 0, none⟩ = some (.int .u64 a0_0) ∧ w10.cell? ⟨gb212, 1, none⟩ = some (.slice A0_1 l0_1.length c0_1) ∧ w10.cell? ⟨gb213, 0, none⟩ = some (.int .u64 a1_0) ∧ w10.cell? ⟨gb213, 1, none⟩ = some (.slice A1_1 l1_1.length c1_1) := hS_; refine norm_ (a' := ?_) ?_ ?_; rotate_left
          ·simp only [putAll, Act.put, sa_, sb_, sc_]; rfl
          refine three_ (i := 3) (j := 4) (k := 5) (Ni := some 14) (Nj := some 5) (Nk := some 6) (mB 8 15) (mB 8 23) (mB 8 39) rfl rfl rfl rfl rfl rfl (three_of HT_.out (by kernel_rfl)) (by decide) (by decide) (by decide) (fun K hK => ?_) (fun K hK => ?_) (fun K hK => ?_)
          ·skip; refine goes_ Tryd.func10 (by kernel_rfl) rfl #[.agg #[.int .u64 a1_0, .slice A1_1 l1_1.length c1_1]] (by rfl) rfl rfl (by (try simp only [List.map_toArray, List.map_cons, List.map_nil]); first | done | rfl | (simp only [List.length_drop, List.length_take]; rfl)) ?_
           with_reducible refine (rillmeterlaw13_ref.calls a1_0 (fun k_ => k_ < w.heap.size) _ _ l1_1 t218 t219 _ ?side1 A4.out).mono ?_
           (case side1 => exact Kd.V_mk HC1_1.out (Kd.F_below (Kd.C_F (Kd.heap_slice 4 Kd.heap_bool) HR1_1.out) (bl_ HB))); rintro e w11 ⟨v220, rfl, ho0, hb⟩; refine ⟨_, rfl, ?_⟩; replace HO217 := Aside0.mk (Kd.V_below (vk_ HO217) hb); have HO221 := Aside0.mk (Kd.V_lower (Kd.V_mono (ok' := fun k_ => k_ ≠ gb212 ∧ k_ ≠ gb213) ho0 (fun k_ hk_ => ⟨Or.elim hk_ (fun hs_ => fun e_ => Nat.not_le.2 hs_ (by rw [e_]; exact GW212.out)) (fun hn_ => (Kd.freshB (g := gb212) (o := .cells #[.int .u64 a0_0, .slice A0_1 l0_1.length c0_1] 25 (0, 0)) (bk_ BK212) k_ hn_)), Or.elim hk_ (fun hs_ => fun e_ => Nat.not_le.2 hs_ (by rw [e_]; exact GW213.out)) (fun hn_ => (Kd.freshB (g := gb213) (o := .cells #[.int .u64 a1_0, .slice A1_1 l1_1.length c1_1] 25 (0, 0)) (bk_ BK213) k_ hn_))⟩)) (below_size (bl_ HB))); replace BK212 := Aside0.mk (blk_below (bk_ BK212) hb); replace BK213 := Aside0.mk (blk_below (bk_ BK213) hb); replace HB := Aside0.mk (below_step (bl_ HB) hb); (try clear hb); (try clear ho0); refine hK.out _ _ ⟨(blk_cell BK212.out 0).trans rfl, (blk_cell BK212.out 1).trans rfl, (blk_cell BK213.out 0).trans rfl, (blk_cell BK213.out 1).trans rfl⟩ (fun hHeld => ?_); clear hK K; refine norm_ (a' := ?_) ?_ ?_; rotate_left
           ·show Act.put _ (some 14) _ = _
            simp only [Act.put, sa_, sb_, sc_, i64_w, i32_w]; rfl
           exact norm_ (by first | (simp only [putAll, Act.put, sa_, sb_, sc_]; done) | (simp only [putAll, Act.put, sa_, sb_, sc_]; rfl)) (hJ1_3 (v216, v220) _ ⟨hHeld, (vk_ HO217), (vk_ HO221), (bk_ BK212), (bk_ BK213), (bl_ HB)⟩)
          ·skip; refine box_step ?hg (N := 5) ?hd (cs := #[.int .u64 0, .slice none 0 0]) (t := 30) ?hr ?_; (case hd => rfl); (case hg => rfl); (case hr => first | (go_simp; done) | (go_simp; rfl))
           intro gb222 hg w11 hbox hb; replace HO217 := Aside0.mk (Kd.V_below (Kd.V_elderB (vk_ HO217) gb222 (Nat.le_of_eq hg.symm)) hb); have BK222 := Aside0.mk (hbox); have GW222 := Aside0.mk (gl_ hg HB); have GE222 := Aside0.mk (gl_ hg HB); replace HB := Aside0.mk (below_step (bl_ HB) hb); have NB212_222 := Aside0.mk (nl_ hg BK212); have NB222_212 := Aside0.mk (ng_ hg BK212); replace BK212 := Aside0.mk (blk_below (bk_ BK212) hb); have NB213_222 := Aside0.mk (nl_ hg BK213); have NB222_213 := Aside0.mk (ng_ hg BK213); replace BK213 := Aside0.mk (blk_below (bk_ BK213) hb); clear hb hbox hg; refine hK.out _ _ ⟨(blk_cell BK212.out 0).trans rfl, (blk_cell BK212.out 1).trans rfl, (blk_cell BK213.out 0).trans rfl, (blk_cell BK213.out 1).trans rfl⟩ (fun hHeld => ?_); clear hK K; refine norm_ (a' := ?_) ?_ ?_; rotate_left
           ·show Act.put _ (some 5) _ = _
            simp only [Act.put, sa_, sb_, sc_, i64_w, i32_w]; rfl
           exact norm_ (by first | (simp only [putAll, Act.put, sa_, sb_, sc_]; done) | (simp only [putAll, Act.put, sa_, sb_, sc_]; rfl)) (hJ1_4 (v216, gb222) _ ⟨hHeld, (by (with_reducible repeat (first | apply Kd.V_alloc | apply Kd.V_drewN | apply Kd.V_drew)); exact Kd.V_mono HO217.out (fun _ hk => ⟨hk.1.1, ⟨hk.1.2, hk.2⟩⟩)), (bk_ BK212), (bk_ BK213), (bk_ BK222), GW222.out, GE222.out, NB212_222.out, NB222_212.out, NB213_222.out, NB222_213.out, (bl_ HB)⟩)
          ·skip; refine box_step ?hg (N := 6) ?hd (cs := #[.int .u64 0, .slice none 0 0]) (t := 30) ?hr ?_; (case hd => rfl); (case hg => rfl); (case hr => first | (go_simp; done) | (go_simp; rfl))
           intro gb223 hg w11 hbox hb; replace HO217 := Aside0.mk (Kd.V_below (Kd.V_elderB (vk_ HO217) gb223 (Nat.le_of_eq hg.symm)) hb); have BK223 := Aside0.mk (hbox); have GW223 := Aside0.mk (gl_ hg HB); have GE223 := Aside0.mk (gl_ hg HB); replace HB := Aside0.mk (below_step (bl_ HB) hb); have NB212_223 := Aside0.mk (nl_ hg BK212); have NB223_212 := Aside0.mk (ng_ hg BK212); replace BK212 := Aside0.mk (blk_below (bk_ BK212) hb); have NB213_223 := Aside0.mk (nl_ hg BK213); have NB223_213 := Aside0.mk (ng_ hg BK213); replace BK213 := Aside0.mk (blk_below (bk_ BK213) hb); clear hb hbox hg; refine hK.out _ _ ⟨(blk_cell BK212.out 0).trans rfl, (blk_cell BK212.out 1).trans rfl, (blk_cell BK213.out 0).trans rfl, (blk_cell BK213.out 1).trans rfl⟩ (fun hHeld => ?_); clear hK K; refine norm_ (a' := ?_) ?_ ?_; rotate_left
           ·show Act.put _ (some 6) _ = _
            simp only [Act.put, sa_, sb_, sc_, i64_w, i32_w]; rfl
           exact norm_ (by first | (simp only [putAll, Act.put, sa_, sb_, sc_]; done) | (simp only [putAll, Act.put, sa_, sb_, sc_]; rfl)) (hJ1_5 (v216, gb223) _ ⟨hHeld, (by (with_reducible repeat (first | apply Kd.V_alloc | apply Kd.V_drewN | apply Kd.V_drew)); exact Kd.V_mono HO217.out (fun _ hk => ⟨hk.1.1, ⟨hk.1.2, hk.2⟩⟩)), (bk_ BK212), (bk_ BK213), (bk_ BK223), GW223.out, GE223.out, NB212_223.out, NB223_212.out, NB213_223.out, NB223_213.out, (bl_ HB)⟩)
        ·skip; rintro ⟨gb222, gb223⟩ w11 ⟨hS_, h0_, h1_, h2_, h3_, h4_, h5_, h6_, h7_, h8_, h9_, h10_, h11_, h12_, h13_, h14_, h15_, h16_, h17_, h18_⟩
         have n0_ : Aside0 (w11.heap[gb212]? = some (.cells #[.int .u64 a0_0, .slice A0_1 l0_1.length c0_1] 25 (0, 0))) := ⟨h0_⟩; have n1_ : Aside0 (w11.heap[gb213]? = some (.cells #[.int .u64 a1_0, .slice A1_1 l1_1.length c1_1] 25 (0, 0))) := ⟨h1_⟩; have n2_ : Aside0 (w11.heap[gb222]? = some (.cells #[.int .u64 0, .slice none 0 0] 30 (0, 0))) := ⟨h2_⟩; have n3_ : Aside0 (w11.heap[gb223]? = some (.cells #[.int .u64 0, .slice none 0 0] 30 (0, 0))) := ⟨h3_⟩; have n4_ : Aside0 (w.heap.size ≤ gb222) := ⟨h4_⟩; have n5_ : Aside0 (w.heap.size ≤ gb222) := ⟨h5_⟩; have n6_ : Aside0 (gb212 ≠ gb222) := ⟨h6_⟩; have n7_ : Aside0 (gb222 ≠ gb212) := ⟨h7_⟩; have n8_ : Aside0 (gb213 ≠ gb222) := ⟨h8_⟩; have n9_ : Aside0 (gb222 ≠ gb213) := ⟨h9_⟩; have n10_ : Aside0 (gb223 ≠ gb222) := ⟨h10_⟩; have n11_ : Aside0 (gb222 ≠ gb223) := ⟨h11_⟩; have n12_ : Aside0 (w.heap.size ≤ gb223) := ⟨h12_⟩; have n13_ : Aside0 (w.heap.size ≤ gb223) := ⟨h13_⟩; have n14_ : Aside0 (gb212 ≠ gb223) := ⟨h14_⟩; have n15_ : Aside0 (gb223 ≠ gb212) := ⟨h15_⟩; have n16_ : Aside0 (gb213 ≠ gb223) := ⟨h16_⟩; have n17_ : Aside0 (gb223 ≠ gb213) := ⟨h17_⟩; have n18_ : Aside0 (Below w.heap.size w w11) := ⟨h18_⟩; clear BK212; clear BK213; clear HB; clear h0_ h1_ h2_ h3_ h4_ h5_ h6_ h7_ h8_ h9_ h10_ h11_ h12_ h13_ h14_ h15_ h16_ h17_ h18_; have BK212 := n0_; have BK213 := n1_; have BK222 := n2_; have BK223 := n3_; have GW222 := n4_; have GE222 := n5_; have NB212_222 := n6_; have NB222_212 := n7_; have NB213_222 := n8_
         have NB222_213 := n9_; have NB223_222 := n10_; have NB222_223 := n11_; have GW223 := n12_; have GE223 := n13_; have NB212_223 := n14_; have NB223_212 := n15_; have NB213_223 := n16_; have NB223_213 := n17_; have HB := n18_; clear n0_ n1_ n2_ n3_ n4_ n5_ n6_ n7_ n8_ n9_ n10_ n11_ n12_ n13_ n14_ n15_ n16_ n17_ n18_; have hHeld : w11.cell? ⟨gb212, 0, none⟩ = some (.int .u64 a0_0) ∧ w11.cell? ⟨gb212, 1, none⟩ = some (.slice A0_1 l0_1.length c0_1) ∧ w11.cell? ⟨gb213, 0, none⟩ = some (.int .u64 a1_0) ∧ w11.cell? ⟨gb213, 1, none⟩ = some (.slice A1_1 l1_1.length c1_1) := hS_; refine norm_ (a' := ?_) ?_ ?_; rotate_left
         ·simp only [putAll, Act.put, sa_, sb_, sc_]; rfl
         refine one_ (i := 1) (N := some 12) (mB 8 55) rfl rfl (one_of HT_.out (by kernel_rfl)) (by decide) (fun K hK => ?_); refine goes_ Tryd.func10 (by kernel_rfl) rfl #[.agg #[.int .u64 a0_0, .slice A0_1 l0_1.length c0_1]] (by rfl) rfl rfl (by (try simp only [List.map_toArray, List.map_cons, List.map_nil]); first | done | rfl | (simp only [List.length_drop, List.length_take]; rfl)) ?_; with_reducible refine (rillmeterlaw13_ref.calls a0_0 (fun k_ => k_ < w.heap.size) _ _ l0_1 t214 t215 _ ?side1 A3.out).mono ?_
         (case side1 => exact Kd.V_mk HC0_1.out (Kd.F_below (Kd.C_F (Kd.heap_slice 4 Kd.heap_bool) HR0_1.out) (bl_ HB))); rintro e w12 ⟨v216, rfl, ho0, hb⟩; refine ⟨_, rfl, ?_⟩; have HO217 := Aside0.mk (Kd.V_lower (Kd.V_mono (ok' := fun k_ => k_ ≠ gb212 ∧ k_ ≠ gb213 ∧ k_ ≠ gb222 ∧ k_ ≠ gb223) ho0 (fun k_ hk_ => ⟨Or.elim hk_ (fun hs_ => fun e_ => Nat.not_le.2 hs_ (by rw [e_]; exact GW212.out)) (fun hn_ => (Kd.freshB (g := gb212) (o := .cells #[.int .u64 a0_0, .slice A0_1 l0_1.length c0_1] 25 (0, 0)) (bk_ BK212) k_ hn_)), Or.elim hk_ (fun hs_ => fun e_ => Nat.not_le.2 hs_ (by rw [e_]; exact GW213.out)) (fun hn_ => (Kd.freshB (g := gb213) (o := .cells #[.int .u64 a1_0, .slice A1_1 l1_1.length c1_1] 25 (0, 0)) (bk_ BK213) k_ hn_)), Or.elim hk_ (fun hs_ => fun e_ => Nat.not_le.2 hs_ (by rw [e_]; exact GW222.out)) (fun hn_ => (Kd.freshB (g := gb222) (o := .cells #[.int .u64 0, .slice none 0 0] 30 (0, 0)) (bk_ BK222) k_ hn_)), Or.elim hk_ (fun hs_ => fun e_ => Nat.not_le.2 hs_ (by rw [e_]; exact GW223.out)) (fun hn_ => (Kd.freshB (g := gb223) (o := .cells #[.int .u64 0, .slice none 0 0] 30 (0, 0)) (bk_ BK223) k_ hn_))⟩)) (below_size (bl_ HB))); replace BK212 := Aside0.mk (blk_below (bk_ BK212) hb); replace BK213 := Aside0.mk (blk_below (bk_ BK213) hb); replace BK222 := Aside0.mk (blk_below (bk_ BK222) hb); replace BK223 := Aside0.mk (blk_below (bk_ BK223) hb); replace HB := Aside0.mk (below_step (bl_ HB) hb); (try clear hb); (try clear ho0)
         refine hK.out _ _ ⟨(blk_cell BK212.out 0).trans rfl, (blk_cell BK212.out 1).trans rfl, (blk_cell BK213.out 0).trans rfl, (blk_cell BK213.out 1).trans rfl⟩ (fun hHeld => ?_); clear hK K; refine norm_ (a' := ?_) ?_ ?_; rotate_left
         ·show Act.put _ (some 12) _ = _
          simp only [Act.put, sa_, sb_, sc_, i64_w, i32_w]; rfl
         exact norm_ (by first | (simp only [putAll, Act.put, sa_, sb_, sc_]; done) | (simp only [putAll, Act.put, sa_, sb_, sc_]; rfl)) (hJ1_4_5 (v216, gb222, gb223) _ ⟨hHeld, (vk_ HO217), (bk_ BK212), (bk_ BK213), (bk_ BK222), (bk_ BK223), GW222.out, GE222.out, NB212_222.out, NB222_212.out, NB213_222.out, NB222_213.out, NB223_222.out, NB222_223.out, GW223.out, GE223.out, NB212_223.out, NB223_212.out, NB213_223.out, NB223_213.out, (bl_ HB)⟩)
       ·skip; rintro ⟨v216, gb223⟩ w11 ⟨hS_, h0_, h1_, h2_, h3_, h4_, h5_, h6_, h7_, h8_, h9_, h10_⟩
        have n0_ : Aside0 (Kd.V (Kd.slice 4 Kd.bool) 33 w11 w.heap.size (fun k_ => k_ ≠ gb212 ∧ k_ ≠ gb213 ∧ k_ ≠ gb223) v216 t215) := ⟨h0_⟩; have n1_ : Aside0 (w11.heap[gb212]? = some (.cells #[.int .u64 a0_0, .slice A0_1 l0_1.length c0_1] 25 (0, 0))) := ⟨h1_⟩; have n2_ : Aside0 (w11.heap[gb213]? = some (.cells #[.int .u64 a1_0, .slice A1_1 l1_1.length c1_1] 25 (0, 0))) := ⟨h2_⟩; have n3_ : Aside0 (w11.heap[gb223]? = some (.cells #[.int .u64 0, .slice none 0 0] 30 (0, 0))) := ⟨h3_⟩; have n4_ : Aside0 (w.heap.size ≤ gb223) := ⟨h4_⟩; have n5_ : Aside0 (w.heap.size ≤ gb223) := ⟨h5_⟩; have n6_ : Aside0 (gb212 ≠ gb223) := ⟨h6_⟩; have n7_ : Aside0 (gb223 ≠ gb212) := ⟨h7_⟩; have n8_ : Aside0 (gb213 ≠ gb223) := ⟨h8_⟩; have n9_ : Aside0 (gb223 ≠ gb213) := ⟨h9_⟩; have n10_ : Aside0 (Below w.heap.size w w11) := ⟨h10_⟩; clear BK212; clear BK213; clear HB; clear h0_ h1_ h2_ h3_ h4_ h5_ h6_ h7_ h8_ h9_ h10_; have HO217 := n0_; have BK212 := n1_; have BK213 := n2_; have BK223 := n3_; have GW223 := n4_; have GE223 := n5_; have NB212_223 := n6_; have NB223_212 := n7_; have NB213_223 := n8_; have NB223_213 := n9_; have HB := n10_; clear n0_ n1_ n2_ n3_ n4_ n5_ n6_ n7_ n8_ n9_ n10_; have hHeld : w11.cell? ⟨gb212, 0, none⟩ = some (.int .u64 a0_0) ∧ w11.cell? ⟨gb212, 1, none⟩ = some (.slice A0_1 l0_1.length c0_1) ∧ w11.cell? ⟨gb213, 0, none⟩ = some (.int .u64 a1_0) ∧ w11.cell? ⟨gb213, 1, none⟩ = some (.slice A1_1 l1_1.length c1_1) := hS_; refine norm_ (a' := ?_) ?_ ?_; rotate_left
        ·simp only [putAll, Act.put, sa_, sb_, sc_]; rfl
        refine two_ (i := 3) (j := 4) (Ni := some 14) (Nj := some 5) (mB 8 47) (mB 8 55) rfl rfl rfl rfl (two_of HT_.out (by kernel_rfl)) (by decide) (by decide) (fun K hK => ?_) (fun K hK => ?_)
        ·skip; refine goes_ Tryd.func10 (by kernel_rfl) rfl #[.agg #[.int .u64 a1_0, .slice A1_1 l1_1.length c1_1]] (by rfl) rfl rfl (by (try simp only [List.map_toArray, List.map_cons, List.map_nil]); first | done | rfl | (simp only [List.length_drop, List.length_take]; rfl)) ?_
         with_reducible refine (rillmeterlaw13_ref.calls a1_0 (fun k_ => k_ < w.heap.size) _ _ l1_1 t218 t219 _ ?side1 A4.out).mono ?_
         (case side1 => exact Kd.V_mk HC1_1.out (Kd.F_below (Kd.C_F (Kd.heap_slice 4 Kd.heap_bool) HR1_1.out) (bl_ HB))); rintro e w12 ⟨v220, rfl, ho0, hb⟩; refine ⟨_, rfl, ?_⟩; replace HO217 := Aside0.mk (Kd.V_below (vk_ HO217) hb); have HO221 := Aside0.mk (Kd.V_lower (Kd.V_mono (ok' := fun k_ => k_ ≠ gb212 ∧ k_ ≠ gb213 ∧ k_ ≠ gb223) ho0 (fun k_ hk_ => ⟨Or.elim hk_ (fun hs_ => fun e_ => Nat.not_le.2 hs_ (by rw [e_]; exact GW212.out)) (fun hn_ => (Kd.freshB (g := gb212) (o := .cells #[.int .u64 a0_0, .slice A0_1 l0_1.length c0_1] 25 (0, 0)) (bk_ BK212) k_ hn_)), Or.elim hk_ (fun hs_ => fun e_ => Nat.not_le.2 hs_ (by rw [e_]; exact GW213.out)) (fun hn_ => (Kd.freshB (g := gb213) (o := .cells #[.int .u64 a1_0, .slice A1_1 l1_1.length c1_1] 25 (0, 0)) (bk_ BK213) k_ hn_)), Or.elim hk_ (fun hs_ => fun e_ => Nat.not_le.2 hs_ (by rw [e_]; exact GW223.out)) (fun hn_ => (Kd.freshB (g := gb223) (o := .cells #[.int .u64 0, .slice none 0 0] 30 (0, 0)) (bk_ BK223) k_ hn_))⟩)) (below_size (bl_ HB))); replace BK212 := Aside0.mk (blk_below (bk_ BK212) hb); replace BK213 := Aside0.mk (blk_below (bk_ BK213) hb); replace BK223 := Aside0.mk (blk_below (bk_ BK223) hb); replace HB := Aside0.mk (below_step (bl_ HB) hb); (try clear hb); (try clear ho0); refine hK.out _ _ ⟨(blk_cell BK212.out 0).trans rfl, (blk_cell BK212.out 1).trans rfl, (blk_cell BK213.out 0).trans rfl, (blk_cell BK213.out 1).trans rfl⟩ (fun hHeld => ?_); clear hK K; refine norm_ (a' := ?_) ?_ ?_; rotate_left
         ·show Act.put _ (some 14) _ = _
          simp only [Act.put, sa_, sb_, sc_, i64_w, i32_w]; rfl
         exact norm_ (by first | (simp only [putAll, Act.put, sa_, sb_, sc_]; done) | (simp only [putAll, Act.put, sa_, sb_, sc_]; rfl)) (hJ1_3_5 (v216, v220, gb223) _ ⟨hHeld, (vk_ HO217), (vk_ HO221), (bk_ BK212), (bk_ BK213), (bk_ BK223), GW223.out, GE223.out, NB212_223.out, NB223_212.out, NB213_223.out, NB223_213.out, (bl_ HB)⟩)
        ·skip; refine box_step ?hg (N := 5) ?hd (cs := #[.int .u64 0, .slice none 0 0]) (t := 30) ?hr ?_; (case hd => rfl); (case hg => rfl); (case hr => first | (go_simp; done) | (go_simp; rfl))
         intro gb222 hg w12 hbox hb; replace HO217 := Aside0.mk (Kd.V_below (Kd.V_elderB (vk_ HO217) gb222 (Nat.le_of_eq hg.symm)) hb); have BK222 := Aside0.mk (hbox); have GW222 := Aside0.mk (gl_ hg HB); have GE222 := Aside0.mk (gl_ hg HB); replace HB := Aside0.mk (below_step (bl_ HB) hb); have NB212_222 := Aside0.mk (nl_ hg BK212); have NB222_212 := Aside0.mk (ng_ hg BK212); replace BK212 := Aside0.mk (blk_below (bk_ BK212) hb); have NB213_222 := Aside0.mk (nl_ hg BK213); have NB222_213 := Aside0.mk (ng_ hg BK213); replace BK213 := Aside0.mk (blk_below (bk_ BK213) hb); have NB223_222 := Aside0.mk (nl_ hg BK223); have NB222_223 := Aside0.mk (ng_ hg BK223); replace BK223 := Aside0.mk (blk_below (bk_ BK223) hb); clear hb hbox hg; refine hK.out _ _ ⟨(blk_cell BK212.out 0).trans rfl, (blk_cell BK212.out 1).trans rfl, (blk_cell BK213.out 0).trans rfl, (blk_cell BK213.out 1).trans rfl⟩ (fun hHeld => ?_); clear hK K; refine norm_ (a' := ?_) ?_ ?_; rotate_left
         ·show Act.put _ (some 5) _ = _
          simp only [Act.put, sa_, sb_, sc_, i64_w, i32_w]; rfl
         exact norm_ (by first | (simp only [putAll, Act.put, sa_, sb_, sc_]; done) | (simp only [putAll, Act.put, sa_, sb_, sc_]; rfl)) (hJ1_4_5 (v216, gb222, gb223) _ ⟨hHeld, (by (with_reducible repeat (first | apply Kd.V_alloc | apply Kd.V_drewN | apply Kd.V_drew)); exact Kd.V_mono HO217.out (fun _ hk => ⟨hk.1.1, ⟨hk.1.2.1, ⟨hk.2, hk.1.2.2⟩⟩⟩)), (bk_ BK212), (bk_ BK213), (bk_ BK222), (bk_ BK223), GW222.out, GE222.out, NB212_222.out, NB222_212.out, NB213_222.out, NB222_213.out, NB223_222.out, NB222_223.out, GW223.out, GE223.out, NB212_223.out, NB223_212.out, NB213_223.out, NB223_213.out, (bl_ HB)⟩)
      ·skip; rintro ⟨v216, gb222⟩ w11 ⟨hS_, h0_, h1_, h2_, h3_, h4_, h5_, h6_, h7_, h8_, h9_, h10_⟩
       have n0_ : Aside0 (Kd.V (Kd.slice 4 Kd.bool) 33 w11 w.heap.size (fun k_ => k_ ≠ gb212 ∧ k_ ≠ gb213 ∧ k_ ≠ gb222) v216 t215) := ⟨h0_⟩; have n1_ : Aside0 (w11.heap[gb212]? = some (.cells #[.int .u64 a0_0, .slice A0_1 l0_1.length c0_1] 25 (0, 0))) := ⟨h1_⟩; have n2_ : Aside0 (w11.heap[gb213]? = some (.cells #[.int .u64 a1_0, .slice A1_1 l1_1.length c1_1] 25 (0, 0))) := ⟨h2_⟩; have n3_ : Aside0 (w11.heap[gb222]? = some (.cells #[.int .u64 0, .slice none 0 0] 30 (0, 0))) := ⟨h3_⟩; have n4_ : Aside0 (w.heap.size ≤ gb222) := ⟨h4_⟩; have n5_ : Aside0 (w.heap.size ≤ gb222) := ⟨h5_⟩; have n6_ : Aside0 (gb212 ≠ gb222) := ⟨h6_⟩; have n7_ : Aside0 (gb222 ≠ gb212) := ⟨h7_⟩; have n8_ : Aside0 (gb213 ≠ gb222) := ⟨h8_⟩; have n9_ : Aside0 (gb222 ≠ gb213) := ⟨h9_⟩; have n10_ : Aside0 (Below w.heap.size w w11) := ⟨h10_⟩; clear BK212; clear BK213; clear HB; clear h0_ h1_ h2_ h3_ h4_ h5_ h6_ h7_ h8_ h9_ h10_; have HO217 := n0_; have BK212 := n1_; have BK213 := n2_; have BK222 := n3_; have GW222 := n4_; have GE222 := n5_; have NB212_222 := n6_; have NB222_212 := n7_; have NB213_222 := n8_; have NB222_213 := n9_; have HB := n10_; clear n0_ n1_ n2_ n3_ n4_ n5_ n6_ n7_ n8_ n9_ n10_; have hHeld : w11.cell? ⟨gb212, 0, none⟩ = some (.int .u64 a0_0) ∧ w11.cell? ⟨gb212, 1, none⟩ = some (.slice A0_1 l0_1.length c0_1) ∧ w11.cell? ⟨gb213, 0, none⟩ = some (.int .u64 a1_0) ∧ w11.cell? ⟨gb213, 1, none⟩ = some (.slice A1_1 l1_1.length c1_1) := hS_; refine norm_ (a' := ?_) ?_ ?_; rotate_left
       ·simp only [putAll, Act.put, sa_, sb_, sc_]; rfl
       refine two_ (i := 3) (j := 5) (Ni := some 14) (Nj := some 6) (mB 8 31) (mB 8 55) rfl rfl rfl rfl (two_of HT_.out (by kernel_rfl)) (by decide) (by decide) (fun K hK => ?_) (fun K hK => ?_)
       ·skip; refine goes_ Tryd.func10 (by kernel_rfl) rfl #[.agg #[.int .u64 a1_0, .slice A1_1 l1_1.length c1_1]] (by rfl) rfl rfl (by (try simp only [List.map_toArray, List.map_cons, List.map_nil]); first | done | rfl | (simp only [List.length_drop, List.length_take]; rfl)) ?_
        with_reducible refine (rillmeterlaw13_ref.calls a1_0 (fun k_ => k_ < w.heap.size) _ _ l1_1 t218 t219 _ ?side1 A4.out).mono ?_
        (case side1 => exact Kd.V_mk HC1_1.out (Kd.F_below (Kd.C_F (Kd.heap_slice 4 Kd.heap_bool) HR1_1.out) (bl_ HB))); rintro e w12 ⟨v220, rfl, ho0, hb⟩; refine ⟨_, rfl, ?_⟩; replace HO217 := Aside0.mk (Kd.V_below (vk_ HO217) hb); have HO221 := Aside0.mk (Kd.V_lower (Kd.V_mono (ok' := fun k_ => k_ ≠ gb212 ∧ k_ ≠ gb213 ∧ k_ ≠ gb222) ho0 (fun k_ hk_ => ⟨Or.elim hk_ (fun hs_ => fun e_ => Nat.not_le.2 hs_ (by rw [e_]; exact GW212.out)) (fun hn_ => (Kd.freshB (g := gb212) (o := .cells #[.int .u64 a0_0, .slice A0_1 l0_1.length c0_1] 25 (0, 0)) (bk_ BK212) k_ hn_)), Or.elim hk_ (fun hs_ => fun e_ => Nat.not_le.2 hs_ (by rw [e_]; exact GW213.out)) (fun hn_ => (Kd.freshB (g := gb213) (o := .cells #[.int .u64 a1_0, .slice A1_1 l1_1.length c1_1] 25 (0, 0)) (bk_ BK213) k_ hn_)), Or.elim hk_ (fun hs_ => fun e_ => Nat.not_le.2 hs_ (by rw [e_]; exact GW222.out)) (fun hn_ => (Kd.freshB (g := gb222) (o := .cells #[.int .u64 0, .slice none 0 0] 30 (0, 0)) (bk_ BK222) k_ hn_))⟩)) (below_size (bl_ HB))); replace BK212 := Aside0.mk (blk_below (bk_ BK212) hb); replace BK213 := Aside0.mk (blk_below (bk_ BK213) hb); replace BK222 := Aside0.mk (blk_below (bk_ BK222) hb); replace HB := Aside0.mk (below_step (bl_ HB) hb); (try clear hb); (try clear ho0); refine hK.out _ _ ⟨(blk_cell BK212.out 0).trans rfl, (blk_cell BK212.out 1).trans rfl, (blk_cell BK213.out 0).trans rfl, (blk_cell BK213.out 1).trans rfl⟩ (fun hHeld => ?_); clear hK K; refine norm_ (a' := ?_) ?_ ?_; rotate_left
        ·show Act.put _ (some 14) _ = _
         simp only [Act.put, sa_, sb_, sc_, i64_w, i32_w]; rfl
        exact norm_ (by first | (simp only [putAll, Act.put, sa_, sb_, sc_]; done) | (simp only [putAll, Act.put, sa_, sb_, sc_]; rfl)) (hJ1_3_4 (v216, v220, gb222) _ ⟨hHeld, (vk_ HO217), (vk_ HO221), (bk_ BK212), (bk_ BK213), (bk_ BK222), GW222.out, GE222.out, NB212_222.out, NB222_212.out, NB213_222.out, NB222_213.out, (bl_ HB)⟩)
       ·skip; refine box_step ?hg (N := 6) ?hd (cs := #[.int .u64 0, .slice none 0 0]) (t := 30) ?hr ?_; (case hd => rfl); (case hg => rfl); (case hr => first | (go_simp; done) | (go_simp; rfl))
        intro gb223 hg w12 hbox hb; replace HO217 := Aside0.mk (Kd.V_below (Kd.V_elderB (vk_ HO217) gb223 (Nat.le_of_eq hg.symm)) hb); have BK223 := Aside0.mk (hbox); have GW223 := Aside0.mk (gl_ hg HB); have GE223 := Aside0.mk (gl_ hg HB); replace HB := Aside0.mk (below_step (bl_ HB) hb); have NB212_223 := Aside0.mk (nl_ hg BK212); have NB223_212 := Aside0.mk (ng_ hg BK212); replace BK212 := Aside0.mk (blk_below (bk_ BK212) hb); have NB213_223 := Aside0.mk (nl_ hg BK213); have NB223_213 := Aside0.mk (ng_ hg BK213); replace BK213 := Aside0.mk (blk_below (bk_ BK213) hb); have NB222_223 := Aside0.mk (nl_ hg BK222); have NB223_222 := Aside0.mk (ng_ hg BK222); replace BK222 := Aside0.mk (blk_below (bk_ BK222) hb); clear hb hbox hg; refine hK.out _ _ ⟨(blk_cell BK212.out 0).trans rfl, (blk_cell BK212.out 1).trans rfl, (blk_cell BK213.out 0).trans rfl, (blk_cell BK213.out 1).trans rfl⟩ (fun hHeld => ?_); clear hK K; refine norm_ (a' := ?_) ?_ ?_; rotate_left
        ·show Act.put _ (some 6) _ = _
         simp only [Act.put, sa_, sb_, sc_, i64_w, i32_w]; rfl
        exact norm_ (by first | (simp only [putAll, Act.put, sa_, sb_, sc_]; done) | (simp only [putAll, Act.put, sa_, sb_, sc_]; rfl)) (hJ1_4_5 (v216, gb222, gb223) _ ⟨hHeld, (by (with_reducible repeat (first | apply Kd.V_alloc | apply Kd.V_drewN | apply Kd.V_drew)); exact Kd.V_mono HO217.out (fun _ hk => ⟨hk.1.1, ⟨hk.1.2.1, ⟨hk.1.2.2, hk.2⟩⟩⟩)), (bk_ BK212), (bk_ BK213), (bk_ BK222), (bk_ BK223), GW222.out, GE222.out, NB212_222.out, NB222_212.out, NB213_222.out, NB222_213.out, NB223_222.out, NB222_223.out, GW223.out, GE223.out, NB212_223.out, NB223_212.out, NB213_223.out, NB223_213.out, (bl_ HB)⟩)
     ·skip; rintro ⟨v216, v220⟩ w11 ⟨hS_, h0_, h1_, h2_, h3_, h4_⟩
      have n0_ : Aside0 (Kd.V (Kd.slice 4 Kd.bool) 33 w11 w.heap.size (fun k_ => k_ ≠ gb212 ∧ k_ ≠ gb213) v216 t215) := ⟨h0_⟩; have n1_ : Aside0 (Kd.V (Kd.slice 4 Kd.bool) 33 w11 w.heap.size (fun k_ => k_ ≠ gb212 ∧ k_ ≠ gb213) v220 t219) := ⟨h1_⟩; have n2_ : Aside0 (w11.heap[gb212]? = some (.cells #[.int .u64 a0_0, .slice A0_1 l0_1.length c0_1] 25 (0, 0))) := ⟨h2_⟩; have n3_ : Aside0 (w11.heap[gb213]? = some (.cells #[.int .u64 a1_0, .slice A1_1 l1_1.length c1_1] 25 (0, 0))) := ⟨h3_⟩; have n4_ : Aside0 (Below w.heap.size w w11) := ⟨h4_⟩; clear BK212; clear BK213; clear HB; clear h0_ h1_ h2_ h3_ h4_; have HO217 := n0_; have HO221 := n1_; have BK212 := n2_; have BK213 := n3_; have HB := n4_; clear n0_ n1_ n2_ n3_ n4_; have hHeld : w11.cell? ⟨gb212, 0, none⟩ = some (.int .u64 a0_0) ∧ w11.cell? ⟨gb212, 1, none⟩ = some (.slice A0_1 l0_1.length c0_1) ∧ w11.cell? ⟨gb213, 0, none⟩ = some (.int .u64 a1_0) ∧ w11.cell? ⟨gb213, 1, none⟩ = some (.slice A1_1 l1_1.length c1_1) := hS_; refine norm_ (a' := ?_) ?_ ?_; rotate_left
      ·simp only [putAll, Act.put, sa_, sb_, sc_]; rfl
      refine two_ (i := 4) (j := 5) (Ni := some 5) (Nj := some 6) (mB 8 31) (mB 8 47) rfl rfl rfl rfl (two_of HT_.out (by kernel_rfl)) (by decide) (by decide) (fun K hK => ?_) (fun K hK => ?_)
      ·skip; refine box_step ?hg (N := 5) ?hd (cs := #[.int .u64 0, .slice none 0 0]) (t := 30) ?hr ?_; (case hd => rfl); (case hg => rfl); (case hr => first | (go_simp; done) | (go_simp; rfl))
       intro gb222 hg w12 hbox hb; replace HO217 := Aside0.mk (Kd.V_below (Kd.V_elderB (vk_ HO217) gb222 (Nat.le_of_eq hg.symm)) hb); replace HO221 := Aside0.mk (Kd.V_below (Kd.V_elderB (vk_ HO221) gb222 (Nat.le_of_eq hg.symm)) hb); have BK222 := Aside0.mk (hbox); have GW222 := Aside0.mk (gl_ hg HB); have GE222 := Aside0.mk (gl_ hg HB); replace HB := Aside0.mk (below_step (bl_ HB) hb); have NB212_222 := Aside0.mk (nl_ hg BK212); have NB222_212 := Aside0.mk (ng_ hg BK212); replace BK212 := Aside0.mk (blk_below (bk_ BK212) hb); have NB213_222 := Aside0.mk (nl_ hg BK213); have NB222_213 := Aside0.mk (ng_ hg BK213); replace BK213 := Aside0.mk (blk_below (bk_ BK213) hb); clear hb hbox hg; refine hK.out _ _ ⟨(blk_cell BK212.out 0).trans rfl, (blk_cell BK212.out 1).trans rfl, (blk_cell BK213.out 0).trans rfl, (blk_cell BK213.out 1).trans rfl⟩ (fun hHeld => ?_); clear hK K; refine norm_ (a' := ?_) ?_ ?_; rotate_left
       ·show Act.put _ (some 5) _ = _
        simp only [Act.put, sa_, sb_, sc_, i64_w, i32_w]; rfl
       exact norm_ (by first | (simp only [putAll, Act.put, sa_, sb_, sc_]; done) | (simp only [putAll, Act.put, sa_, sb_, sc_]; rfl)) (hJ1_3_4 (v216, v220, gb222) _ ⟨hHeld, (by (with_reducible repeat (first | apply Kd.V_alloc | apply Kd.V_drewN | apply Kd.V_drew)); exact Kd.V_mono HO217.out (fun _ hk => ⟨hk.1.1, ⟨hk.1.2, hk.2⟩⟩)), (by (with_reducible repeat (first | apply Kd.V_alloc | apply Kd.V_drewN | apply Kd.V_drew)); exact Kd.V_mono HO221.out (fun _ hk => ⟨hk.1.1, ⟨hk.1.2, hk.2⟩⟩)), (bk_ BK212), (bk_ BK213), (bk_ BK222), GW222.out, GE222.out, NB212_222.out, NB222_212.out, NB213_222.out, NB222_213.out, (bl_ HB)⟩)
      ·skip; refine box_step ?hg (N := 6) ?hd (cs := #[.int .u64 0, .slice none 0 0]) (t := 30) ?hr ?_; (case hd => rfl); (case hg => rfl); (case hr => first | (go_simp; done) | (go_simp; rfl))
       intro gb223 hg w12 hbox hb; replace HO217 := Aside0.mk (Kd.V_below (Kd.V_elderB (vk_ HO217) gb223 (Nat.le_of_eq hg.symm)) hb); replace HO221 := Aside0.mk (Kd.V_below (Kd.V_elderB (vk_ HO221) gb223 (Nat.le_of_eq hg.symm)) hb); have BK223 := Aside0.mk (hbox); have GW223 := Aside0.mk (gl_ hg HB); have GE223 := Aside0.mk (gl_ hg HB); replace HB := Aside0.mk (below_step (bl_ HB) hb); have NB212_223 := Aside0.mk (nl_ hg BK212); have NB223_212 := Aside0.mk (ng_ hg BK212); replace BK212 := Aside0.mk (blk_below (bk_ BK212) hb); have NB213_223 := Aside0.mk (nl_ hg BK213); have NB223_213 := Aside0.mk (ng_ hg BK213); replace BK213 := Aside0.mk (blk_below (bk_ BK213) hb); clear hb hbox hg; refine hK.out _ _ ⟨(blk_cell BK212.out 0).trans rfl, (blk_cell BK212.out 1).trans rfl, (blk_cell BK213.out 0).trans rfl, (blk_cell BK213.out 1).trans rfl⟩ (fun hHeld => ?_); clear hK K; refine norm_ (a' := ?_) ?_ ?_; rotate_left
       ·show Act.put _ (some 6) _ = _
        simp only [Act.put, sa_, sb_, sc_, i64_w, i32_w]; rfl
       exact norm_ (by first | (simp only [putAll, Act.put, sa_, sb_, sc_]; done) | (simp only [putAll, Act.put, sa_, sb_, sc_]; rfl)) (hJ1_3_5 (v216, v220, gb223) _ ⟨hHeld, (by (with_reducible repeat (first | apply Kd.V_alloc | apply Kd.V_drewN | apply Kd.V_drew)); exact Kd.V_mono HO217.out (fun _ hk => ⟨hk.1.1, ⟨hk.1.2, hk.2⟩⟩)), (by (with_reducible repeat (first | apply Kd.V_alloc | apply Kd.V_drewN | apply Kd.V_drew)); exact Kd.V_mono HO221.out (fun _ hk => ⟨hk.1.1, ⟨hk.1.2, hk.2⟩⟩)), (bk_ BK212), (bk_ BK213), (bk_ BK223), GW223.out, GE223.out, NB212_223.out, NB223_212.out, NB213_223.out, NB223_213.out, (bl_ HB)⟩)
    ·skip; rintro ⟨v216, gb222, gb223⟩ w12 ⟨hS_, h0_, h1_, h2_, h3_, h4_, h5_, h6_, h7_, h8_, h9_, h10_, h11_, h12_, h13_, h14_, h15_, h16_, h17_, h18_, h19_⟩
     have n0_ : Aside0 (Kd.V (Kd.slice 4 Kd.bool) 33 w12 w.heap.size (fun k_ => k_ ≠ gb212 ∧ k_ ≠ gb213 ∧ k_ ≠ gb222 ∧ k_ ≠ gb223) v216 t215) := ⟨h0_⟩; have n1_ : Aside0 (w12.heap[gb212]? = some (.cells #[.int .u64 a0_0, .slice A0_1 l0_1.length c0_1] 25 (0, 0))) := ⟨h1_⟩; have n2_ : Aside0 (w12.heap[gb213]? = some (.cells #[.int .u64 a1_0, .slice A1_1 l1_1.length c1_1] 25 (0, 0))) := ⟨h2_⟩; have n3_ : Aside0 (w12.heap[gb222]? = some (.cells #[.int .u64 0, .slice none 0 0] 30 (0, 0))) := ⟨h3_⟩; have n4_ : Aside0 (w12.heap[gb223]? = some (.cells #[.int .u64 0, .slice none 0 0] 30 (0, 0))) := ⟨h4_⟩; have n5_ : Aside0 (w.heap.size ≤ gb222) := ⟨h5_⟩; have n6_ : Aside0 (w.heap.size ≤ gb222) := ⟨h6_⟩; have n7_ : Aside0 (gb212 ≠ gb222) := ⟨h7_⟩; have n8_ : Aside0 (gb222 ≠ gb212) := ⟨h8_⟩; have n9_ : Aside0 (gb213 ≠ gb222) := ⟨h9_⟩; have n10_ : Aside0 (gb222 ≠ gb213) := ⟨h10_⟩; have n11_ : Aside0 (gb223 ≠ gb222) := ⟨h11_⟩; have n12_ : Aside0 (gb222 ≠ gb223) := ⟨h12_⟩; have n13_ : Aside0 (w.heap.size ≤ gb223) := ⟨h13_⟩; have n14_ : Aside0 (w.heap.size ≤ gb223) := ⟨h14_⟩; have n15_ : Aside0 (gb212 ≠ gb223) := ⟨h15_⟩; have n16_ : Aside0 (gb223 ≠ gb212) := ⟨h16_⟩; have n17_ : Aside0 (gb213 ≠ gb223) := ⟨h17_⟩; have n18_ : Aside0 (gb223 ≠ gb213) := ⟨h18_⟩; have n19_ : Aside0 (Below w.heap.size w w12) := ⟨h19_⟩; clear BK212; clear BK213; clear HB; clear h0_ h1_ h2_ h3_ h4_ h5_ h6_ h7_ h8_ h9_ h10_ h11_ h12_ h13_ h14_ h15_ h16_ h17_ h18_ h19_; have HO217 := n0_; have BK212 := n1_
     have BK213 := n2_; have BK222 := n3_; have BK223 := n4_; have GW222 := n5_; have GE222 := n6_; have NB212_222 := n7_; have NB222_212 := n8_; have NB213_222 := n9_; have NB222_213 := n10_; have NB223_222 := n11_; have NB222_223 := n12_; have GW223 := n13_; have GE223 := n14_; have NB212_223 := n15_; have NB223_212 := n16_; have NB213_223 := n17_; have NB223_213 := n18_; have HB := n19_; clear n0_ n1_ n2_ n3_ n4_ n5_ n6_ n7_ n8_ n9_ n10_ n11_ n12_ n13_ n14_ n15_ n16_ n17_ n18_ n19_; have hHeld : w12.cell? ⟨gb212, 0, none⟩ = some (.int .u64 a0_0) ∧ w12.cell? ⟨gb212, 1, none⟩ = some (.slice A0_1 l0_1.length c0_1) ∧ w12.cell? ⟨gb213, 0, none⟩ = some (.int .u64 a1_0) ∧ w12.cell? ⟨gb213, 1, none⟩ = some (.slice A1_1 l1_1.length c1_1) := hS_; refine norm_ (a' := ?_) ?_ ?_; rotate_left
     ·simp only [putAll, Act.put, sa_, sb_, sc_]; rfl
     refine one_ (i := 3) (N := some 14) (mB 8 63) rfl rfl (one_of HT_.out (by kernel_rfl)) (by decide) (fun K hK => ?_); refine goes_ Tryd.func10 (by kernel_rfl) rfl #[.agg #[.int .u64 a1_0, .slice A1_1 l1_1.length c1_1]] (by rfl) rfl rfl (by (try simp only [List.map_toArray, List.map_cons, List.map_nil]); first | done | rfl | (simp only [List.length_drop, List.length_take]; rfl)) ?_; with_reducible refine (rillmeterlaw13_ref.calls a1_0 (fun k_ => k_ < w.heap.size) _ _ l1_1 t218 t219 _ ?side1 A4.out).mono ?_
     (case side1 => exact Kd.V_mk HC1_1.out (Kd.F_below (Kd.C_F (Kd.heap_slice 4 Kd.heap_bool) HR1_1.out) (bl_ HB))); rintro e w13 ⟨v220, rfl, ho0, hb⟩; refine ⟨_, rfl, ?_⟩; replace HO217 := Aside0.mk (Kd.V_below (vk_ HO217) hb); have HO221 := Aside0.mk (Kd.V_lower (Kd.V_mono (ok' := fun k_ => k_ ≠ gb212 ∧ k_ ≠ gb213 ∧ k_ ≠ gb222 ∧ k_ ≠ gb223) ho0 (fun k_ hk_ => ⟨Or.elim hk_ (fun hs_ => fun e_ => Nat.not_le.2 hs_ (by rw [e_]; exact GW212.out)) (fun hn_ => (Kd.freshB (g := gb212) (o := .cells #[.int .u64 a0_0, .slice A0_1 l0_1.length c0_1] 25 (0, 0)) (bk_ BK212) k_ hn_)), Or.elim hk_ (fun hs_ => fun e_ => Nat.not_le.2 hs_ (by rw [e_]; exact GW213.out)) (fun hn_ => (Kd.freshB (g := gb213) (o := .cells #[.int .u64 a1_0, .slice A1_1 l1_1.length c1_1] 25 (0, 0)) (bk_ BK213) k_ hn_)), Or.elim hk_ (fun hs_ => fun e_ => Nat.not_le.2 hs_ (by rw [e_]; exact GW222.out)) (fun hn_ => (Kd.freshB (g := gb222) (o := .cells #[.int .u64 0, .slice none 0 0] 30 (0, 0)) (bk_ BK222) k_ hn_)), Or.elim hk_ (fun hs_ => fun e_ => Nat.not_le.2 hs_ (by rw [e_]; exact GW223.out)) (fun hn_ => (Kd.freshB (g := gb223) (o := .cells #[.int .u64 0, .slice none 0 0] 30 (0, 0)) (bk_ BK223) k_ hn_))⟩)) (below_size (bl_ HB))); replace BK212 := Aside0.mk (blk_below (bk_ BK212) hb); replace BK213 := Aside0.mk (blk_below (bk_ BK213) hb); replace BK222 := Aside0.mk (blk_below (bk_ BK222) hb); replace BK223 := Aside0.mk (blk_below (bk_ BK223) hb); replace HB := Aside0.mk (below_step (bl_ HB) hb); (try clear hb)
     (try clear ho0); refine hK.out _ _ ⟨(blk_cell BK212.out 0).trans rfl, (blk_cell BK212.out 1).trans rfl, (blk_cell BK213.out 0).trans rfl, (blk_cell BK213.out 1).trans rfl⟩ (fun hHeld => ?_); clear hK K; refine norm_ (a' := ?_) ?_ ?_; rotate_left
     ·show Act.put _ (some 14) _ = _
      simp only [Act.put, sa_, sb_, sc_, i64_w, i32_w]; rfl
     exact norm_ (by first | (simp only [putAll, Act.put, sa_, sb_, sc_]; done) | (simp only [putAll, Act.put, sa_, sb_, sc_]; rfl)) (hJ1_3_4_5 (v216, v220, gb222, gb223) _ ⟨hHeld, (vk_ HO217), (vk_ HO221), (bk_ BK212), (bk_ BK213), (bk_ BK222), (bk_ BK223), GW222.out, GE222.out, NB212_222.out, NB222_212.out, NB213_222.out, NB222_213.out, NB223_222.out, NB222_223.out, GW223.out, GE223.out, NB212_223.out, NB223_212.out, NB213_223.out, NB223_213.out, (bl_ HB)⟩)
   ·skip; rintro ⟨v216, v220, gb223⟩ w12 ⟨hS_, h0_, h1_, h2_, h3_, h4_, h5_, h6_, h7_, h8_, h9_, h10_, h11_⟩
    have n0_ : Aside0 (Kd.V (Kd.slice 4 Kd.bool) 33 w12 w.heap.size (fun k_ => k_ ≠ gb212 ∧ k_ ≠ gb213 ∧ k_ ≠ gb223) v216 t215) := ⟨h0_⟩; have n1_ : Aside0 (Kd.V (Kd.slice 4 Kd.bool) 33 w12 w.heap.size (fun k_ => k_ ≠ gb212 ∧ k_ ≠ gb213 ∧ k_ ≠ gb223) v220 t219) := ⟨h1_⟩; have n2_ : Aside0 (w12.heap[gb212]? = some (.cells #[.int .u64 a0_0, .slice A0_1 l0_1.length c0_1] 25 (0, 0))) := ⟨h2_⟩; have n3_ : Aside0 (w12.heap[gb213]? = some (.cells #[.int .u64 a1_0, .slice A1_1 l1_1.length c1_1] 25 (0, 0))) := ⟨h3_⟩; have n4_ : Aside0 (w12.heap[gb223]? = some (.cells #[.int .u64 0, .slice none 0 0] 30 (0, 0))) := ⟨h4_⟩; have n5_ : Aside0 (w.heap.size ≤ gb223) := ⟨h5_⟩; have n6_ : Aside0 (w.heap.size ≤ gb223) := ⟨h6_⟩; have n7_ : Aside0 (gb212 ≠ gb223) := ⟨h7_⟩; have n8_ : Aside0 (gb223 ≠ gb212) := ⟨h8_⟩; have n9_ : Aside0 (gb213 ≠ gb223) := ⟨h9_⟩; have n10_ : Aside0 (gb223 ≠ gb213) := ⟨h10_⟩; have n11_ : Aside0 (Below w.heap.size w w12) := ⟨h11_⟩; clear BK212; clear BK213; clear HB; clear h0_ h1_ h2_ h3_ h4_ h5_ h6_ h7_ h8_ h9_ h10_ h11_; have HO217 := n0_; have HO221 := n1_; have BK212 := n2_; have BK213 := n3_; have BK223 := n4_; have GW223 := n5_; have GE223 := n6_; have NB212_223 := n7_; have NB223_212 := n8_; have NB213_223 := n9_; have NB223_213 := n10_; have HB := n11_; clear n0_ n1_ n2_ n3_ n4_ n5_ n6_ n7_ n8_ n9_ n10_ n11_
    have hHeld : w12.cell? ⟨gb212, 0, none⟩ = some (.int .u64 a0_0) ∧ w12.cell? ⟨gb212, 1, none⟩ = some (.slice A0_1 l0_1.length c0_1) ∧ w12.cell? ⟨gb213, 0, none⟩ = some (.int .u64 a1_0) ∧ w12.cell? ⟨gb213, 1, none⟩ = some (.slice A1_1 l1_1.length c1_1) := hS_; refine norm_ (a' := ?_) ?_ ?_; rotate_left
    ·simp only [putAll, Act.put, sa_, sb_, sc_]; rfl
    refine one_ (i := 4) (N := some 5) (mB 8 63) rfl rfl (one_of HT_.out (by kernel_rfl)) (by decide) (fun K hK => ?_); refine box_step ?hg (N := 5) ?hd (cs := #[.int .u64 0, .slice none 0 0]) (t := 30) ?hr ?_; (case hd => rfl); (case hg => rfl); (case hr => first | (go_simp; done) | (go_simp; rfl)); intro gb222 hg w13 hbox hb; replace HO217 := Aside0.mk (Kd.V_below (Kd.V_elderB (vk_ HO217) gb222 (Nat.le_of_eq hg.symm)) hb); replace HO221 := Aside0.mk (Kd.V_below (Kd.V_elderB (vk_ HO221) gb222 (Nat.le_of_eq hg.symm)) hb); have BK222 := Aside0.mk (hbox); have GW222 := Aside0.mk (gl_ hg HB); have GE222 := Aside0.mk (gl_ hg HB); replace HB := Aside0.mk (below_step (bl_ HB) hb); have NB212_222 := Aside0.mk (nl_ hg BK212); have NB222_212 := Aside0.mk (ng_ hg BK212); replace BK212 := Aside0.mk (blk_below (bk_ BK212) hb); have NB213_222 := Aside0.mk (nl_ hg BK213); have NB222_213 := Aside0.mk (ng_ hg BK213); replace BK213 := Aside0.mk (blk_below (bk_ BK213) hb); have NB223_222 := Aside0.mk (nl_ hg BK223); have NB222_223 := Aside0.mk (ng_ hg BK223); replace BK223 := Aside0.mk (blk_below (bk_ BK223) hb); clear hb hbox hg; refine hK.out _ _ ⟨(blk_cell BK212.out 0).trans rfl, (blk_cell BK212.out 1).trans rfl, (blk_cell BK213.out 0).trans rfl, (blk_cell BK213.out 1).trans rfl⟩ (fun hHeld => ?_); clear hK K; refine norm_ (a' := ?_) ?_ ?_; rotate_left
    ·show Act.put _ (some 5) _ = _
     simp only [Act.put, sa_, sb_, sc_, i64_w, i32_w]; rfl
    exact norm_ (by first | (simp only [putAll, Act.put, sa_, sb_, sc_]; done) | (simp only [putAll, Act.put, sa_, sb_, sc_]; rfl)) (hJ1_3_4_5 (v216, v220, gb222, gb223) _ ⟨hHeld, (by (with_reducible repeat (first | apply Kd.V_alloc | apply Kd.V_drewN | apply Kd.V_drew)); exact Kd.V_mono HO217.out (fun _ hk => ⟨hk.1.1, ⟨hk.1.2.1, ⟨hk.2, hk.1.2.2⟩⟩⟩)), (by (with_reducible repeat (first | apply Kd.V_alloc | apply Kd.V_drewN | apply Kd.V_drew)); exact Kd.V_mono HO221.out (fun _ hk => ⟨hk.1.1, ⟨hk.1.2.1, ⟨hk.2, hk.1.2.2⟩⟩⟩)), (bk_ BK212), (bk_ BK213), (bk_ BK222), (bk_ BK223), GW222.out, GE222.out, NB212_222.out, NB222_212.out, NB213_222.out, NB222_213.out, NB223_222.out, NB222_223.out, GW223.out, GE223.out, NB212_223.out, NB223_212.out, NB213_223.out, NB223_213.out, (bl_ HB)⟩)
  ·skip; rintro ⟨v216, v220, gb222⟩ w12 ⟨hS_, h0_, h1_, h2_, h3_, h4_, h5_, h6_, h7_, h8_, h9_, h10_, h11_⟩
   have n0_ : Aside0 (Kd.V (Kd.slice 4 Kd.bool) 33 w12 w.heap.size (fun k_ => k_ ≠ gb212 ∧ k_ ≠ gb213 ∧ k_ ≠ gb222) v216 t215) := ⟨h0_⟩; have n1_ : Aside0 (Kd.V (Kd.slice 4 Kd.bool) 33 w12 w.heap.size (fun k_ => k_ ≠ gb212 ∧ k_ ≠ gb213 ∧ k_ ≠ gb222) v220 t219) := ⟨h1_⟩; have n2_ : Aside0 (w12.heap[gb212]? = some (.cells #[.int .u64 a0_0, .slice A0_1 l0_1.length c0_1] 25 (0, 0))) := ⟨h2_⟩; have n3_ : Aside0 (w12.heap[gb213]? = some (.cells #[.int .u64 a1_0, .slice A1_1 l1_1.length c1_1] 25 (0, 0))) := ⟨h3_⟩; have n4_ : Aside0 (w12.heap[gb222]? = some (.cells #[.int .u64 0, .slice none 0 0] 30 (0, 0))) := ⟨h4_⟩; have n5_ : Aside0 (w.heap.size ≤ gb222) := ⟨h5_⟩; have n6_ : Aside0 (w.heap.size ≤ gb222) := ⟨h6_⟩; have n7_ : Aside0 (gb212 ≠ gb222) := ⟨h7_⟩; have n8_ : Aside0 (gb222 ≠ gb212) := ⟨h8_⟩; have n9_ : Aside0 (gb213 ≠ gb222) := ⟨h9_⟩; have n10_ : Aside0 (gb222 ≠ gb213) := ⟨h10_⟩; have n11_ : Aside0 (Below w.heap.size w w12) := ⟨h11_⟩; clear BK212; clear BK213; clear HB; clear h0_ h1_ h2_ h3_ h4_ h5_ h6_ h7_ h8_ h9_ h10_ h11_; have HO217 := n0_; have HO221 := n1_; have BK212 := n2_; have BK213 := n3_; have BK222 := n4_; have GW222 := n5_; have GE222 := n6_; have NB212_222 := n7_; have NB222_212 := n8_; have NB213_222 := n9_; have NB222_213 := n10_; have HB := n11_; clear n0_ n1_ n2_ n3_ n4_ n5_ n6_ n7_ n8_ n9_ n10_ n11_
   have hHeld : w12.cell? ⟨gb212, 0, none⟩ = some (.int .u64 a0_0) ∧ w12.cell? ⟨gb212, 1, none⟩ = some (.slice A0_1 l0_1.length c0_1) ∧ w12.cell? ⟨gb213, 0, none⟩ = some (.int .u64 a1_0) ∧ w12.cell? ⟨gb213, 1, none⟩ = some (.slice A1_1 l1_1.length c1_1) := hS_; refine norm_ (a' := ?_) ?_ ?_; rotate_left
   ·simp only [putAll, Act.put, sa_, sb_, sc_]; rfl
   refine one_ (i := 5) (N := some 6) (mB 8 63) rfl rfl (one_of HT_.out (by kernel_rfl)) (by decide) (fun K hK => ?_); refine box_step ?hg (N := 6) ?hd (cs := #[.int .u64 0, .slice none 0 0]) (t := 30) ?hr ?_; (case hd => rfl); (case hg => rfl); (case hr => first | (go_simp; done) | (go_simp; rfl)); intro gb223 hg w13 hbox hb; replace HO217 := Aside0.mk (Kd.V_below (Kd.V_elderB (vk_ HO217) gb223 (Nat.le_of_eq hg.symm)) hb); replace HO221 := Aside0.mk (Kd.V_below (Kd.V_elderB (vk_ HO221) gb223 (Nat.le_of_eq hg.symm)) hb); have BK223 := Aside0.mk (hbox); have GW223 := Aside0.mk (gl_ hg HB); have GE223 := Aside0.mk (gl_ hg HB); replace HB := Aside0.mk (below_step (bl_ HB) hb); have NB212_223 := Aside0.mk (nl_ hg BK212); have NB223_212 := Aside0.mk (ng_ hg BK212); replace BK212 := Aside0.mk (blk_below (bk_ BK212) hb); have NB213_223 := Aside0.mk (nl_ hg BK213); have NB223_213 := Aside0.mk (ng_ hg BK213); replace BK213 := Aside0.mk (blk_below (bk_ BK213) hb); have NB222_223 := Aside0.mk (nl_ hg BK222); have NB223_222 := Aside0.mk (ng_ hg BK222); replace BK222 := Aside0.mk (blk_below (bk_ BK222) hb); clear hb hbox hg; refine hK.out _ _ ⟨(blk_cell BK212.out 0).trans rfl, (blk_cell BK212.out 1).trans rfl, (blk_cell BK213.out 0).trans rfl, (blk_cell BK213.out 1).trans rfl⟩ (fun hHeld => ?_); clear hK K; refine norm_ (a' := ?_) ?_ ?_; rotate_left
   ·show Act.put _ (some 6) _ = _
    simp only [Act.put, sa_, sb_, sc_, i64_w, i32_w]; rfl
   exact norm_ (by first | (simp only [putAll, Act.put, sa_, sb_, sc_]; done) | (simp only [putAll, Act.put, sa_, sb_, sc_]; rfl)) (hJ1_3_4_5 (v216, v220, gb222, gb223) _ ⟨hHeld, (by (with_reducible repeat (first | apply Kd.V_alloc | apply Kd.V_drewN | apply Kd.V_drew)); exact Kd.V_mono HO217.out (fun _ hk => ⟨hk.1.1, ⟨hk.1.2.1, ⟨hk.1.2.2, hk.2⟩⟩⟩)), (by (with_reducible repeat (first | apply Kd.V_alloc | apply Kd.V_drewN | apply Kd.V_drew)); exact Kd.V_mono HO221.out (fun _ hk => ⟨hk.1.1, ⟨hk.1.2.1, ⟨hk.1.2.2, hk.2⟩⟩⟩)), (bk_ BK212), (bk_ BK213), (bk_ BK222), (bk_ BK223), GW222.out, GE222.out, NB212_222.out, NB222_212.out, NB213_222.out, NB222_213.out, NB223_222.out, NB222_223.out, GW223.out, GE223.out, NB212_223.out, NB223_212.out, NB213_223.out, NB223_213.out, (bl_ HB)⟩)
 rintro ⟨v216, v220, gb222, gb223⟩ w13 ⟨hS_, h0_, h1_, h2_, h3_, h4_, h5_, h6_, h7_, h8_, h9_, h10_, h11_, h12_, h13_, h14_, h15_, h16_, h17_, h18_, h19_, h20_⟩; have n0_ : Aside0 (Kd.V (Kd.slice 4 Kd.bool) 33 w13 w.heap.size (fun k_ => k_ ≠ gb212 ∧ k_ ≠ gb213 ∧ k_ ≠ gb222 ∧ k_ ≠ gb223) v216 t215) := ⟨h0_⟩; have n1_ : Aside0 (Kd.V (Kd.slice 4 Kd.bool) 33 w13 w.heap.size (fun k_ => k_ ≠ gb212 ∧ k_ ≠ gb213 ∧ k_ ≠ gb222 ∧ k_ ≠ gb223) v220 t219) := ⟨h1_⟩; have n2_ : Aside0 (w13.heap[gb212]? = some (.cells #[.int .u64 a0_0, .slice A0_1 l0_1.length c0_1] 25 (0, 0))) := ⟨h2_⟩; have n3_ : Aside0 (w13.heap[gb213]? = some (.cells #[.int .u64 a1_0, .slice A1_1 l1_1.length c1_1] 25 (0, 0))) := ⟨h3_⟩; have n4_ : Aside0 (w13.heap[gb222]? = some (.cells #[.int .u64 0, .slice none 0 0] 30 (0, 0))) := ⟨h4_⟩; have n5_ : Aside0 (w13.heap[gb223]? = some (.cells #[.int .u64 0, .slice none 0 0] 30 (0, 0))) := ⟨h5_⟩; have n6_ : Aside0 (w.heap.size ≤ gb222) := ⟨h6_⟩; have n7_ : Aside0 (w.heap.size ≤ gb222) := ⟨h7_⟩; have n8_ : Aside0 (gb212 ≠ gb222) := ⟨h8_⟩; have n9_ : Aside0 (gb222 ≠ gb212) := ⟨h9_⟩; have n10_ : Aside0 (gb213 ≠ gb222) := ⟨h10_⟩; have n11_ : Aside0 (gb222 ≠ gb213) := ⟨h11_⟩; have n12_ : Aside0 (gb223 ≠ gb222) := ⟨h12_⟩; have n13_ : Aside0 (gb222 ≠ gb223) := ⟨h13_⟩; have n14_ : Aside0 (w.heap.size ≤ gb223) := ⟨h14_⟩; have n15_ : Aside0 (w.heap.size ≤ gb223) := ⟨h15_⟩; have n16_ : Aside0 (gb212 ≠ gb223) := ⟨h16_⟩; have n17_ : Aside0 (gb223 ≠ gb212) := ⟨h17_⟩
 have n18_ : Aside0 (gb213 ≠ gb223) := ⟨h18_⟩; have n19_ : Aside0 (gb223 ≠ gb213) := ⟨h19_⟩; have n20_ : Aside0 (Below w.heap.size w w13) := ⟨h20_⟩; clear BK212; clear BK213; clear HB; clear h0_ h1_ h2_ h3_ h4_ h5_ h6_ h7_ h8_ h9_ h10_ h11_ h12_ h13_ h14_ h15_ h16_ h17_ h18_ h19_ h20_; have HO217 := n0_; have HO221 := n1_; have BK212 := n2_; have BK213 := n3_; have BK222 := n4_; have BK223 := n5_; have GW222 := n6_; have GE222 := n7_; have NB212_222 := n8_; have NB222_212 := n9_; have NB213_222 := n10_; have NB222_213 := n11_; have NB223_222 := n12_; have NB222_223 := n13_; have GW223 := n14_; have GE223 := n15_; have NB212_223 := n16_; have NB223_212 := n17_; have NB213_223 := n18_; have NB223_213 := n19_; have HB := n20_; clear n0_ n1_ n2_ n3_ n4_ n5_ n6_ n7_ n8_ n9_ n10_ n11_ n12_ n13_ n14_ n15_ n16_ n17_ n18_ n19_ n20_; have hHeld : w13.cell? ⟨gb212, 0, none⟩ = some (.int .u64 a0_0) ∧ w13.cell? ⟨gb212, 1, none⟩ = some (.slice A0_1 l0_1.length c0_1) ∧ w13.cell? ⟨gb213, 0, none⟩ = some (.int .u64 a1_0) ∧ w13.cell? ⟨gb213, 1, none⟩ = some (.slice A1_1 l1_1.length c1_1) := hS_; obtain ⟨Ao15, co15, eo15⟩ := Kd.V_slice HO217.out
 (first | subst eo15 | (injection eo15 with f1_ f2_ f3_; have f4_ := f1_.symm; have f5_ := f3_.symm; clear f1_ f2_ f3_; subst f4_; subst f5_))
 obtain ⟨Ao18, co18, eo18⟩ := Kd.V_slice HO221.out
 (first | subst eo18 | (injection eo18 with f1_ f2_ f3_; have f4_ := f1_.symm; have f5_ := f3_.symm; clear f1_ f2_ f3_; subst f4_; subst f5_))
 refine norm_ (a' := ?_) ?_ ?_; rotate_left
 ·simp only [putAll, Act.put, sa_, sb_, sc_]; rfl
 refine one_ (i := 6) (N := none) (mB 8 127) rfl rfl (one_of HT_.out (by kernel_rfl)) (by decide) (fun K hK => ?_); have hs14 : w13.cell? ⟨gb222, 0, none⟩ = some (.int .u64 0) := (blk_cell BK222.out 0).trans rfl; have hfs14 := blk_frozen BK222.out 0; have hns14_0 := NB212_222.out; have hns14_1 := NB213_222.out; have hns14_3 := NB223_222.out; have hms14_0 := NB222_212.out; have hms14_1 := NB222_213.out; have hms14_3 := NB222_223.out; have hs16 : w13.cell? ⟨gb222, 1, none⟩ = some (.slice none 0 0) := (blk_cell BK222.out 1).trans rfl; have hfs16 := blk_frozen BK222.out 1; have hns16_0 := NB212_222.out; have hns16_1 := NB213_222.out; have hns16_3 := NB223_222.out; have hms16_0 := NB222_212.out; have hms16_1 := NB222_213.out; have hms16_3 := NB222_223.out; refine skip_ (w1 := ?_) (by rfl) rfl ?_ ?_; rotate_left
 ·go_simp; rfl
 refine hK.out _ _ ⟨((cell_far (p := ⟨gb222, _, none⟩) NB212_222.out _).trans (((cell_far (p := ⟨gb222, _, none⟩) NB212_222.out _).trans (hHeld.1)))), ((cell_far (p := ⟨gb222, _, none⟩) NB212_222.out _).trans (((cell_far (p := ⟨gb222, _, none⟩) NB212_222.out _).trans (hHeld.2.1)))), ((cell_far (p := ⟨gb222, _, none⟩) NB213_222.out _).trans (((cell_far (p := ⟨gb222, _, none⟩) NB213_222.out _).trans (hHeld.2.2.1)))), ((cell_far (p := ⟨gb222, _, none⟩) NB213_222.out _).trans (((cell_far (p := ⟨gb222, _, none⟩) NB213_222.out _).trans (hHeld.2.2.2))))⟩ (fun hHeld => ?_); clear hK K; refine one_ (i := 7) (N := none) (mB 8 255) rfl rfl (one_of HT_.out (by kernel_rfl)) (by decide) (fun K hK => ?_); have hs17 : w13.cell? ⟨gb223, 0, none⟩ = some (.int .u64 0) := (blk_cell BK223.out 0).trans rfl; have hfs17 := blk_frozen BK223.out 0; have hns17_0 := NB212_223.out; have hns17_1 := NB213_223.out; have hns17_2 := NB222_223.out; have hms17_0 := NB223_212.out; have hms17_1 := NB223_213.out; have hms17_2 := NB223_222.out; have hs19 : w13.cell? ⟨gb223, 1, none⟩ = some (.slice none 0 0) := (blk_cell BK223.out 1).trans rfl; have hfs19 := blk_frozen BK223.out 1; have hns19_0 := NB212_223.out; have hns19_1 := NB213_223.out; have hns19_2 := NB222_223.out; have hms19_0 := NB223_212.out; have hms19_1 := NB223_213.out; have hms19_2 := NB223_222.out; refine skip_ (w1 := ?_) (by rfl) rfl ?_ ?_; rotate_left
 ·go_simp; rfl
 refine hK.out _ _ ⟨((cell_far (p := ⟨gb223, _, none⟩) NB212_223.out _).trans (((cell_far (p := ⟨gb223, _, none⟩) NB212_223.out _).trans (hHeld.1)))), ((cell_far (p := ⟨gb223, _, none⟩) NB212_223.out _).trans (((cell_far (p := ⟨gb223, _, none⟩) NB212_223.out _).trans (hHeld.2.1)))), ((cell_far (p := ⟨gb223, _, none⟩) NB213_223.out _).trans (((cell_far (p := ⟨gb223, _, none⟩) NB213_223.out _).trans (hHeld.2.2.1)))), ((cell_far (p := ⟨gb223, _, none⟩) NB213_223.out _).trans (((cell_far (p := ⟨gb223, _, none⟩) NB213_223.out _).trans (hHeld.2.2.2))))⟩ (fun hHeld => ?_); clear hK K; refine done_ (done_of HT_.out (by kernel_rfl)) ?_
 go_upto_region 2 with (fail)
 go_cut [22] (fun v22 wc => ∃ (kq : Nat) (x22_4 : Bool), v22 = .bool x22_4 ∧ Aside0 (rillmeterlaw13_BitmapMerges.j0 kq x22_4 a0_0 l0_1 a1_0 l1_1 t214 t215 t218 t219 = some r) ∧ Aside0 (kq ≤ k) ∧ Aside0 (Kd.V (Kd.slice 4 Kd.bool) 33 wc w.heap.size (fun k_ => k_ ≠ gb212 ∧ k_ ≠ gb213 ∧ k_ ≠ gb222 ∧ k_ ≠ gb223) (.slice Ao15 t215.length co15) t215) ∧ Aside0 (Kd.V (Kd.slice 4 Kd.bool) 33 wc w.heap.size (fun k_ => k_ ≠ gb212 ∧ k_ ≠ gb213 ∧ k_ ≠ gb222 ∧ k_ ≠ gb223) (.slice Ao18 t219.length co18) t219) ∧ Aside0 (wc.heap[gb212]? = some (.cells #[.int .u64 a0_0, (.slice A0_1 l0_1.length c0_1)] 25 (0, 0))) ∧ Aside0 (wc.heap[gb213]? = some (.cells #[.int .u64 a1_0, (.slice A1_1 l1_1.length c1_1)] 25 (0, 0))) ∧ Aside0 (wc.heap[gb222]? = some (.cells #[.int .u64 t214, (.slice Ao15 t215.length co15)] 30 (0, 0))) ∧ Aside0 (wc.heap[gb223]? = some (.cells #[.int .u64 t218, (.slice Ao18 t219.length co18)] 30 (0, 0))) ∧ Aside0 (Below w.heap.size w wc))
 case first =>
  have H := HC5.out; clear HC5; replace H := Option.bind_eq_some_iff.mp H; obtain ⟨t224, A200, H⟩ := H; replace H : (if t224 = true then ((rillmeterref13_Small.f k t218 t219).bind fun t225 => (rillmeterlaw13_BitmapMerges.j0 k (!t225) a0_0 l0_1 a1_0 l1_1 t214 t215 t218 t219)) else (rillmeterlaw13_BitmapMerges.j0 k true a0_0 l0_1 a1_0 l1_1 t214 t215 t218 t219)) = some r := H; have A20 := Aside0.mk A200; clear A200
  by_cases c21 : t224 = true
  ·subst c21
   have H1 : ((rillmeterref13_Small.f k t218 t219).bind fun t225 => (rillmeterlaw13_BitmapMerges.j0 k (!t225) a0_0 l0_1 a1_0 l1_1 t214 t215 t218 t219)) = some r := by rw [if_pos rfl] at H; exact H
   clear H; have H := H1; clear H1; replace H := Option.bind_eq_some_iff.mp H; obtain ⟨t225, A220, H⟩ := H; replace H : (rillmeterlaw13_BitmapMerges.j0 k (!t225) a0_0 l0_1 a1_0 l1_1 t214 t215 t218 t219) = some r := H; have A22 := Aside0.mk A220; clear A220; have H' := Aside0.mk H; clear H; have hnb23 := NB222_212.out; have hnc23 := NB212_222.out; have hnb24 := NB222_213.out; have hnc24 := NB213_222.out; have hnb25 := NB222_223.out; have hnc25 := NB223_222.out; have hcz26_0 : w13.cell? ⟨gb222, 0, none⟩ = some (.int .u64 0) := (blk_cell BK222.out 0).trans rfl; have hcz26_1 : w13.cell? ⟨gb222, 1, none⟩ = some (.slice none 0 0) := (blk_cell BK222.out 1).trans rfl; have hfz26_0 := blk_frozen BK222.out 0; have hfz26_1 := blk_frozen BK222.out 1
   go_wp2_with (first | ((with_reducible refine gate_callee (f := 14) rfl ?_); refine goesL_ (some 16) rfl rfl Tryd.func14 (by kernel_rfl) rfl #[.agg #[.int .u64 t214, .slice Ao15 t215.length co15]] rfl (by (try simp only [List.map_toArray, List.map_cons, List.map_nil]); first | done | rfl | (simp only [List.length_drop, List.length_take]; rfl)) ?_; (with_reducible refine (rillmeterref13_Small.calls k t214 _ _ t215 true _ ?side1 ?side2 A20.out).mono ?_); (case side1 => refine (Kd.V_reads' (e := 33) (base := w.heap.size) (ok := fun k_ => (k_ ≠ gb212 ∧ (k_ ≠ gb213 ∧ (k_ ≠ gb222 ∧ k_ ≠ gb223)))) (n := t215.length) (c := co15) ?_).2.2; exact (by (with_reducible repeat (first | apply Kd.V_alloc | apply Kd.V_drewN | apply Kd.V_drew)); exact (Kd.V_mono (Kd.V_mono (Kd.V_far (p := ⟨gb223, 1, none⟩) (Kd.V_far (p := ⟨gb223, 0, none⟩) (Kd.V_far (p := ⟨gb222, 1, none⟩) (Kd.V_far (p := ⟨gb222, 0, none⟩) (Kd.V_mono (Kd.V_mono HO217.out (fun k_ hk => (⟨hk, hk.2.2.1⟩ : _ ∧ k_ ≠ gb222))) (fun k_ hk => (⟨hk, hk.1.2.2.2⟩ : _ ∧ k_ ≠ gb223))) (fun _ hk => hk.1.2) (.int .u64 t214)) (fun _ hk => hk.1.2) (.slice Ao15 t215.length co15)) (fun _ hk => hk.2) (.int .u64 t218)) (fun _ hk => hk.2) (.slice Ao18 t219.length co18)) (fun _ h_ => h_.1)) (fun _ h_ => h_.1)))); (case side2 => exact (Kd.V_reads' HO217.out).2.1); rintro e w27 ⟨rfl, hb⟩; refine ⟨_, rfl, ?_⟩; have n0_ := Aside0.mk (Kd.V_below (by (with_reducible repeat (first | apply Kd.V_alloc | apply Kd.V_drewN | apply Kd.V_drew)); exact (Kd.V_mono (Kd.V_mono (Kd.V_far (p := ⟨gb223, 1, none⟩) (Kd.V_far (p := ⟨gb223, 0, none⟩) (Kd.V_far (p := ⟨gb222, 1, none⟩) (Kd.V_far (p := ⟨gb222, 0, none⟩) (Kd.V_mono (Kd.V_mono HO217.out (fun k_ hk => (⟨hk, hk.2.2.1⟩ : _ ∧ k_ ≠ gb222))) (fun k_ hk => (⟨hk, hk.1.2.2.2⟩ : _ ∧ k_ ≠ gb223))) (fun _ hk => hk.1.2) (.int .u64 t214)) (fun _ hk => hk.1.2) (.slice Ao15 t215.length co15)) (fun _ hk => hk.2) (.int .u64 t218)) (fun _ hk => hk.2) (.slice Ao18 t219.length co18)) (fun _ h_ => h_.1)) (fun _ h_ => h_.1))) hb); have n1_ := Aside0.mk (Kd.V_below (by (with_reducible repeat (first | apply Kd.V_alloc | apply Kd.V_drewN | apply Kd.V_drew)); exact (Kd.V_mono (Kd.V_mono (Kd.V_far (p := ⟨gb223, 1, none⟩) (Kd.V_far (p := ⟨gb223, 0, none⟩) (Kd.V_far (p := ⟨gb222, 1, none⟩) (Kd.V_far (p := ⟨gb222, 0, none⟩) (Kd.V_mono (Kd.V_mono HO221.out (fun k_ hk => (⟨hk, hk.2.2.1⟩ : _ ∧ k_ ≠ gb222))) (fun k_ hk => (⟨hk, hk.1.2.2.2⟩ : _ ∧ k_ ≠ gb223))) (fun _ hk => hk.1.2) (.int .u64 t214)) (fun _ hk => hk.1.2) (.slice Ao15 t215.length co15)) (fun _ hk => hk.2) (.int .u64 t218)) (fun _ hk => hk.2) (.slice Ao18 t219.length co18)) (fun _ h_ => h_.1)) (fun _ h_ => h_.1))) hb); have n2_ := Aside0.mk (blk_below (g := gb212) (o := .cells #[.int .u64 a0_0, .slice A0_1 l0_1.length c0_1] 25 (0, 0)) (by (with_reducible repeat (first | refine blk_drewN ?_ _ | refine blk_drew ?_ | refine blk_alloc ?_ _)); refine blk_far ?_ NB212_223.out _; (with_reducible repeat (first | refine blk_drewN ?_ _ | refine blk_drew ?_ | refine blk_alloc ?_ _)); refine blk_far ?_ NB212_223.out _; (with_reducible repeat (first | refine blk_drewN ?_ _ | refine blk_drew ?_ | refine blk_alloc ?_ _)); refine blk_far ?_ NB212_222.out _; (with_reducible repeat (first | refine blk_drewN ?_ _ | refine blk_drew ?_ | refine blk_alloc ?_ _)); refine blk_far ?_ NB212_222.out _; (with_reducible repeat (first | refine blk_drewN ?_ _ | refine blk_drew ?_ | refine blk_alloc ?_ _)); exact BK212.out) hb); have n3_ := Aside0.mk (blk_below (g := gb213) (o := .cells #[.int .u64 a1_0, .slice A1_1 l1_1.length c1_1] 25 (0, 0)) (by (with_reducible repeat (first | refine blk_drewN ?_ _ | refine blk_drew ?_ | refine blk_alloc ?_ _)); refine blk_far ?_ NB213_223.out _; (with_reducible repeat (first | refine blk_drewN ?_ _ | refine blk_drew ?_ | refine blk_alloc ?_ _)); refine blk_far ?_ NB213_223.out _; (with_reducible repeat (first | refine blk_drewN ?_ _ | refine blk_drew ?_ | refine blk_alloc ?_ _)); refine blk_far ?_ NB213_222.out _; (with_reducible repeat (first | refine blk_drewN ?_ _ | refine blk_drew ?_ | refine blk_alloc ?_ _)); refine blk_far ?_ NB213_222.out _; (with_reducible repeat (first | refine blk_drewN ?_ _ | refine blk_drew ?_ | refine blk_alloc ?_ _)); exact BK213.out) hb); have n4_ := Aside0.mk (blk_below (g := gb222) (o := .cells #[.int .u64 t214, .slice Ao15 t215.length co15] 30 (0, 0)) (by (with_reducible repeat (first | refine blk_drewN ?_ _ | refine blk_drew ?_ | refine blk_alloc ?_ _)); refine blk_far ?_ NB222_223.out _; (with_reducible repeat (first | refine blk_drewN ?_ _ | refine blk_drew ?_ | refine blk_alloc ?_ _)); refine blk_far ?_ NB222_223.out _; (with_reducible repeat (first | refine blk_drewN ?_ _ | refine blk_drew ?_ | refine blk_alloc ?_ _)); refine blk_put (cs := #[.int .u64 t214, .slice none 0 0]) ?_ 1 _ rfl; (with_reducible repeat (first | refine blk_drewN ?_ _ | refine blk_drew ?_ | refine blk_alloc ?_ _)); refine blk_put (cs := #[.int .u64 0, .slice none 0 0]) ?_ 0 _ rfl; (with_reducible repeat (first | refine blk_drewN ?_ _ | refine blk_drew ?_ | refine blk_alloc ?_ _)); exact BK222.out) hb); have n5_ := Aside0.mk (blk_below (g := gb223) (o := .cells #[.int .u64 t218, .slice Ao18 t219.length co18] 30 (0, 0)) (by (with_reducible repeat (first | refine blk_drewN ?_ _ | refine blk_drew ?_ | refine blk_alloc ?_ _)); refine blk_put (cs := #[.int .u64 t218, .slice none 0 0]) ?_ 1 _ rfl; (with_reducible repeat (first | refine blk_drewN ?_ _ | refine blk_drew ?_ | refine blk_alloc ?_ _)); refine blk_put (cs := #[.int .u64 0, .slice none 0 0]) ?_ 0 _ rfl; (with_reducible repeat (first | refine blk_drewN ?_ _ | refine blk_drew ?_ | refine blk_alloc ?_ _)); refine blk_far ?_ NB223_222.out _; (with_reducible repeat (first | refine blk_drewN ?_ _ | refine blk_drew ?_ | refine blk_alloc ?_ _)); refine blk_far ?_ NB223_222.out _; (with_reducible repeat (first | refine blk_drewN ?_ _ | refine blk_drew ?_ | refine blk_alloc ?_ _)); exact BK223.out) hb); have n6_ := Aside0.mk (below_step (bl_ HB) hb); clear HO217; clear HO221; clear BK212; clear BK213; clear BK222; clear BK223; clear HB; have HO217 := n0_; have HO221 := n1_; have BK212 := n2_; have BK213 := n3_; have BK222 := n4_; have BK223 := n5_; have HB := n6_; clear n0_ n1_ n2_ n3_ n4_ n5_ n6_; (try clear hb); (try clear hb2); (try clear hk); (try clear hi); have hnb28 := NB223_212.out; have hnc28 := NB212_223.out; have hnb29 := NB223_213.out; have hnc29 := NB213_223.out; have hcz30_0 : w27.cell? ⟨gb223, 0, none⟩ = some (.int .u64 t218) := (blk_cell BK223.out 0).trans rfl; have hcz30_1 : w27.cell? ⟨gb223, 1, none⟩ = some (.slice Ao18 t219.length co18) := (blk_cell BK223.out 1).trans rfl; have hfz30_0 := blk_frozen BK223.out 0; have hfz30_1 := blk_frozen BK223.out 1) | (go_at_call 14; (with_reducible refine (rillmeterref13_Small.calls k t218 _ _ t219 t225 _ ?side1 ?side2 A22.out).mono ?_); (case side1 => repeat (first | exact (Kd.V_reads' HO221.out).2.2 | (with_reducible refine Kd.C_alloc ?_ _) | (with_reducible refine Kd.C_drewN ?_ _) | (with_reducible refine Kd.C_drew ?_))); (case side2 => exact (Kd.V_reads' HO221.out).2.1); rintro e w31 ⟨rfl, hb⟩; have n0_ := Aside0.mk (Kd.V_below (vk_ HO217) hb); have n1_ := Aside0.mk (Kd.V_below (vk_ HO221) hb); have n2_ := Aside0.mk (blk_below (bk_ BK212) hb); have n3_ := Aside0.mk (blk_below (bk_ BK213) hb); have n4_ := Aside0.mk (blk_below (bk_ BK222) hb); have n5_ := Aside0.mk (blk_below (bk_ BK223) hb); have n6_ := Aside0.mk (below_step (bl_ HB) hb); clear HO217; clear HO221; clear BK212; clear BK213; clear BK222; clear BK223; clear HB; have HO217 := n0_; have HO221 := n1_; have BK212 := n2_; have BK213 := n3_; have BK222 := n4_; have BK223 := n5_; have HB := n6_; clear n0_ n1_ n2_ n3_ n4_ n5_ n6_; (try clear hb); (try clear hb2); (try clear hk); (try clear hi)))
   go_meet
   case rel => exact ⟨_, (!t225), (by first | rfl | (simp; done) | (simp [*]; done)), H', ⟨by first | omega | exact Nat.le_refl _⟩, ⟨by (with_reducible repeat (first | apply Kd.V_alloc | apply Kd.V_drewN | apply Kd.V_drew)); exact HO217.out⟩, ⟨by (with_reducible repeat (first | apply Kd.V_alloc | apply Kd.V_drewN | apply Kd.V_drew)); exact HO221.out⟩, ⟨bk_ BK212⟩, ⟨bk_ BK213⟩, ⟨bk_ BK222⟩, ⟨bk_ BK223⟩, ⟨bl_ HB⟩⟩
  ·replace c21 := Bool.eq_false_iff.mpr c21; subst c21
   have H1 : (rillmeterlaw13_BitmapMerges.j0 k true a0_0 l0_1 a1_0 l1_1 t214 t215 t218 t219) = some r := by rw [if_neg (show ¬ (false = true) by decide)] at H; exact H
   clear H; have H := H1; clear H1; have H' := Aside0.mk H; clear H; have hnb32 := NB222_212.out; have hnc32 := NB212_222.out; have hnb33 := NB222_213.out; have hnc33 := NB213_222.out; have hnb34 := NB222_223.out; have hnc34 := NB223_222.out; have hcz35_0 : w13.cell? ⟨gb222, 0, none⟩ = some (.int .u64 0) := (blk_cell BK222.out 0).trans rfl; have hcz35_1 : w13.cell? ⟨gb222, 1, none⟩ = some (.slice none 0 0) := (blk_cell BK222.out 1).trans rfl; have hfz35_0 := blk_frozen BK222.out 0; have hfz35_1 := blk_frozen BK222.out 1
   go_wp2_with (first | ((with_reducible refine gate_callee (f := 14) rfl ?_); refine goesL_ (some 16) rfl rfl Tryd.func14 (by kernel_rfl) rfl #[.agg #[.int .u64 t214, .slice Ao15 t215.length co15]] rfl (by (try simp only [List.map_toArray, List.map_cons, List.map_nil]); first | done | rfl | (simp only [List.length_drop, List.length_take]; rfl)) ?_; (with_reducible refine (rillmeterref13_Small.calls k t214 _ _ t215 false _ ?side1 ?side2 A20.out).mono ?_); (case side1 => refine (Kd.V_reads' (e := 33) (base := w.heap.size) (ok := fun k_ => (k_ ≠ gb212 ∧ (k_ ≠ gb213 ∧ (k_ ≠ gb222 ∧ k_ ≠ gb223)))) (n := t215.length) (c := co15) ?_).2.2; exact (by (with_reducible repeat (first | apply Kd.V_alloc | apply Kd.V_drewN | apply Kd.V_drew)); exact (Kd.V_mono (Kd.V_mono (Kd.V_far (p := ⟨gb223, 1, none⟩) (Kd.V_far (p := ⟨gb223, 0, none⟩) (Kd.V_far (p := ⟨gb222, 1, none⟩) (Kd.V_far (p := ⟨gb222, 0, none⟩) (Kd.V_mono (Kd.V_mono HO217.out (fun k_ hk => (⟨hk, hk.2.2.1⟩ : _ ∧ k_ ≠ gb222))) (fun k_ hk => (⟨hk, hk.1.2.2.2⟩ : _ ∧ k_ ≠ gb223))) (fun _ hk => hk.1.2) (.int .u64 t214)) (fun _ hk => hk.1.2) (.slice Ao15 t215.length co15)) (fun _ hk => hk.2) (.int .u64 t218)) (fun _ hk => hk.2) (.slice Ao18 t219.length co18)) (fun _ h_ => h_.1)) (fun _ h_ => h_.1)))); (case side2 => exact (Kd.V_reads' HO217.out).2.1); rintro e w36 ⟨rfl, hb⟩; refine ⟨_, rfl, ?_⟩; have n0_ := Aside0.mk (Kd.V_below (by (with_reducible repeat (first | apply Kd.V_alloc | apply Kd.V_drewN | apply Kd.V_drew)); exact (Kd.V_mono (Kd.V_mono (Kd.V_far (p := ⟨gb223, 1, none⟩) (Kd.V_far (p := ⟨gb223, 0, none⟩) (Kd.V_far (p := ⟨gb222, 1, none⟩) (Kd.V_far (p := ⟨gb222, 0, none⟩) (Kd.V_mono (Kd.V_mono HO217.out (fun k_ hk => (⟨hk, hk.2.2.1⟩ : _ ∧ k_ ≠ gb222))) (fun k_ hk => (⟨hk, hk.1.2.2.2⟩ : _ ∧ k_ ≠ gb223))) (fun _ hk => hk.1.2) (.int .u64 t214)) (fun _ hk => hk.1.2) (.slice Ao15 t215.length co15)) (fun _ hk => hk.2) (.int .u64 t218)) (fun _ hk => hk.2) (.slice Ao18 t219.length co18)) (fun _ h_ => h_.1)) (fun _ h_ => h_.1))) hb); have n1_ := Aside0.mk (Kd.V_below (by (with_reducible repeat (first | apply Kd.V_alloc | apply Kd.V_drewN | apply Kd.V_drew)); exact (Kd.V_mono (Kd.V_mono (Kd.V_far (p := ⟨gb223, 1, none⟩) (Kd.V_far (p := ⟨gb223, 0, none⟩) (Kd.V_far (p := ⟨gb222, 1, none⟩) (Kd.V_far (p := ⟨gb222, 0, none⟩) (Kd.V_mono (Kd.V_mono HO221.out (fun k_ hk => (⟨hk, hk.2.2.1⟩ : _ ∧ k_ ≠ gb222))) (fun k_ hk => (⟨hk, hk.1.2.2.2⟩ : _ ∧ k_ ≠ gb223))) (fun _ hk => hk.1.2) (.int .u64 t214)) (fun _ hk => hk.1.2) (.slice Ao15 t215.length co15)) (fun _ hk => hk.2) (.int .u64 t218)) (fun _ hk => hk.2) (.slice Ao18 t219.length co18)) (fun _ h_ => h_.1)) (fun _ h_ => h_.1))) hb); have n2_ := Aside0.mk (blk_below (g := gb212) (o := .cells #[.int .u64 a0_0, .slice A0_1 l0_1.length c0_1] 25 (0, 0)) (by (with_reducible repeat (first | refine blk_drewN ?_ _ | refine blk_drew ?_ | refine blk_alloc ?_ _)); refine blk_far ?_ NB212_223.out _; (with_reducible repeat (first | refine blk_drewN ?_ _ | refine blk_drew ?_ | refine blk_alloc ?_ _)); refine blk_far ?_ NB212_223.out _; (with_reducible repeat (first | refine blk_drewN ?_ _ | refine blk_drew ?_ | refine blk_alloc ?_ _)); refine blk_far ?_ NB212_222.out _; (with_reducible repeat (first | refine blk_drewN ?_ _ | refine blk_drew ?_ | refine blk_alloc ?_ _)); refine blk_far ?_ NB212_222.out _; (with_reducible repeat (first | refine blk_drewN ?_ _ | refine blk_drew ?_ | refine blk_alloc ?_ _)); exact BK212.out) hb); have n3_ := Aside0.mk (blk_below (g := gb213) (o := .cells #[.int .u64 a1_0, .slice A1_1 l1_1.length c1_1] 25 (0, 0)) (by (with_reducible repeat (first | refine blk_drewN ?_ _ | refine blk_drew ?_ | refine blk_alloc ?_ _)); refine blk_far ?_ NB213_223.out _; (with_reducible repeat (first | refine blk_drewN ?_ _ | refine blk_drew ?_ | refine blk_alloc ?_ _)); refine blk_far ?_ NB213_223.out _; (with_reducible repeat (first | refine blk_drewN ?_ _ | refine blk_drew ?_ | refine blk_alloc ?_ _)); refine blk_far ?_ NB213_222.out _; (with_reducible repeat (first | refine blk_drewN ?_ _ | refine blk_drew ?_ | refine blk_alloc ?_ _)); refine blk_far ?_ NB213_222.out _; (with_reducible repeat (first | refine blk_drewN ?_ _ | refine blk_drew ?_ | refine blk_alloc ?_ _)); exact BK213.out) hb); have n4_ := Aside0.mk (blk_below (g := gb222) (o := .cells #[.int .u64 t214, .slice Ao15 t215.length co15] 30 (0, 0)) (by (with_reducible repeat (first | refine blk_drewN ?_ _ | refine blk_drew ?_ | refine blk_alloc ?_ _)); refine blk_far ?_ NB222_223.out _; (with_reducible repeat (first | refine blk_drewN ?_ _ | refine blk_drew ?_ | refine blk_alloc ?_ _)); refine blk_far ?_ NB222_223.out _; (with_reducible repeat (first | refine blk_drewN ?_ _ | refine blk_drew ?_ | refine blk_alloc ?_ _)); refine blk_put (cs := #[.int .u64 t214, .slice none 0 0]) ?_ 1 _ rfl; (with_reducible repeat (first | refine blk_drewN ?_ _ | refine blk_drew ?_ | refine blk_alloc ?_ _)); refine blk_put (cs := #[.int .u64 0, .slice none 0 0]) ?_ 0 _ rfl; (with_reducible repeat (first | refine blk_drewN ?_ _ | refine blk_drew ?_ | refine blk_alloc ?_ _)); exact BK222.out) hb); have n5_ := Aside0.mk (blk_below (g := gb223) (o := .cells #[.int .u64 t218, .slice Ao18 t219.length co18] 30 (0, 0)) (by (with_reducible repeat (first | refine blk_drewN ?_ _ | refine blk_drew ?_ | refine blk_alloc ?_ _)); refine blk_put (cs := #[.int .u64 t218, .slice none 0 0]) ?_ 1 _ rfl; (with_reducible repeat (first | refine blk_drewN ?_ _ | refine blk_drew ?_ | refine blk_alloc ?_ _)); refine blk_put (cs := #[.int .u64 0, .slice none 0 0]) ?_ 0 _ rfl; (with_reducible repeat (first | refine blk_drewN ?_ _ | refine blk_drew ?_ | refine blk_alloc ?_ _)); refine blk_far ?_ NB223_222.out _; (with_reducible repeat (first | refine blk_drewN ?_ _ | refine blk_drew ?_ | refine blk_alloc ?_ _)); refine blk_far ?_ NB223_222.out _; (with_reducible repeat (first | refine blk_drewN ?_ _ | refine blk_drew ?_ | refine blk_alloc ?_ _)); exact BK223.out) hb); have n6_ := Aside0.mk (below_step (bl_ HB) hb); clear HO217; clear HO221; clear BK212; clear BK213; clear BK222; clear BK223; clear HB; have HO217 := n0_; have HO221 := n1_; have BK212 := n2_; have BK213 := n3_; have BK222 := n4_; have BK223 := n5_; have HB := n6_; clear n0_ n1_ n2_ n3_ n4_ n5_ n6_; (try clear hb); (try clear hb2); (try clear hk); (try clear hi)))
   go_meet
   case rel => exact ⟨_, (true), (by first | rfl | (simp; done) | (simp [*]; done)), H', ⟨by first | omega | exact Nat.le_refl _⟩, ⟨by (with_reducible repeat (first | apply Kd.V_alloc | apply Kd.V_drewN | apply Kd.V_drew)); exact HO217.out⟩, ⟨by (with_reducible repeat (first | apply Kd.V_alloc | apply Kd.V_drewN | apply Kd.V_drew)); exact HO221.out⟩, ⟨bk_ BK212⟩, ⟨bk_ BK213⟩, ⟨bk_ BK222⟩, ⟨bk_ BK223⟩, ⟨bl_ HB⟩⟩
 case rest =>
  clear HC5; (try clear c1); (try clear c2); (try clear p2); (try clear c3); (try clear c10); (try clear c14); (try clear c21); (try clear c23); (try clear c24); (try clear c25); (try clear c28); (try clear c29); (try clear c32); (try clear c33); (try clear c34); (try clear hcz26_0); (try clear hcz26_1); (try clear hcz30_0); (try clear hcz30_1); (try clear hcz35_0); (try clear hcz35_1); (try clear hfz26_0); (try clear hfz26_1); (try clear hfz30_0); (try clear hfz30_1); (try clear hfz35_0); (try clear hfz35_1); obtain ⟨kq, x22_4, rfl, HA, HJ4, HO_223001, HO_224001, BK212, BK213, BK222, BK223, HB⟩ := hcut
  cases kq with
  | zero => exact absurd HA.out (by simp [rillmeterlaw13_BitmapMerges.j0])
  | succ kj4 =>
   have H := HA.out; clear HA; simp only [rillmeterlaw13_BitmapMerges.j0] at H
   by_cases c37 : x22_4 = true
   ·subst c37
    have H1 : ((rillmeterlaw13_awake.f kj4).bind fun t226 => (some t226)) = some r := by rw [if_pos rfl] at H; exact H
    clear H; have H := H1; clear H1; replace H := Option.bind_eq_some_iff.mp H; obtain ⟨t226, A380, H⟩ := H; replace H : (some t226) = some r := H; have A38 := Aside0.mk A380; clear A380; obtain rfl := Option.some.inj H
    go_wp2_with (first | ((with_reducible refine gate_callee (f := 11) rfl ?_); refine goesL_ (some 23) rfl rfl Tryd.func11 (by kernel_rfl) rfl #[] rfl (by (try simp only [List.map_toArray, List.map_cons, List.map_nil]); first | done | rfl | (simp only [List.length_drop, List.length_take]; rfl)) ?_; (with_reducible refine (rillmeterlaw13_awake.calls kj4  t226 _ A38.out ⟨tb_ HT0 HB⟩).mono ?_); rintro e w39 ⟨rfl, hb⟩; refine ⟨_, rfl, ?_⟩; have n0_ := Aside0.mk (Kd.V_below (vk_ HO_223001) hb); have n1_ := Aside0.mk (Kd.V_below (vk_ HO_224001) hb); have n2_ := Aside0.mk (blk_below (bk_ BK212) hb); have n3_ := Aside0.mk (blk_below (bk_ BK213) hb); have n4_ := Aside0.mk (blk_below (bk_ BK222) hb); have n5_ := Aside0.mk (blk_below (bk_ BK223) hb); have n6_ := Aside0.mk (below_step (bl_ HB) hb); clear HO_223001; clear HO_224001; clear BK212; clear BK213; clear BK222; clear BK223; clear HB; have HO_223001 := n0_; have HO_224001 := n1_; have BK212 := n2_; have BK213 := n3_; have BK222 := n4_; have BK223 := n5_; have HB := n6_; clear n0_ n1_ n2_ n3_ n4_ n5_ n6_; (try clear hb); (try clear hb2); (try clear hk); (try clear hi)))
    go_ret; exact ⟨by first | rfl | (simp [errW_none, errW_some] <;> rfl) | (simp [*, errW_none, errW_some] <;> rfl), bl_ HB⟩
   ·replace c37 := Bool.eq_false_iff.mpr c37; subst c37
    have H1 : ((bitmap_Merge.f kj4 a0_0 l0_1 a1_0 l1_1).bind fun bt227 => ((rillmeterref13_Right.f kj4 t214 t215).bind fun t233 => (if t233 = true then ((rillmeterref13_Right.f kj4 t218 t219).bind fun t234 => (if t234 = true then (if a0_0 = a1_0 then (if (l0_1.length : Int) = (l1_1.length : Int) then (if 0 < (l0_1.length : Int) then (if 0 < (l1_1.length : Int) then (rillmeterlaw13_BitmapMerges.j1 kj4 bt227.2.2 (((rd_L1 l0_1 0).length : Int) != ((rd_L1 l1_1 0).length : Int)) a0_0 l0_1 a1_0 l1_1 bt227.1 bt227.2.1) else (none)) else (none)) else (rillmeterlaw13_BitmapMerges.j1 kj4 bt227.2.2 true a0_0 l0_1 a1_0 l1_1 bt227.1 bt227.2.1)) else (rillmeterlaw13_BitmapMerges.j1 kj4 bt227.2.2 true a0_0 l0_1 a1_0 l1_1 bt227.1 bt227.2.1)) else (rillmeterlaw13_BitmapMerges.j1 kj4 bt227.2.2 true a0_0 l0_1 a1_0 l1_1 bt227.1 bt227.2.1))) else (rillmeterlaw13_BitmapMerges.j1 kj4 bt227.2.2 true a0_0 l0_1 a1_0 l1_1 bt227.1 bt227.2.1)))) = some r := by rw [if_neg (show ¬ (false = true) by decide)] at H; exact H
    clear H; have H := H1; clear H1; replace H := Option.bind_eq_some_iff.mp H; obtain ⟨⟨t227, t228, t231⟩, A400, H⟩ := H; replace H : ((rillmeterref13_Right.f kj4 t214 t215).bind fun t233 => (if t233 = true then ((rillmeterref13_Right.f kj4 t218 t219).bind fun t234 => (if t234 = true then (if a0_0 = a1_0 then (if (l0_1.length : Int) = (l1_1.length : Int) then (if 0 < (l0_1.length : Int) then (if 0 < (l1_1.length : Int) then (rillmeterlaw13_BitmapMerges.j1 kj4 t231 (((rd_L1 l0_1 0).length : Int) != ((rd_L1 l1_1 0).length : Int)) a0_0 l0_1 a1_0 l1_1 t227 t228) else (none)) else (none)) else (rillmeterlaw13_BitmapMerges.j1 kj4 t231 true a0_0 l0_1 a1_0 l1_1 t227 t228)) else (rillmeterlaw13_BitmapMerges.j1 kj4 t231 true a0_0 l0_1 a1_0 l1_1 t227 t228)) else (rillmeterlaw13_BitmapMerges.j1 kj4 t231 true a0_0 l0_1 a1_0 l1_1 t227 t228))) else (rillmeterlaw13_BitmapMerges.j1 kj4 t231 true a0_0 l0_1 a1_0 l1_1 t227 t228))) = some r := H; have A40 := Aside0.mk A400; clear A400; have HC41 := Aside0.mk H; clear H; have hnb42 := NB212_213.out; have hnc42 := NB213_212.out; have hnb43 := NB212_222.out; have hnc43 := NB222_212.out; have hnb44 := NB212_223.out; have hnc44 := NB223_212.out; have hcz45_0 : wc.cell? ⟨gb212, 0, none⟩ = some (.int .u64 a0_0) := (blk_cell BK212.out 0).trans rfl; have hcz45_1 : wc.cell? ⟨gb212, 1, none⟩ = some (.slice A0_1 l0_1.length c0_1) := (blk_cell BK212.out 1).trans rfl; have hfz45_0 := blk_frozen BK212.out 0; have hfz45_1 := blk_frozen BK212.out 1
    have hnb46 := NB213_222.out; have hnc46 := NB222_213.out; have hnb47 := NB213_223.out; have hnc47 := NB223_213.out; have hcz48_0 : wc.cell? ⟨gb213, 0, none⟩ = some (.int .u64 a1_0) := (blk_cell BK213.out 0).trans rfl; have hcz48_1 : wc.cell? ⟨gb213, 1, none⟩ = some (.slice A1_1 l1_1.length c1_1) := (blk_cell BK213.out 1).trans rfl; have hfz48_0 := blk_frozen BK213.out 0; have hfz48_1 := blk_frozen BK213.out 1
    go_upto_region 5 with (first | ((with_reducible refine gate_callee (f := 23) rfl ?_); refine goesL_ (some 27) rfl rfl Tryd.func23 (by kernel_rfl) rfl #[.agg #[.int .u64 a0_0, .slice A0_1 l0_1.length c0_1], .agg #[.int .u64 a1_0, .slice A1_1 l1_1.length c1_1]] rfl (by (try simp only [List.map_toArray, List.map_cons, List.map_nil]); first | done | rfl | (simp only [List.length_drop, List.length_take]; rfl)) ?_; (with_reducible refine (bitmap_Merge.calls kj4 a0_0 _ _ l0_1 a1_0 _ _ l1_1 t227 t228 t231 _ ?side1 ?side2 ?side3 ?side4 A40.out).mono ?_); (case side1 => repeat (first | exact (Kd.C_below HR0_1.out HB.out) | (with_reducible refine Kd.C_alloc ?_ _) | (with_reducible refine Kd.C_drewN ?_ _) | (with_reducible refine Kd.C_drew ?_))); (case side2 => exact HC0_1.out); (case side3 => repeat (first | exact (Kd.C_below HR1_1.out HB.out) | (with_reducible refine Kd.C_alloc ?_ _) | (with_reducible refine Kd.C_drewN ?_ _) | (with_reducible refine Kd.C_drew ?_))); (case side4 => exact HC1_1.out); rintro e w49 ⟨v229, rfl, ho0, hb⟩; refine ⟨_, rfl, ?_⟩; have n0_ := Aside0.mk (Kd.V_elder' (vk_ HO_223001) (Kd.S_base ho0) hb); have n1_ := Aside0.mk (Kd.V_elder' (vk_ HO_224001) (Kd.S_base ho0) hb); have n2_ := Aside0.mk (Kd.S_lower ho0 (below_size (bl_ HB))); have n3_ := Aside0.mk (blk_below (bk_ BK212) hb); have n4_ := Aside0.mk (blk_below (bk_ BK213) hb); have n5_ := Aside0.mk (blk_below (bk_ BK222) hb); have n6_ := Aside0.mk (blk_below (bk_ BK223) hb); have n7_ := Aside0.mk (below_step (bl_ HB) hb); clear HO_223001; clear HO_224001; clear BK212; clear BK213; clear BK222; clear BK223; clear HB; have HO_223001 := n0_; have HO_224001 := n1_; have HO230 := n2_; have BK212 := n3_; have BK213 := n4_; have BK222 := n5_; have BK223 := n6_; have HB := n7_; clear n0_ n1_ n2_ n3_ n4_ n5_ n6_ n7_; (try clear hb); (try clear hb2); (try clear hk); (try clear hi); (try clear ho0)) | ((with_reducible refine gate_dst (N := 7) rfl ?_); (try (refine gate_guard (by rfl) ?_; dsimp only)); refine box_event ?hg (N := 7) ?hd (cs := #[.int .u64 0, .slice none 0 0]) (t := 25) ?hr ?_; (case hd => rfl); (case hg => rfl); (case hr => first | (go_simp; done) | (go_simp; rfl)); intro gb232 hg w50 hbox hb; have n0_ := Aside0.mk (Kd.V_below (Kd.V_elderB (vk_ HO_223001) gb232 (Nat.le_of_eq hg.symm)) hb); have n1_ := Aside0.mk (Kd.V_below (Kd.V_elderB (vk_ HO_224001) gb232 (Nat.le_of_eq hg.symm)) hb); have n2_ := Aside0.mk (Kd.S_below (sk_ HO230) hb); have n3_ := Aside0.mk (blk_below (bk_ BK212) hb); have n4_ := Aside0.mk (blk_below (bk_ BK213) hb); have n5_ := Aside0.mk (blk_below (bk_ BK222) hb); have n6_ := Aside0.mk (blk_below (bk_ BK223) hb); have n7_ := Aside0.mk (below_step (bl_ HB) hb); have n8_ := Aside0.mk (hbox); have n9_ := Aside0.mk (gl_ hg HB); have n10_ := Aside0.mk (gl_ hg HB); have n11_ := Aside0.mk (nl_ hg BK212); have n12_ := Aside0.mk (ng_ hg BK212); have n13_ := Aside0.mk (nl_ hg BK213); have n14_ := Aside0.mk (ng_ hg BK213); have n15_ := Aside0.mk (nl_ hg BK222); have n16_ := Aside0.mk (ng_ hg BK222); have n17_ := Aside0.mk (nl_ hg BK223); have n18_ := Aside0.mk (ng_ hg BK223); clear HO_223001; clear HO_224001; clear HO230; clear BK212; clear BK213; clear BK222; clear BK223; clear HB; have HO_223001 := n0_; have HO_224001 := n1_; have HO230 := n2_; have BK212 := n3_; have BK213 := n4_; have BK222 := n5_; have BK223 := n6_; have HB := n7_; have BK232 := n8_; have GW232 := n9_; have GE232 := n10_; have NB212_232 := n11_; have NB232_212 := n12_; have NB213_232 := n13_; have NB232_213 := n14_; have NB222_232 := n15_; have NB232_222 := n16_; have NB223_232 := n17_; have NB232_223 := n18_; clear n0_ n1_ n2_ n3_ n4_ n5_ n6_ n7_ n8_ n9_ n10_ n11_ n12_ n13_ n14_ n15_ n16_ n17_ n18_; clear hb hbox hg; have hnb51 := NB232_212.out; have hnc51 := NB212_232.out; have hnb52 := NB232_213.out; have hnc52 := NB213_232.out; have hnb53 := NB232_222.out; have hnc53 := NB222_232.out; have hnb54 := NB232_223.out; have hnc54 := NB223_232.out; have hcz55_0 : w50.cell? ⟨gb232, 0, none⟩ = some (.int .u64 0) := (blk_cell BK232.out 0).trans rfl; have hcz55_1 : w50.cell? ⟨gb232, 1, none⟩ = some (.slice none 0 0) := (blk_cell BK232.out 1).trans rfl; have hfz55_0 := blk_frozen BK232.out 0; have hfz55_1 := blk_frozen BK232.out 1; obtain ⟨Ao56, co56, eo56⟩ := Kd.S_slice HO230.out; subst eo56))
    (try simp only [Act.put, sa_, sb_, sc_])
    go_cut [66] (fun v66 wc => ∃ (kq : Nat) (x66_40 : Bool), v66 = .bool x66_40 ∧ Aside0 (rillmeterlaw13_BitmapMerges.j1 kq t231 x66_40 a0_0 l0_1 a1_0 l1_1 t227 t228 = some r) ∧ Aside0 (kq ≤ kj4) ∧ Aside0 (Kd.V (Kd.slice 4 Kd.bool) 33 wc w.heap.size (fun k_ => some k_ ≠ ((.slice Ao56 t228.length co56) : Value).ownBlock ∧ k_ ≠ gb212 ∧ k_ ≠ gb213 ∧ k_ ≠ gb222 ∧ k_ ≠ gb223 ∧ k_ ≠ gb232) (.slice Ao15 t215.length co15) t215) ∧ Aside0 (Kd.V (Kd.slice 4 Kd.bool) 33 wc w.heap.size (fun k_ => some k_ ≠ ((.slice Ao56 t228.length co56) : Value).ownBlock ∧ k_ ≠ gb212 ∧ k_ ≠ gb213 ∧ k_ ≠ gb222 ∧ k_ ≠ gb223 ∧ k_ ≠ gb232) (.slice Ao18 t219.length co18) t219) ∧ Aside0 (Kd.S (Kd.slice 4 Kd.bool) 33 wc w.heap.size (fun _ => True) (.slice Ao56 t228.length co56) t228) ∧ Aside0 (wc.heap[gb212]? = some (.cells #[.int .u64 a0_0, (.slice A0_1 l0_1.length c0_1)] 25 (0, 0))) ∧ Aside0 (wc.heap[gb213]? = some (.cells #[.int .u64 a1_0, (.slice A1_1 l1_1.length c1_1)] 25 (0, 0))) ∧ Aside0 (wc.heap[gb222]? = some (.cells #[.int .u64 t214, (.slice Ao15 t215.length co15)] 30 (0, 0))) ∧ Aside0 (wc.heap[gb223]? = some (.cells #[.int .u64 t218, (.slice Ao18 t219.length co18)] 30 (0, 0))) ∧ Aside0 (wc.heap[gb232]? = some (.cells #[.int .u64 t227, (.slice Ao56 t228.length co56)] 25 (0, 0))) ∧ Aside0 (Below w.heap.size w wc))
    case first =>
     have H := HC41.out; clear HC41
     try go_wp2
     have n0_ : Aside0 (Kd.V (Kd.slice 4 Kd.bool) 33 ((w50.setCell ⟨gb232, 0, none⟩ (.int .u64 t227)).setCell ⟨gb232, 1, none⟩ (.slice Ao56 t228.length co56)) w.heap.size (fun k_ => some k_ ≠ (.slice Ao56 t228.length co56 : Value).ownBlock ∧ k_ ≠ gb212 ∧ k_ ≠ gb213 ∧ k_ ≠ gb222 ∧ k_ ≠ gb223 ∧ k_ ≠ gb232) (.slice Ao15 t215.length co15) t215) := ⟨by (with_reducible repeat (first | apply Kd.V_alloc | apply Kd.V_drewN | apply Kd.V_drew)); exact Kd.V_mono (Kd.V_far (p := ⟨gb232, 1, none⟩) (Kd.V_far (p := ⟨gb232, 0, none⟩) (Kd.V_mono HO_223001.out (fun k_ hk => (⟨hk, hk.2⟩ : _ ∧ k_ ≠ gb232))) (fun _ hk => hk.2) (.int .u64 t227)) (fun _ hk => hk.2) (.slice Ao56 t228.length co56)) (fun _ hk => ⟨hk.1.1.2, ⟨hk.1.1.1.1, ⟨hk.1.1.1.2.1, ⟨hk.1.1.1.2.2.1, ⟨hk.1.1.1.2.2.2, hk.1.2⟩⟩⟩⟩⟩)⟩
     have n1_ : Aside0 (Kd.V (Kd.slice 4 Kd.bool) 33 ((w50.setCell ⟨gb232, 0, none⟩ (.int .u64 t227)).setCell ⟨gb232, 1, none⟩ (.slice Ao56 t228.length co56)) w.heap.size (fun k_ => some k_ ≠ (.slice Ao56 t228.length co56 : Value).ownBlock ∧ k_ ≠ gb212 ∧ k_ ≠ gb213 ∧ k_ ≠ gb222 ∧ k_ ≠ gb223 ∧ k_ ≠ gb232) (.slice Ao18 t219.length co18) t219) := ⟨by (with_reducible repeat (first | apply Kd.V_alloc | apply Kd.V_drewN | apply Kd.V_drew)); exact Kd.V_mono (Kd.V_far (p := ⟨gb232, 1, none⟩) (Kd.V_far (p := ⟨gb232, 0, none⟩) (Kd.V_mono HO_224001.out (fun k_ hk => (⟨hk, hk.2⟩ : _ ∧ k_ ≠ gb232))) (fun _ hk => hk.2) (.int .u64 t227)) (fun _ hk => hk.2) (.slice Ao56 t228.length co56)) (fun _ hk => ⟨hk.1.1.2, ⟨hk.1.1.1.1, ⟨hk.1.1.1.2.1, ⟨hk.1.1.1.2.2.1, ⟨hk.1.1.1.2.2.2, hk.1.2⟩⟩⟩⟩⟩)⟩; have n2_ : Aside0 (Kd.S (Kd.slice 4 Kd.bool) 33 ((w50.setCell ⟨gb232, 0, none⟩ (.int .u64 t227)).setCell ⟨gb232, 1, none⟩ (.slice Ao56 t228.length co56)) w.heap.size (fun _ => True) (.slice Ao56 t228.length co56) t228) := ⟨by (with_reducible repeat (first | apply Kd.S_alloc | apply Kd.S_drewN | apply Kd.S_drew)); exact Kd.S_mono (Kd.S_far (p := ⟨gb232, 1, none⟩) (Kd.S_far (p := ⟨gb232, 0, none⟩) (Kd.S_types HO230.out BK232.out (by decide)) (fun _ hk => hk.2) (.int .u64 t227)) (fun _ hk => hk.2) (.slice Ao56 t228.length co56)) (fun _ hk => trivial)⟩
     have n3_ : Aside0 (((w50.setCell ⟨gb232, 0, none⟩ (.int .u64 t227)).setCell ⟨gb232, 1, none⟩ (.slice Ao56 t228.length co56)).heap[gb212]? = some (.cells #[.int .u64 a0_0, .slice A0_1 l0_1.length c0_1] 25 (0, 0))) := ⟨by (with_reducible repeat (first | refine blk_drewN ?_ _ | refine blk_drew ?_ | refine blk_alloc ?_ _)); refine blk_far ?_ NB212_232.out _; (with_reducible repeat (first | refine blk_drewN ?_ _ | refine blk_drew ?_ | refine blk_alloc ?_ _)); refine blk_far ?_ NB212_232.out _; (with_reducible repeat (first | refine blk_drewN ?_ _ | refine blk_drew ?_ | refine blk_alloc ?_ _)); exact BK212.out⟩; have n4_ : Aside0 (((w50.setCell ⟨gb232, 0, none⟩ (.int .u64 t227)).setCell ⟨gb232, 1, none⟩ (.slice Ao56 t228.length co56)).heap[gb213]? = some (.cells #[.int .u64 a1_0, .slice A1_1 l1_1.length c1_1] 25 (0, 0))) := ⟨by (with_reducible repeat (first | refine blk_drewN ?_ _ | refine blk_drew ?_ | refine blk_alloc ?_ _)); refine blk_far ?_ NB213_232.out _; (with_reducible repeat (first | refine blk_drewN ?_ _ | refine blk_drew ?_ | refine blk_alloc ?_ _)); refine blk_far ?_ NB213_232.out _; (with_reducible repeat (first | refine blk_drewN ?_ _ | refine blk_drew ?_ | refine blk_alloc ?_ _)); exact BK213.out⟩
     have n5_ : Aside0 (((w50.setCell ⟨gb232, 0, none⟩ (.int .u64 t227)).setCell ⟨gb232, 1, none⟩ (.slice Ao56 t228.length co56)).heap[gb222]? = some (.cells #[.int .u64 t214, .slice Ao15 t215.length co15] 30 (0, 0))) := ⟨by (with_reducible repeat (first | refine blk_drewN ?_ _ | refine blk_drew ?_ | refine blk_alloc ?_ _)); refine blk_far ?_ NB222_232.out _; (with_reducible repeat (first | refine blk_drewN ?_ _ | refine blk_drew ?_ | refine blk_alloc ?_ _)); refine blk_far ?_ NB222_232.out _; (with_reducible repeat (first | refine blk_drewN ?_ _ | refine blk_drew ?_ | refine blk_alloc ?_ _)); exact BK222.out⟩; have n6_ : Aside0 (((w50.setCell ⟨gb232, 0, none⟩ (.int .u64 t227)).setCell ⟨gb232, 1, none⟩ (.slice Ao56 t228.length co56)).heap[gb223]? = some (.cells #[.int .u64 t218, .slice Ao18 t219.length co18] 30 (0, 0))) := ⟨by (with_reducible repeat (first | refine blk_drewN ?_ _ | refine blk_drew ?_ | refine blk_alloc ?_ _)); refine blk_far ?_ NB223_232.out _; (with_reducible repeat (first | refine blk_drewN ?_ _ | refine blk_drew ?_ | refine blk_alloc ?_ _)); refine blk_far ?_ NB223_232.out _; (with_reducible repeat (first | refine blk_drewN ?_ _ | refine blk_drew ?_ | refine blk_alloc ?_ _)); exact BK223.out⟩
     have n7_ : Aside0 (((w50.setCell ⟨gb232, 0, none⟩ (.int .u64 t227)).setCell ⟨gb232, 1, none⟩ (.slice Ao56 t228.length co56)).heap[gb232]? = some (.cells #[.int .u64 t227, .slice Ao56 t228.length co56] 25 (0, 0))) := ⟨by (with_reducible repeat (first | refine blk_drewN ?_ _ | refine blk_drew ?_ | refine blk_alloc ?_ _)); refine blk_put (cs := #[.int .u64 t227, .slice none 0 0]) ?_ 1 _ rfl; (with_reducible repeat (first | refine blk_drewN ?_ _ | refine blk_drew ?_ | refine blk_alloc ?_ _)); refine blk_put (cs := #[.int .u64 0, .slice none 0 0]) ?_ 0 _ rfl; (with_reducible repeat (first | refine blk_drewN ?_ _ | refine blk_drew ?_ | refine blk_alloc ?_ _)); exact BK232.out⟩; have n8_ : Aside0 (Below w.heap.size w ((w50.setCell ⟨gb232, 0, none⟩ (.int .u64 t227)).setCell ⟨gb232, 1, none⟩ (.slice Ao56 t228.length co56))) := ⟨by repeat (first | (with_reducible first | exact HB.out | apply below_alloc | apply pw_below_drewN | apply below_drew1 | refine below_set ?_ GE212.out | refine below_set ?_ GE213.out | refine below_set ?_ GE222.out | refine below_set ?_ GE223.out | refine below_set ?_ GE232.out) | exact HB.out)⟩; (try clear HO_223001); (try clear HO_224001); (try clear HO230); (try clear BK212); (try clear BK213); (try clear BK222); (try clear BK223); (try clear BK232); (try clear HB); generalize ((w50.setCell ⟨gb232, 0, none⟩ (.int .u64 t227)).setCell ⟨gb232, 1, none⟩ (.slice Ao56 t228.length co56)) = w65 at n0_ n1_ n2_ n3_ n4_ n5_ n6_ n7_ n8_ ⊢; have HO_223001 := n0_
     have HO_224001 := n1_; have HO230 := n2_; have BK212 := n3_; have BK213 := n4_; have BK222 := n5_; have BK223 := n6_; have BK232 := n7_; have HB := n8_; clear n0_ n1_ n2_ n3_ n4_ n5_ n6_ n7_ n8_; replace H := Option.bind_eq_some_iff.mp H; obtain ⟨t233, A570, H⟩ := H; replace H : (if t233 = true then ((rillmeterref13_Right.f kj4 t218 t219).bind fun t234 => (if t234 = true then (if a0_0 = a1_0 then (if (l0_1.length : Int) = (l1_1.length : Int) then (if 0 < (l0_1.length : Int) then (if 0 < (l1_1.length : Int) then (rillmeterlaw13_BitmapMerges.j1 kj4 t231 (((rd_L1 l0_1 0).length : Int) != ((rd_L1 l1_1 0).length : Int)) a0_0 l0_1 a1_0 l1_1 t227 t228) else (none)) else (none)) else (rillmeterlaw13_BitmapMerges.j1 kj4 t231 true a0_0 l0_1 a1_0 l1_1 t227 t228)) else (rillmeterlaw13_BitmapMerges.j1 kj4 t231 true a0_0 l0_1 a1_0 l1_1 t227 t228)) else (rillmeterlaw13_BitmapMerges.j1 kj4 t231 true a0_0 l0_1 a1_0 l1_1 t227 t228))) else (rillmeterlaw13_BitmapMerges.j1 kj4 t231 true a0_0 l0_1 a1_0 l1_1 t227 t228)) = some r := H; have A57 := Aside0.mk A570; clear A570
     by_cases c58 : t233 = true
     ·subst c58
      have H1 : ((rillmeterref13_Right.f kj4 t218 t219).bind fun t234 => (if t234 = true then (if a0_0 = a1_0 then (if (l0_1.length : Int) = (l1_1.length : Int) then (if 0 < (l0_1.length : Int) then (if 0 < (l1_1.length : Int) then (rillmeterlaw13_BitmapMerges.j1 kj4 t231 (((rd_L1 l0_1 0).length : Int) != ((rd_L1 l1_1 0).length : Int)) a0_0 l0_1 a1_0 l1_1 t227 t228) else (none)) else (none)) else (rillmeterlaw13_BitmapMerges.j1 kj4 t231 true a0_0 l0_1 a1_0 l1_1 t227 t228)) else (rillmeterlaw13_BitmapMerges.j1 kj4 t231 true a0_0 l0_1 a1_0 l1_1 t227 t228)) else (rillmeterlaw13_BitmapMerges.j1 kj4 t231 true a0_0 l0_1 a1_0 l1_1 t227 t228))) = some r := by rw [if_pos rfl] at H; exact H
      clear H; have H := H1; clear H1; replace H := Option.bind_eq_some_iff.mp H; obtain ⟨t234, A590, H⟩ := H; replace H : (if t234 = true then (if a0_0 = a1_0 then (if (l0_1.length : Int) = (l1_1.length : Int) then (if 0 < (l0_1.length : Int) then (if 0 < (l1_1.length : Int) then (rillmeterlaw13_BitmapMerges.j1 kj4 t231 (((rd_L1 l0_1 0).length : Int) != ((rd_L1 l1_1 0).length : Int)) a0_0 l0_1 a1_0 l1_1 t227 t228) else (none)) else (none)) else (rillmeterlaw13_BitmapMerges.j1 kj4 t231 true a0_0 l0_1 a1_0 l1_1 t227 t228)) else (rillmeterlaw13_BitmapMerges.j1 kj4 t231 true a0_0 l0_1 a1_0 l1_1 t227 t228)) else (rillmeterlaw13_BitmapMerges.j1 kj4 t231 true a0_0 l0_1 a1_0 l1_1 t227 t228)) = some r := H; have A59 := Aside0.mk A590; clear A590
      by_cases c60 : t234 = true
      ·subst c60
       have H1 : (if a0_0 = a1_0 then (if (l0_1.length : Int) = (l1_1.length : Int) then (if 0 < (l0_1.length : Int) then (if 0 < (l1_1.length : Int) then (rillmeterlaw13_BitmapMerges.j1 kj4 t231 (((rd_L1 l0_1 0).length : Int) != ((rd_L1 l1_1 0).length : Int)) a0_0 l0_1 a1_0 l1_1 t227 t228) else (none)) else (none)) else (rillmeterlaw13_BitmapMerges.j1 kj4 t231 true a0_0 l0_1 a1_0 l1_1 t227 t228)) else (rillmeterlaw13_BitmapMerges.j1 kj4 t231 true a0_0 l0_1 a1_0 l1_1 t227 t228)) = some r := by rw [if_pos rfl] at H; exact H
       clear H; have H := H1; clear H1
       by_cases c61 : a0_0 = a1_0
       ·rw [if_pos c61] at H; have c61b0 : (a0_0 == a1_0) = true := beq_iff_eq.mpr c61; have c61b1 : (a0_0 != a1_0) = false := bne_eq_false_iff_eq.mpr c61; clear c61
        (first | rw [c61b0] | (simp only [i64_w, i32_w]; rw [c61b0]) | skip)
        by_cases c62 : (l0_1.length : Int) = (l1_1.length : Int)
        ·rw [if_pos c62] at H; have c62b0 : ((l0_1.length : Int) == (l1_1.length : Int)) = true := beq_iff_eq.mpr c62; have c62b1 : ((l0_1.length : Int) != (l1_1.length : Int)) = false := bne_eq_false_iff_eq.mpr c62
         have c62b2 : (l0_1.length == l1_1.length) = true := by first | simpa using c62 | (simp at c62 ⊢; omega)
         clear c62
         by_cases c63 : 0 < (l0_1.length : Int)
         ·rw [if_pos c63] at H; have c63b0 : decide (0 < (l0_1.length : Int)) = true := decide_eq_true c63; have c63b1 : decide (0 < l0_1.length) = true := decide_eq_true (by omega); clear c63
          by_cases c64 : 0 < (l1_1.length : Int)
          ·rw [if_pos c64] at H; have c64b0 : decide (0 < (l1_1.length : Int)) = true := decide_eq_true c64; have c64b1 : decide (0 < l1_1.length) = true := decide_eq_true (by omega); clear c64; have H' := Aside0.mk H; clear H; replace HO_223001 := Aside0.mk (Kd.V_drew HO_223001.out); replace HO_224001 := Aside0.mk (Kd.V_drew HO_224001.out); replace HO230 := Aside0.mk (Kd.S_drew HO230.out); replace BK212 := Aside0.mk (blk_drew BK212.out); replace BK213 := Aside0.mk (blk_drew BK213.out); replace BK222 := Aside0.mk (blk_drew BK222.out); replace BK223 := Aside0.mk (blk_drew BK223.out); replace BK232 := Aside0.mk (blk_drew BK232.out); replace HB := Aside0.mk (below_drew1 HB.out); have p235 : 0 ≤ (0 : Int) := (by omega); have q235 : 0 < (l0_1.length : Int) := of_decide_eq_true (by first | (with_reducible assumption) | assumption); obtain ⟨ad235, A235_0, c235_0, e235, hx235_0, hl235_0, hi235_0⟩ := at_L1 HR0_1.out 0 p235 q235; have hw235_0 := hx235_0; (try rw [show ((0 : Int)).toNat = 0 from rfl] at hw235_0); (try rw [show 0 * 1 = 0 from rfl] at hw235_0); (try rw [Addr.add_zero'] at hw235_0)
           cases e235; have qi235 : (0 < l0_1.length) = True := eq_true (by omega); (try rw [show ((0 : Int)).toNat = 0 from rfl] at hx235_0); (try rw [Addr.add_zero'] at hx235_0); (try replace hx235_0 := (HB.out.cell (World.block_lt_of_cell? w _ hx235_0)).trans hx235_0); have HR235_0 := Aside0.mk hi235_0; have HC235_0 := Aside0.mk hl235_0; clear hi235_0 hl235_0; replace p235 := eq_true p235; replace q235 := eq_true q235; have p236 : 0 ≤ (0 : Int) := (by omega); have q236 : 0 < (l1_1.length : Int) := of_decide_eq_true (by first | (with_reducible assumption) | assumption); obtain ⟨ad236, A236_0, c236_0, e236, hx236_0, hl236_0, hi236_0⟩ := at_L1 HR1_1.out 0 p236 q236; have hw236_0 := hx236_0; (try rw [show ((0 : Int)).toNat = 0 from rfl] at hw236_0); (try rw [show 0 * 1 = 0 from rfl] at hw236_0); (try rw [Addr.add_zero'] at hw236_0)
           cases e236; have qi236 : (0 < l1_1.length) = True := eq_true (by omega); (try rw [show ((0 : Int)).toNat = 0 from rfl] at hx236_0); (try rw [Addr.add_zero'] at hx236_0); (try replace hx236_0 := (HB.out.cell (World.block_lt_of_cell? w _ hx236_0)).trans hx236_0); have HR236_0 := Aside0.mk hi236_0; have HC236_0 := Aside0.mk hl236_0; clear hi236_0 hl236_0; replace p236 := eq_true p236; replace q236 := eq_true q236
           refine start_ (n := 37) (S := fun w' => w'.cell? ⟨gb222, 0, none⟩ = some (.int .u64 t214) ∧ w'.cell? ⟨gb222, 1, none⟩ = some (.slice Ao15 t215.length co15) ∧ w'.cell? ⟨gb223, 0, none⟩ = some (.int .u64 t218) ∧ w'.cell? ⟨gb223, 1, none⟩ = some (.slice Ao18 t219.length co18) ∧ w'.cell? ⟨gb212, 0, none⟩ = some (.int .u64 a0_0) ∧ w'.cell? ⟨gb212, 1, none⟩ = some (.slice (some ad235) l0_1.length c0_1) ∧ w'.cell? ⟨gb213, 0, none⟩ = some (.int .u64 a1_0) ∧ w'.cell? ⟨gb213, 1, none⟩ = some (.slice (some ad236) l1_1.length c1_1) ∧ w'.cell? ad235 = some (.slice A235_0 (rd_L1 l0_1 0).length c235_0) ∧ w'.cell? ad236 = some (.slice A236_0 (rd_L1 l1_1 0).length c236_0)) (ds := []) (mB 37 0) (by kernel_rfl) rfl rfl ⟨(blk_cell BK222.out 0).trans rfl, (blk_cell BK222.out 1).trans rfl, (blk_cell BK223.out 0).trans rfl, (blk_cell BK223.out 1).trans rfl, (blk_cell BK212.out 0).trans rfl, (blk_cell BK212.out 1).trans rfl, (blk_cell BK213.out 0).trans rfl, (blk_cell BK213.out 1).trans rfl, ((HB.out.cell (World.block_lt_of_cell? w _ hw235_0)).trans hw235_0), ((HB.out.cell (World.block_lt_of_cell? w _ hw236_0)).trans hw236_0)⟩ (fun hHeld => ?_); refine with_tabW rillmeterlaw13_BitmapMerges.tab5 rillmeterlaw13_BitmapMerges.bits5 (fun HT_ HW_ => ?_); generalize w65.drew = w66 at HO_223001 HO_224001 HO230 BK212 BK213 BK222 BK223 BK232 HB HR235_0 HR236_0 hx235_0 hx236_0 hHeld ⊢
           refine take_ (i := 0) (N := some 30) (v := ?_) (a' := ?_) (mB 37 1) rfl rfl (take_ofW HT_.out HW_.out (by kernel_rfl)) (fun _ _ _ h => h) (Or.inl ⟨by rfl, ?_⟩) hHeld ?_ ?_; rotate_left
           ·rintro w' ⟨s0, s1, s2, s3, s4, s5, s6, s7, s8, s9⟩; go_simp; with_reducible rfl
           rotate_left
           ·simp only [Act.put, sa_, sb_, sc_, i64_w, i32_w]; rfl
           refine one_ (i := 1) (N := some 31) (mB 37 3) rfl rfl (one_of HT_.out (by kernel_rfl)) (by decide) (fun K hK => ?_); refine goes_ Tryd.func12 (by kernel_rfl) rfl #[.agg #[.int .u64 t214, .slice Ao15 t215.length co15]] (by rfl) rfl rfl (by (try simp only [List.map_toArray, List.map_cons, List.map_nil]); first | done | rfl | (simp only [List.length_drop, List.length_take]; rfl)) ?_; with_reducible refine (rillmeterref13_Right.calls kj4 t214 _ _ t215 true _ ?side1 ?side2 A57.out).mono ?_
           (case side1 => repeat (first | exact (Kd.V_reads' HO_223001.out).2.2 | (with_reducible refine Kd.C_alloc ?_ _) | (with_reducible refine Kd.C_drewN ?_ _) | (with_reducible refine Kd.C_drew ?_))); (case side2 => exact (Kd.V_reads' HO_223001.out).2.1); rintro e w67 ⟨rfl, hb⟩; refine ⟨_, rfl, ?_⟩; replace HO_223001 := Aside0.mk (Kd.V_below (vk_ HO_223001) hb); replace HO_224001 := Aside0.mk (Kd.V_below (vk_ HO_224001) hb); replace HO230 := Aside0.mk (Kd.S_below (sk_ HO230) hb); replace BK212 := Aside0.mk (blk_below (bk_ BK212) hb); replace BK213 := Aside0.mk (blk_below (bk_ BK213) hb); replace BK222 := Aside0.mk (blk_below (bk_ BK222) hb); replace BK223 := Aside0.mk (blk_below (bk_ BK223) hb); replace BK232 := Aside0.mk (blk_below (bk_ BK232) hb); replace HB := Aside0.mk (below_step (bl_ HB) hb); (try clear hb); refine hK.out _ _ ⟨(blk_cell BK222.out 0).trans rfl, (blk_cell BK222.out 1).trans rfl, (blk_cell BK223.out 0).trans rfl, (blk_cell BK223.out 1).trans rfl, (blk_cell BK212.out 0).trans rfl, (blk_cell BK212.out 1).trans rfl, (blk_cell BK213.out 0).trans rfl, (blk_cell BK213.out 1).trans rfl, ((HB.out.cell (World.block_lt_of_cell? w _ hw235_0)).trans hw235_0), ((HB.out.cell (World.block_lt_of_cell? w _ hw236_0)).trans hw236_0)⟩ (fun hHeld => ?_); clear hK K; refine norm_ (a' := ?_) ?_ ?_; rotate_left
           ·show Act.put _ (some 31) _ = _
            simp only [Act.put, sa_, sb_, sc_, i64_w, i32_w]; rfl
           refine pw_ 2 32 (v := ?_) (a' := ?_) (mB 37 7) rfl rfl HT_ (by kernel_rfl) (fun _ _ _ h => h) ?_ ?_ ?_; rotate_left
           ·intro w'; go_simp; with_reducible rfl
           rotate_left
           ·simp only [Act.put, sa_, sb_, sc_, i64_w, i32_w]; rfl
           refine pw_ 3 33 (v := ?_) (a' := ?_) (mB 37 15) rfl rfl HT_ (by kernel_rfl) (fun _ _ _ h => h) ?_ ?_ ?_; rotate_left
           ·intro w'; go_simp; with_reducible rfl
           rotate_left
           ·simp only [Act.put, sa_, sb_, sc_, i64_w, i32_w]; rfl
           refine take_ (i := 4) (N := some 34) (v := ?_) (a' := ?_) (mB 37 31) rfl rfl (take_ofW HT_.out HW_.out (by kernel_rfl)) (fun _ _ _ h => h) (Or.inl ⟨by rfl, ?_⟩) hHeld ?_ ?_; rotate_left
           ·rintro w' ⟨s0, s1, s2, s3, s4, s5, s6, s7, s8, s9⟩; go_simp; with_reducible rfl
           rotate_left
           ·simp only [Act.put, sa_, sb_, sc_, i64_w, i32_w]; rfl
           refine one_ (i := 5) (N := some 35) (mB 37 63) rfl rfl (one_of HT_.out (by kernel_rfl)) (by decide) (fun K hK => ?_); refine goes_ Tryd.func12 (by kernel_rfl) rfl #[.agg #[.int .u64 t218, .slice Ao18 t219.length co18]] (by rfl) rfl rfl (by (try simp only [List.map_toArray, List.map_cons, List.map_nil]); first | done | rfl | (simp only [List.length_drop, List.length_take]; rfl)) ?_; with_reducible refine (rillmeterref13_Right.calls kj4 t218 _ _ t219 true _ ?side1 ?side2 A59.out).mono ?_
           (case side1 => repeat (first | exact (Kd.V_reads' HO_224001.out).2.2 | (with_reducible refine Kd.C_alloc ?_ _) | (with_reducible refine Kd.C_drewN ?_ _) | (with_reducible refine Kd.C_drew ?_))); (case side2 => exact (Kd.V_reads' HO_224001.out).2.1); rintro e w68 ⟨rfl, hb⟩; refine ⟨_, rfl, ?_⟩; replace HO_223001 := Aside0.mk (Kd.V_below (vk_ HO_223001) hb); replace HO_224001 := Aside0.mk (Kd.V_below (vk_ HO_224001) hb); replace HO230 := Aside0.mk (Kd.S_below (sk_ HO230) hb); replace BK212 := Aside0.mk (blk_below (bk_ BK212) hb); replace BK213 := Aside0.mk (blk_below (bk_ BK213) hb); replace BK222 := Aside0.mk (blk_below (bk_ BK222) hb); replace BK223 := Aside0.mk (blk_below (bk_ BK223) hb); replace BK232 := Aside0.mk (blk_below (bk_ BK232) hb); replace HB := Aside0.mk (below_step (bl_ HB) hb); (try clear hb); refine hK.out _ _ ⟨(blk_cell BK222.out 0).trans rfl, (blk_cell BK222.out 1).trans rfl, (blk_cell BK223.out 0).trans rfl, (blk_cell BK223.out 1).trans rfl, (blk_cell BK212.out 0).trans rfl, (blk_cell BK212.out 1).trans rfl, (blk_cell BK213.out 0).trans rfl, (blk_cell BK213.out 1).trans rfl, ((HB.out.cell (World.block_lt_of_cell? w _ hw235_0)).trans hw235_0), ((HB.out.cell (World.block_lt_of_cell? w _ hw236_0)).trans hw236_0)⟩ (fun hHeld => ?_); clear hK K; refine norm_ (a' := ?_) ?_ ?_; rotate_left
           ·show Act.put _ (some 35) _ = _
            simp only [Act.put, sa_, sb_, sc_, i64_w, i32_w]; rfl
           refine pw_ 6 36 (v := ?_) (a' := ?_) (mB 37 127) rfl rfl HT_ (by kernel_rfl) (fun _ _ _ h => h) ?_ ?_ ?_; rotate_left
           ·intro w'; go_simp; with_reducible rfl
           rotate_left
           ·simp only [Act.put, sa_, sb_, sc_, i64_w, i32_w]; rfl
           refine pw_ 7 37 (v := ?_) (a' := ?_) (mB 37 255) rfl rfl HT_ (by kernel_rfl) (fun _ _ _ h => h) ?_ ?_ ?_; rotate_left
           ·intro w'; go_simp; with_reducible rfl
           rotate_left
           ·simp only [Act.put, sa_, sb_, sc_, i64_w, i32_w]; rfl
           refine pw_ 8 38 (v := ?_) (a' := ?_) (mB 37 511) rfl rfl HT_ (by kernel_rfl) (fun _ _ _ h => h) ?_ ?_ ?_; rotate_left
           ·intro w'; go_simp; with_reducible rfl
           rotate_left
           ·simp only [Act.put, sa_, sb_, sc_, i64_w, i32_w]; rfl
           refine pw_ 9 39 (v := ?_) (a' := ?_) (mB 37 1023) rfl rfl HT_ (by kernel_rfl) (fun _ _ _ h => h) ?_ ?_ ?_; rotate_left
           ·intro w'; go_simp; with_reducible rfl
           rotate_left
           ·simp only [Act.put, sa_, sb_, sc_, i64_w, i32_w]; rfl
           refine pw_ 11 41 (v := ?_) (a' := ?_) (mB 37 3071) rfl rfl HT_ (by kernel_rfl) (fun _ _ _ h => h) ?_ ?_ ?_; rotate_left
           ·intro w'; go_simp; with_reducible rfl
           rotate_left
           ·simp only [Act.put, sa_, sb_, sc_, i64_w, i32_w]; rfl
           refine take_ (i := 10) (N := some 40) (v := ?_) (a' := ?_) (mB 37 4095) rfl rfl (take_ofW HT_.out HW_.out (by kernel_rfl)) (fun _ _ _ h => h) (Or.inl ⟨by rfl, ?_⟩) hHeld ?_ ?_; rotate_left
           ·rintro w' ⟨s0, s1, s2, s3, s4, s5, s6, s7, s8, s9⟩; go_simp; with_reducible rfl
           rotate_left
           ·simp only [Act.put, sa_, sb_, sc_, i64_w, i32_w]; rfl
           refine take_ (i := 12) (N := some 42) (v := ?_) (a' := ?_) (mB 37 8191) rfl rfl (take_ofW HT_.out HW_.out (by kernel_rfl)) (fun _ _ _ h => h) (Or.inl ⟨by rfl, ?_⟩) hHeld ?_ ?_; rotate_left
           ·rintro w' ⟨s0, s1, s2, s3, s4, s5, s6, s7, s8, s9⟩; go_simp; with_reducible rfl
           rotate_left
           ·simp only [Act.put, sa_, sb_, sc_, i64_w, i32_w]; rfl
           refine pw_ 13 43 (v := ?_) (a' := ?_) (mB 37 16383) rfl rfl HT_ (by kernel_rfl) (fun _ _ _ h => h) ?_ ?_ ?_; rotate_left
           ·intro w'; go_simp; with_reducible rfl
           rotate_left
           ·simp only [Act.put, sa_, sb_, sc_, i64_w, i32_w]; rfl
           refine pw_ 14 44 (v := ?_) (a' := ?_) (mB 37 32767) rfl rfl HT_ (by kernel_rfl) (fun _ _ _ h => h) ?_ ?_ ?_; rotate_left
           ·intro w'; go_simp; with_reducible rfl
           rotate_left
           ·simp only [Act.put, sa_, sb_, sc_, i64_w, i32_w]; rfl
           refine pw_ 15 45 (v := ?_) (a' := ?_) (mB 37 65535) rfl rfl HT_ (by kernel_rfl) (fun _ _ _ h => h) ?_ ?_ ?_; rotate_left
           ·intro w'; go_simp; with_reducible rfl
           rotate_left
           ·simp only [Act.put, sa_, sb_, sc_, i64_w, i32_w]; rfl
           refine pw_ 16 46 (v := ?_) (a' := ?_) (mB 37 131071) rfl rfl HT_ (by kernel_rfl) (fun _ _ _ h => h) ?_ ?_ ?_; rotate_left
           ·intro w'; go_simp; with_reducible rfl
           rotate_left
           ·simp only [Act.put, sa_, sb_, sc_, i64_w, i32_w]; rfl
           refine pw_ 19 49 (v := ?_) (a' := ?_) (mB 37 655359) rfl rfl HT_ (by kernel_rfl) (fun _ _ _ h => h) ?_ ?_ ?_; rotate_left
           ·intro w'; go_simp; with_reducible rfl
           rotate_left
           ·simp only [Act.put, sa_, sb_, sc_, i64_w, i32_w]; rfl
           refine take_ (i := 17) (N := some 47) (v := ?_) (a' := ?_) (mB 37 786431) rfl rfl (take_ofW HT_.out HW_.out (by kernel_rfl)) (fun _ _ _ h => h) (Or.inl ⟨by rfl, ?_⟩) hHeld ?_ ?_; rotate_left
           ·rintro w' ⟨s0, s1, s2, s3, s4, s5, s6, s7, s8, s9⟩; go_simp; with_reducible rfl
           rotate_left
           ·simp only [Act.put, sa_, sb_, sc_, i64_w, i32_w]; rfl
           refine pw_ 18 48 (v := ?_) (a' := ?_) (mB 37 1048575) rfl rfl HT_ (by kernel_rfl) (fun _ _ _ h => h) ?_ ?_ ?_; rotate_left
           ·intro w'; go_simp; with_reducible rfl
           rotate_left
           ·simp only [Act.put, sa_, sb_, sc_, i64_w, i32_w]; rfl
           refine take_ (i := 20) (N := some 50) (v := ?_) (a' := ?_) (mB 37 2097151) rfl rfl (take_ofW HT_.out HW_.out (by kernel_rfl)) (fun _ _ _ h => h) (Or.inl ⟨by rfl, ?_⟩) hHeld ?_ ?_; rotate_left
           ·rintro w' ⟨s0, s1, s2, s3, s4, s5, s6, s7, s8, s9⟩; go_simp; with_reducible rfl
           rotate_left
           ·simp only [Act.put, sa_, sb_, sc_, i64_w, i32_w]; rfl
           refine pw_ 21 51 (v := ?_) (a' := ?_) (mB 37 4194303) rfl rfl HT_ (by kernel_rfl) (fun _ _ _ h => h) ?_ ?_ ?_; rotate_left
           ·intro w'; go_simp; with_reducible rfl
           rotate_left
           ·simp only [Act.put, sa_, sb_, sc_, i64_w, i32_w]; rfl
           refine pw_ 22 52 (v := ?_) (a' := ?_) (mB 37 8388607) rfl rfl HT_ (by kernel_rfl) (fun _ _ _ h => h) ?_ ?_ ?_; rotate_left
           ·intro w'; go_simp; with_reducible rfl
           rotate_left
           ·simp only [Act.put, sa_, sb_, sc_, i64_w, i32_w]; rfl
           refine pw_ 23 53 (v := ?_) (a' := ?_) (mB 37 16777215) rfl rfl HT_ (by kernel_rfl) (fun _ _ _ h => h) ?_ ?_ ?_; rotate_left
           ·intro w'; go_simp; with_reducible rfl
           rotate_left
           ·simp only [Act.put, sa_, sb_, sc_, i64_w, i32_w]; rfl
           refine pw_ 24 54 (v := ?_) (a' := ?_) (mB 37 33554431) rfl rfl HT_ (by kernel_rfl) (fun _ _ _ h => h) ?_ ?_ ?_; rotate_left
           ·intro w'; go_simp; with_reducible rfl
           rotate_left
           ·simp only [Act.put, sa_, sb_, sc_, i64_w, i32_w]; rfl
           refine pw_ 25 55 (v := ?_) (a' := ?_) (mB 37 67108863) rfl rfl HT_ (by kernel_rfl) (fun _ _ _ h => h) ?_ ?_ ?_; rotate_left
           ·intro w'; go_simp; with_reducible rfl
           rotate_left
           ·simp only [Act.put, sa_, sb_, sc_, i64_w, i32_w]; rfl
           refine pw_ 30 60 (v := ?_) (a' := ?_) (mB 37 1140850687) rfl rfl HT_ (by kernel_rfl) (fun _ _ _ h => h) ?_ ?_ ?_; rotate_left
           ·intro w'; go_simp; with_reducible rfl
           rotate_left
           ·simp only [Act.put, sa_, sb_, sc_, i64_w, i32_w]; rfl
           refine take_ (i := 26) (N := some 56) (v := ?_) (a' := ?_) (mB 37 1207959551) rfl rfl (take_ofW HT_.out HW_.out (by kernel_rfl)) (fun _ _ _ h => h) (Or.inl ⟨by rfl, ?_⟩) hHeld ?_ ?_; rotate_left
           ·rintro w' ⟨s0, s1, s2, s3, s4, s5, s6, s7, s8, s9⟩; go_simp; with_reducible rfl
           rotate_left
           ·simp only [Act.put, sa_, sb_, sc_, i64_w, i32_w]; rfl
           refine pw_ 27 57 (v := ?_) (a' := ?_) (mB 37 1342177279) rfl rfl HT_ (by kernel_rfl) (fun _ _ _ h => h) ?_ ?_ ?_; rotate_left
           ·intro w'; go_simp; with_reducible rfl
           rotate_left
           ·simp only [Act.put, sa_, sb_, sc_, i64_w, i32_w]; rfl
           refine take_ (i := 28) (N := some 58) (v := ?_) (a' := ?_) (mB 37 1610612735) rfl rfl (take_ofW HT_.out HW_.out (by kernel_rfl)) (fun _ _ _ h => h) (Or.inl ⟨by rfl, ?_⟩) hHeld ?_ ?_; rotate_left
           ·rintro w' ⟨s0, s1, s2, s3, s4, s5, s6, s7, s8, s9⟩; go_simp; with_reducible rfl
           rotate_left
           ·simp only [Act.put, sa_, sb_, sc_, i64_w, i32_w]; rfl
           refine pw_ 29 59 (v := ?_) (a' := ?_) (mB 37 2147483647) rfl rfl HT_ (by kernel_rfl) (fun _ _ _ h => h) ?_ ?_ ?_; rotate_left
           ·intro w'; go_simp; with_reducible rfl
           rotate_left
           ·simp only [Act.put, sa_, sb_, sc_, i64_w, i32_w]; rfl
           refine take_ (i := 31) (N := some 61) (v := ?_) (a' := ?_) (mB 37 4294967295) rfl rfl (take_ofW HT_.out HW_.out (by kernel_rfl)) (fun _ _ _ h => h) (Or.inl ⟨by rfl, ?_⟩) hHeld ?_ ?_; rotate_left
           ·rintro w' ⟨s0, s1, s2, s3, s4, s5, s6, s7, s8, s9⟩; go_simp; with_reducible rfl
           rotate_left
           ·simp only [Act.put, sa_, sb_, sc_, i64_w, i32_w]; rfl
           refine pw_ 32 62 (v := ?_) (a' := ?_) (mB 37 8589934591) rfl rfl HT_ (by kernel_rfl) (fun _ _ _ h => h) ?_ ?_ ?_; rotate_left
           ·intro w'; go_simp; with_reducible rfl
           rotate_left
           ·simp only [Act.put, sa_, sb_, sc_, i64_w, i32_w]; rfl
           refine take_ (i := 33) (N := some 63) (v := ?_) (a' := ?_) (mB 37 17179869183) rfl rfl (take_ofW HT_.out HW_.out (by kernel_rfl)) (fun _ _ _ h => h) (Or.inl ⟨by rfl, ?_⟩) hHeld ?_ ?_; rotate_left
           ·rintro w' ⟨s0, s1, s2, s3, s4, s5, s6, s7, s8, s9⟩; go_simp; with_reducible rfl
           rotate_left
           ·simp only [Act.put, sa_, sb_, sc_, i64_w, i32_w]; rfl
           refine pw_ 34 64 (v := ?_) (a' := ?_) (mB 37 34359738367) rfl rfl HT_ (by kernel_rfl) (fun _ _ _ h => h) ?_ ?_ ?_; rotate_left
           ·intro w'; go_simp; with_reducible rfl
           rotate_left
           ·simp only [Act.put, sa_, sb_, sc_, i64_w, i32_w]; rfl
           refine pw_ 35 65 (v := ?_) (a' := ?_) (mB 37 68719476735) rfl rfl HT_ (by kernel_rfl) (fun _ _ _ h => h) ?_ ?_ ?_; rotate_left
           ·intro w'; go_simp; with_reducible rfl
           rotate_left
           ·simp only [Act.put, sa_, sb_, sc_, i64_w, i32_w]; rfl
           refine pw_ 36 66 (v := ?_) (a' := ?_) (mB 37 137438953471) rfl rfl HT_ (by kernel_rfl) (fun _ _ _ h => h) ?_ ?_ ?_; rotate_left
           ·intro w'; go_simp; with_reducible rfl
           rotate_left
           ·simp only [Act.put, sa_, sb_, sc_, i64_w, i32_w]; rfl
           refine done_ (done_of HT_.out (by kernel_rfl)) ?_
           try go_wp2
           go_meet
           case rel => exact ⟨_, ((((rd_L1 l0_1 0).length : Int) != ((rd_L1 l1_1 0).length : Int))), (by first | rfl | (simp; done) | (simp [*]; done)), H', ⟨by have := HJ4.out; first | omega | exact Nat.le_refl _⟩, ⟨by (with_reducible repeat (first | apply Kd.V_alloc | apply Kd.V_drewN | apply Kd.V_drew)); exact HO_223001.out⟩, ⟨by (with_reducible repeat (first | apply Kd.V_alloc | apply Kd.V_drewN | apply Kd.V_drew)); exact HO_224001.out⟩, ⟨by (with_reducible repeat (first | apply Kd.S_alloc | apply Kd.S_drewN | apply Kd.S_drew)); exact HO230.out⟩, ⟨bk_ BK212⟩, ⟨bk_ BK213⟩, ⟨bk_ BK222⟩, ⟨bk_ BK223⟩, ⟨bk_ BK232⟩, ⟨bl_ HB⟩⟩
          ·rw [if_neg c64] at H; exact absurd H (by simp)
         ·rw [if_neg c63] at H; exact absurd H (by simp)
        ·rw [if_neg c62] at H; have c62b0 : ((l0_1.length : Int) == (l1_1.length : Int)) = false := beq_eq_false_iff_ne.mpr c62; have c62b1 : ((l0_1.length : Int) != (l1_1.length : Int)) = true := bne_iff_ne.mpr c62
         have c62b2 : (l0_1.length == l1_1.length) = false := by first | simpa using c62 | (simp at c62 ⊢; omega)
         have H' := Aside0.mk H; clear H; replace HO_223001 := Aside0.mk (Kd.V_drew HO_223001.out); replace HO_224001 := Aside0.mk (Kd.V_drew HO_224001.out); replace HO230 := Aside0.mk (Kd.S_drew HO230.out); replace BK212 := Aside0.mk (blk_drew BK212.out); replace BK213 := Aside0.mk (blk_drew BK213.out); replace BK222 := Aside0.mk (blk_drew BK222.out); replace BK223 := Aside0.mk (blk_drew BK223.out); replace BK232 := Aside0.mk (blk_drew BK232.out); replace HB := Aside0.mk (below_drew1 HB.out); refine start_ (n := 37) (S := fun w' => w'.cell? ⟨gb222, 0, none⟩ = some (.int .u64 t214) ∧ w'.cell? ⟨gb222, 1, none⟩ = some (.slice Ao15 t215.length co15) ∧ w'.cell? ⟨gb223, 0, none⟩ = some (.int .u64 t218) ∧ w'.cell? ⟨gb223, 1, none⟩ = some (.slice Ao18 t219.length co18) ∧ w'.cell? ⟨gb212, 0, none⟩ = some (.int .u64 a0_0) ∧ w'.cell? ⟨gb212, 1, none⟩ = some (.slice A0_1 l0_1.length c0_1) ∧ w'.cell? ⟨gb213, 0, none⟩ = some (.int .u64 a1_0) ∧ w'.cell? ⟨gb213, 1, none⟩ = some (.slice A1_1 l1_1.length c1_1)) (ds := []) (mB 37 0) (by kernel_rfl) rfl rfl ⟨(blk_cell BK222.out 0).trans rfl, (blk_cell BK222.out 1).trans rfl, (blk_cell BK223.out 0).trans rfl, (blk_cell BK223.out 1).trans rfl, (blk_cell BK212.out 0).trans rfl, (blk_cell BK212.out 1).trans rfl, (blk_cell BK213.out 0).trans rfl, (blk_cell BK213.out 1).trans rfl⟩ (fun hHeld => ?_); refine with_tabW rillmeterlaw13_BitmapMerges.tab5 rillmeterlaw13_BitmapMerges.bits5 (fun HT_ HW_ => ?_)
         generalize w65.drew = w70 at HO_223001 HO_224001 HO230 BK212 BK213 BK222 BK223 BK232 HB hHeld ⊢; refine take_ (i := 0) (N := some 30) (v := ?_) (a' := ?_) (mB 37 1) rfl rfl (take_ofW HT_.out HW_.out (by kernel_rfl)) (fun _ _ _ h => h) (Or.inl ⟨by rfl, ?_⟩) hHeld ?_ ?_; rotate_left
         ·rintro w' ⟨s0, s1, s2, s3, s4, s5, s6, s7⟩; go_simp; with_reducible rfl
         rotate_left
         ·simp only [Act.put, sa_, sb_, sc_, i64_w, i32_w]; rfl
         refine one_ (i := 1) (N := some 31) (mB 37 3) rfl rfl (one_of HT_.out (by kernel_rfl)) (by decide) (fun K hK => ?_); refine goes_ Tryd.func12 (by kernel_rfl) rfl #[.agg #[.int .u64 t214, .slice Ao15 t215.length co15]] (by rfl) rfl rfl (by (try simp only [List.map_toArray, List.map_cons, List.map_nil]); first | done | rfl | (simp only [List.length_drop, List.length_take]; rfl)) ?_; with_reducible refine (rillmeterref13_Right.calls kj4 t214 _ _ t215 true _ ?side1 ?side2 A57.out).mono ?_
         (case side1 => repeat (first | exact (Kd.V_reads' HO_223001.out).2.2 | (with_reducible refine Kd.C_alloc ?_ _) | (with_reducible refine Kd.C_drewN ?_ _) | (with_reducible refine Kd.C_drew ?_))); (case side2 => exact (Kd.V_reads' HO_223001.out).2.1); rintro e w71 ⟨rfl, hb⟩; refine ⟨_, rfl, ?_⟩; replace HO_223001 := Aside0.mk (Kd.V_below (vk_ HO_223001) hb); replace HO_224001 := Aside0.mk (Kd.V_below (vk_ HO_224001) hb); replace HO230 := Aside0.mk (Kd.S_below (sk_ HO230) hb); replace BK212 := Aside0.mk (blk_below (bk_ BK212) hb); replace BK213 := Aside0.mk (blk_below (bk_ BK213) hb); replace BK222 := Aside0.mk (blk_below (bk_ BK222) hb); replace BK223 := Aside0.mk (blk_below (bk_ BK223) hb); replace BK232 := Aside0.mk (blk_below (bk_ BK232) hb); replace HB := Aside0.mk (below_step (bl_ HB) hb); (try clear hb); refine hK.out _ _ ⟨(blk_cell BK222.out 0).trans rfl, (blk_cell BK222.out 1).trans rfl, (blk_cell BK223.out 0).trans rfl, (blk_cell BK223.out 1).trans rfl, (blk_cell BK212.out 0).trans rfl, (blk_cell BK212.out 1).trans rfl, (blk_cell BK213.out 0).trans rfl, (blk_cell BK213.out 1).trans rfl⟩ (fun hHeld => ?_); clear hK K; refine norm_ (a' := ?_) ?_ ?_; rotate_left
         ·show Act.put _ (some 31) _ = _
          simp only [Act.put, sa_, sb_, sc_, i64_w, i32_w]; rfl
         refine pw_ 2 32 (v := ?_) (a' := ?_) (mB 37 7) rfl rfl HT_ (by kernel_rfl) (fun _ _ _ h => h) ?_ ?_ ?_; rotate_left
         ·intro w'; go_simp; with_reducible rfl
         rotate_left
         ·simp only [Act.put, sa_, sb_, sc_, i64_w, i32_w]; rfl
         refine pw_ 3 33 (v := ?_) (a' := ?_) (mB 37 15) rfl rfl HT_ (by kernel_rfl) (fun _ _ _ h => h) ?_ ?_ ?_; rotate_left
         ·intro w'; go_simp; with_reducible rfl
         rotate_left
         ·simp only [Act.put, sa_, sb_, sc_, i64_w, i32_w]; rfl
         refine take_ (i := 4) (N := some 34) (v := ?_) (a' := ?_) (mB 37 31) rfl rfl (take_ofW HT_.out HW_.out (by kernel_rfl)) (fun _ _ _ h => h) (Or.inl ⟨by rfl, ?_⟩) hHeld ?_ ?_; rotate_left
         ·rintro w' ⟨s0, s1, s2, s3, s4, s5, s6, s7⟩; go_simp; with_reducible rfl
         rotate_left
         ·simp only [Act.put, sa_, sb_, sc_, i64_w, i32_w]; rfl
         refine one_ (i := 5) (N := some 35) (mB 37 63) rfl rfl (one_of HT_.out (by kernel_rfl)) (by decide) (fun K hK => ?_); refine goes_ Tryd.func12 (by kernel_rfl) rfl #[.agg #[.int .u64 t218, .slice Ao18 t219.length co18]] (by rfl) rfl rfl (by (try simp only [List.map_toArray, List.map_cons, List.map_nil]); first | done | rfl | (simp only [List.length_drop, List.length_take]; rfl)) ?_; with_reducible refine (rillmeterref13_Right.calls kj4 t218 _ _ t219 true _ ?side1 ?side2 A59.out).mono ?_
         (case side1 => repeat (first | exact (Kd.V_reads' HO_224001.out).2.2 | (with_reducible refine Kd.C_alloc ?_ _) | (with_reducible refine Kd.C_drewN ?_ _) | (with_reducible refine Kd.C_drew ?_))); (case side2 => exact (Kd.V_reads' HO_224001.out).2.1); rintro e w72 ⟨rfl, hb⟩; refine ⟨_, rfl, ?_⟩; replace HO_223001 := Aside0.mk (Kd.V_below (vk_ HO_223001) hb); replace HO_224001 := Aside0.mk (Kd.V_below (vk_ HO_224001) hb); replace HO230 := Aside0.mk (Kd.S_below (sk_ HO230) hb); replace BK212 := Aside0.mk (blk_below (bk_ BK212) hb); replace BK213 := Aside0.mk (blk_below (bk_ BK213) hb); replace BK222 := Aside0.mk (blk_below (bk_ BK222) hb); replace BK223 := Aside0.mk (blk_below (bk_ BK223) hb); replace BK232 := Aside0.mk (blk_below (bk_ BK232) hb); replace HB := Aside0.mk (below_step (bl_ HB) hb); (try clear hb); refine hK.out _ _ ⟨(blk_cell BK222.out 0).trans rfl, (blk_cell BK222.out 1).trans rfl, (blk_cell BK223.out 0).trans rfl, (blk_cell BK223.out 1).trans rfl, (blk_cell BK212.out 0).trans rfl, (blk_cell BK212.out 1).trans rfl, (blk_cell BK213.out 0).trans rfl, (blk_cell BK213.out 1).trans rfl⟩ (fun hHeld => ?_); clear hK K; refine norm_ (a' := ?_) ?_ ?_; rotate_left
         ·show Act.put _ (some 35) _ = _
          simp only [Act.put, sa_, sb_, sc_, i64_w, i32_w]; rfl
         refine pw_ 6 36 (v := ?_) (a' := ?_) (mB 37 127) rfl rfl HT_ (by kernel_rfl) (fun _ _ _ h => h) ?_ ?_ ?_; rotate_left
         ·intro w'; go_simp; with_reducible rfl
         rotate_left
         ·simp only [Act.put, sa_, sb_, sc_, i64_w, i32_w]; rfl
         refine pw_ 7 37 (v := ?_) (a' := ?_) (mB 37 255) rfl rfl HT_ (by kernel_rfl) (fun _ _ _ h => h) ?_ ?_ ?_; rotate_left
         ·intro w'; go_simp; with_reducible rfl
         rotate_left
         ·simp only [Act.put, sa_, sb_, sc_, i64_w, i32_w]; rfl
         refine pw_ 8 38 (v := ?_) (a' := ?_) (mB 37 511) rfl rfl HT_ (by kernel_rfl) (fun _ _ _ h => h) ?_ ?_ ?_; rotate_left
         ·intro w'; go_simp; with_reducible rfl
         rotate_left
         ·simp only [Act.put, sa_, sb_, sc_, i64_w, i32_w]; rfl
         refine pw_ 9 39 (v := ?_) (a' := ?_) (mB 37 1023) rfl rfl HT_ (by kernel_rfl) (fun _ _ _ h => h) ?_ ?_ ?_; rotate_left
         ·intro w'; go_simp; with_reducible rfl
         rotate_left
         ·simp only [Act.put, sa_, sb_, sc_, i64_w, i32_w]; rfl
         refine pw_ 11 41 (v := ?_) (a' := ?_) (mB 37 3071) rfl rfl HT_ (by kernel_rfl) (fun _ _ _ h => h) ?_ ?_ ?_; rotate_left
         ·intro w'; go_simp; with_reducible rfl
         rotate_left
         ·simp only [Act.put, sa_, sb_, sc_, i64_w, i32_w]; rfl
         refine take_ (i := 10) (N := some 40) (v := ?_) (a' := ?_) (mB 37 4095) rfl rfl (take_ofW HT_.out HW_.out (by kernel_rfl)) (fun _ _ _ h => h) (Or.inl ⟨by rfl, ?_⟩) hHeld ?_ ?_; rotate_left
         ·rintro w' ⟨s0, s1, s2, s3, s4, s5, s6, s7⟩; go_simp; with_reducible rfl
         rotate_left
         ·simp only [Act.put, sa_, sb_, sc_, i64_w, i32_w]; rfl
         refine take_ (i := 12) (N := some 42) (v := ?_) (a' := ?_) (mB 37 8191) rfl rfl (take_ofW HT_.out HW_.out (by kernel_rfl)) (fun _ _ _ h => h) (Or.inl ⟨by rfl, ?_⟩) hHeld ?_ ?_; rotate_left
         ·rintro w' ⟨s0, s1, s2, s3, s4, s5, s6, s7⟩; go_simp; with_reducible rfl
         rotate_left
         ·simp only [Act.put, sa_, sb_, sc_, i64_w, i32_w]; rfl
         refine pw_ 13 43 (v := ?_) (a' := ?_) (mB 37 16383) rfl rfl HT_ (by kernel_rfl) (fun _ _ _ h => h) ?_ ?_ ?_; rotate_left
         ·intro w'; go_simp; with_reducible rfl
         rotate_left
         ·simp only [Act.put, sa_, sb_, sc_, i64_w, i32_w]; rfl
         refine pw_ 14 44 (v := ?_) (a' := ?_) (mB 37 32767) rfl rfl HT_ (by kernel_rfl) (fun _ _ _ h => h) ?_ ?_ ?_; rotate_left
         ·intro w'; go_simp; with_reducible rfl
         rotate_left
         ·simp only [Act.put, sa_, sb_, sc_, i64_w, i32_w]; rfl
         refine pw_ 15 45 (v := ?_) (a' := ?_) (mB 37 65535) rfl rfl HT_ (by kernel_rfl) (fun _ _ _ h => h) ?_ ?_ ?_; rotate_left
         ·intro w'; go_simp; with_reducible rfl
         rotate_left
         ·simp only [Act.put, sa_, sb_, sc_, i64_w, i32_w]; rfl
         refine pw_ 16 46 (v := ?_) (a' := ?_) (mB 37 131071) rfl rfl HT_ (by kernel_rfl) (fun _ _ _ h => h) ?_ ?_ ?_; rotate_left
         ·intro w'; go_simp; with_reducible rfl
         rotate_left
         ·simp only [Act.put, sa_, sb_, sc_, i64_w, i32_w]; rfl
         refine pw_ 19 49 (v := ?_) (a' := ?_) (mB 37 655359) rfl rfl HT_ (by kernel_rfl) (fun _ _ _ h => h) ?_ ?_ ?_; rotate_left
         ·intro w'; go_simp; with_reducible rfl
         rotate_left
         ·simp only [Act.put, sa_, sb_, sc_, i64_w, i32_w]; rfl
         refine take_ (i := 17) (N := some 47) (v := ?_) (a' := ?_) (mB 37 786431) rfl rfl (take_ofW HT_.out HW_.out (by kernel_rfl)) (fun _ _ _ h => h) (Or.inl ⟨by rfl, ?_⟩) hHeld ?_ ?_; rotate_left
         ·rintro w' ⟨s0, s1, s2, s3, s4, s5, s6, s7⟩; go_simp; with_reducible rfl
         rotate_left
         ·simp only [Act.put, sa_, sb_, sc_, i64_w, i32_w]; rfl
         refine pw_ 18 48 (v := ?_) (a' := ?_) (mB 37 1048575) rfl rfl HT_ (by kernel_rfl) (fun _ _ _ h => h) ?_ ?_ ?_; rotate_left
         ·intro w'; go_simp; with_reducible rfl
         rotate_left
         ·simp only [Act.put, sa_, sb_, sc_, i64_w, i32_w]; rfl
         refine take_ (i := 20) (N := some 50) (v := ?_) (a' := ?_) (mB 37 2097151) rfl rfl (take_ofW HT_.out HW_.out (by kernel_rfl)) (fun _ _ _ h => h) (Or.inl ⟨by rfl, ?_⟩) hHeld ?_ ?_; rotate_left
         ·rintro w' ⟨s0, s1, s2, s3, s4, s5, s6, s7⟩; go_simp; with_reducible rfl
         rotate_left
         ·simp only [Act.put, sa_, sb_, sc_, i64_w, i32_w]; rfl
         refine pw_ 21 51 (v := ?_) (a' := ?_) (mB 37 4194303) rfl rfl HT_ (by kernel_rfl) (fun _ _ _ h => h) ?_ ?_ ?_; rotate_left
         ·intro w'; go_simp; with_reducible rfl
         rotate_left
         ·simp only [Act.put, sa_, sb_, sc_, i64_w, i32_w]; rfl
         refine pw_ 22 52 (v := ?_) (a' := ?_) (mB 37 8388607) rfl rfl HT_ (by kernel_rfl) (fun _ _ _ h => h) ?_ ?_ ?_; rotate_left
         ·intro w'; go_simp; with_reducible rfl
         rotate_left
         ·simp only [Act.put, sa_, sb_, sc_, i64_w, i32_w]; rfl
         refine pw_ 23 53 (v := ?_) (a' := ?_) (mB 37 16777215) rfl rfl HT_ (by kernel_rfl) (fun _ _ _ h => h) ?_ ?_ ?_; rotate_left
         ·intro w'; go_simp; with_reducible rfl
         rotate_left
         ·simp only [Act.put, sa_, sb_, sc_, i64_w, i32_w]; rfl
         refine pw_ 24 54 (v := ?_) (a' := ?_) (mB 37 33554431) rfl rfl HT_ (by kernel_rfl) (fun _ _ _ h => h) ?_ ?_ ?_; rotate_left
         ·intro w'; go_simp; with_reducible rfl
         rotate_left
         ·simp only [Act.put, sa_, sb_, sc_, i64_w, i32_w]; rfl
         refine un_ [(25, 55), (26, 56), (27, 57), (28, 58), (29, 59), (30, 60), (31, 61), (32, 62), (33, 63), (34, 64), (35, 65)] (fuel := 1) (a' := ?_) (mB 37 68719476735) rfl HT_ (by kernel_rfl) (by kernel_rfl) (fun _ _ _ _ h => h) ?_ ?_; rotate_left
         ·simp only [unwA, Act.put, sa_, sb_, sc_, i64_w, i32_w]; rfl
         refine pw_ 36 66 (v := ?_) (a' := ?_) (mB 37 137438953471) rfl rfl HT_ (by kernel_rfl) (fun _ _ _ h => h) ?_ ?_ ?_; rotate_left
         ·intro w'; go_simp; with_reducible rfl
         rotate_left
         ·simp only [Act.put, sa_, sb_, sc_, i64_w, i32_w]; rfl
         refine done_ (done_of HT_.out (by kernel_rfl)) ?_
         try go_wp2
         go_meet
         case rel => exact ⟨_, (true), (by first | rfl | (simp; done) | (simp [*]; done)), H', ⟨by have := HJ4.out; first | omega | exact Nat.le_refl _⟩, ⟨by (with_reducible repeat (first | apply Kd.V_alloc | apply Kd.V_drewN | apply Kd.V_drew)); exact HO_223001.out⟩, ⟨by (with_reducible repeat (first | apply Kd.V_alloc | apply Kd.V_drewN | apply Kd.V_drew)); exact HO_224001.out⟩, ⟨by (with_reducible repeat (first | apply Kd.S_alloc | apply Kd.S_drewN | apply Kd.S_drew)); exact HO230.out⟩, ⟨bk_ BK212⟩, ⟨bk_ BK213⟩, ⟨bk_ BK222⟩, ⟨bk_ BK223⟩, ⟨bk_ BK232⟩, ⟨bl_ HB⟩⟩
       ·rw [if_neg c61] at H; have c61b0 : (a0_0 == a1_0) = false := beq_eq_false_iff_ne.mpr c61; have c61b1 : (a0_0 != a1_0) = true := bne_iff_ne.mpr c61
        (first | rw [c61b0] | (simp only [i64_w, i32_w]; rw [c61b0]) | skip)
        have H' := Aside0.mk H; clear H; replace HO_223001 := Aside0.mk (Kd.V_drew HO_223001.out); replace HO_224001 := Aside0.mk (Kd.V_drew HO_224001.out); replace HO230 := Aside0.mk (Kd.S_drew HO230.out); replace BK212 := Aside0.mk (blk_drew BK212.out); replace BK213 := Aside0.mk (blk_drew BK213.out); replace BK222 := Aside0.mk (blk_drew BK222.out); replace BK223 := Aside0.mk (blk_drew BK223.out); replace BK232 := Aside0.mk (blk_drew BK232.out); replace HB := Aside0.mk (below_drew1 HB.out); refine start_ (n := 37) (S := fun w' => w'.cell? ⟨gb222, 0, none⟩ = some (.int .u64 t214) ∧ w'.cell? ⟨gb222, 1, none⟩ = some (.slice Ao15 t215.length co15) ∧ w'.cell? ⟨gb223, 0, none⟩ = some (.int .u64 t218) ∧ w'.cell? ⟨gb223, 1, none⟩ = some (.slice Ao18 t219.length co18) ∧ w'.cell? ⟨gb212, 0, none⟩ = some (.int .u64 a0_0) ∧ w'.cell? ⟨gb212, 1, none⟩ = some (.slice A0_1 l0_1.length c0_1) ∧ w'.cell? ⟨gb213, 0, none⟩ = some (.int .u64 a1_0) ∧ w'.cell? ⟨gb213, 1, none⟩ = some (.slice A1_1 l1_1.length c1_1)) (ds := []) (mB 37 0) (by kernel_rfl) rfl rfl ⟨(blk_cell BK222.out 0).trans rfl, (blk_cell BK222.out 1).trans rfl, (blk_cell BK223.out 0).trans rfl, (blk_cell BK223.out 1).trans rfl, (blk_cell BK212.out 0).trans rfl, (blk_cell BK212.out 1).trans rfl, (blk_cell BK213.out 0).trans rfl, (blk_cell BK213.out 1).trans rfl⟩ (fun hHeld => ?_); refine with_tabW rillmeterlaw13_BitmapMerges.tab5 rillmeterlaw13_BitmapMerges.bits5 (fun HT_ HW_ => ?_)
        generalize w65.drew = w74 at HO_223001 HO_224001 HO230 BK212 BK213 BK222 BK223 BK232 HB hHeld ⊢; refine take_ (i := 0) (N := some 30) (v := ?_) (a' := ?_) (mB 37 1) rfl rfl (take_ofW HT_.out HW_.out (by kernel_rfl)) (fun _ _ _ h => h) (Or.inl ⟨by rfl, ?_⟩) hHeld ?_ ?_; rotate_left
        ·rintro w' ⟨s0, s1, s2, s3, s4, s5, s6, s7⟩; go_simp; with_reducible rfl
        rotate_left
        ·simp only [Act.put, sa_, sb_, sc_, i64_w, i32_w]; rfl
        refine one_ (i := 1) (N := some 31) (mB 37 3) rfl rfl (one_of HT_.out (by kernel_rfl)) (by decide) (fun K hK => ?_); refine goes_ Tryd.func12 (by kernel_rfl) rfl #[.agg #[.int .u64 t214, .slice Ao15 t215.length co15]] (by rfl) rfl rfl (by (try simp only [List.map_toArray, List.map_cons, List.map_nil]); first | done | rfl | (simp only [List.length_drop, List.length_take]; rfl)) ?_; with_reducible refine (rillmeterref13_Right.calls kj4 t214 _ _ t215 true _ ?side1 ?side2 A57.out).mono ?_
        (case side1 => repeat (first | exact (Kd.V_reads' HO_223001.out).2.2 | (with_reducible refine Kd.C_alloc ?_ _) | (with_reducible refine Kd.C_drewN ?_ _) | (with_reducible refine Kd.C_drew ?_))); (case side2 => exact (Kd.V_reads' HO_223001.out).2.1); rintro e w75 ⟨rfl, hb⟩; refine ⟨_, rfl, ?_⟩; replace HO_223001 := Aside0.mk (Kd.V_below (vk_ HO_223001) hb); replace HO_224001 := Aside0.mk (Kd.V_below (vk_ HO_224001) hb); replace HO230 := Aside0.mk (Kd.S_below (sk_ HO230) hb); replace BK212 := Aside0.mk (blk_below (bk_ BK212) hb); replace BK213 := Aside0.mk (blk_below (bk_ BK213) hb); replace BK222 := Aside0.mk (blk_below (bk_ BK222) hb); replace BK223 := Aside0.mk (blk_below (bk_ BK223) hb); replace BK232 := Aside0.mk (blk_below (bk_ BK232) hb); replace HB := Aside0.mk (below_step (bl_ HB) hb); (try clear hb); refine hK.out _ _ ⟨(blk_cell BK222.out 0).trans rfl, (blk_cell BK222.out 1).trans rfl, (blk_cell BK223.out 0).trans rfl, (blk_cell BK223.out 1).trans rfl, (blk_cell BK212.out 0).trans rfl, (blk_cell BK212.out 1).trans rfl, (blk_cell BK213.out 0).trans rfl, (blk_cell BK213.out 1).trans rfl⟩ (fun hHeld => ?_); clear hK K; refine norm_ (a' := ?_) ?_ ?_; rotate_left
        ·show Act.put _ (some 31) _ = _
         simp only [Act.put, sa_, sb_, sc_, i64_w, i32_w]; rfl
        refine pw_ 2 32 (v := ?_) (a' := ?_) (mB 37 7) rfl rfl HT_ (by kernel_rfl) (fun _ _ _ h => h) ?_ ?_ ?_; rotate_left
        ·intro w'; go_simp; with_reducible rfl
        rotate_left
        ·simp only [Act.put, sa_, sb_, sc_, i64_w, i32_w]; rfl
        refine pw_ 3 33 (v := ?_) (a' := ?_) (mB 37 15) rfl rfl HT_ (by kernel_rfl) (fun _ _ _ h => h) ?_ ?_ ?_; rotate_left
        ·intro w'; go_simp; with_reducible rfl
        rotate_left
        ·simp only [Act.put, sa_, sb_, sc_, i64_w, i32_w]; rfl
        refine take_ (i := 4) (N := some 34) (v := ?_) (a' := ?_) (mB 37 31) rfl rfl (take_ofW HT_.out HW_.out (by kernel_rfl)) (fun _ _ _ h => h) (Or.inl ⟨by rfl, ?_⟩) hHeld ?_ ?_; rotate_left
        ·rintro w' ⟨s0, s1, s2, s3, s4, s5, s6, s7⟩; go_simp; with_reducible rfl
        rotate_left
        ·simp only [Act.put, sa_, sb_, sc_, i64_w, i32_w]; rfl
        refine one_ (i := 5) (N := some 35) (mB 37 63) rfl rfl (one_of HT_.out (by kernel_rfl)) (by decide) (fun K hK => ?_); refine goes_ Tryd.func12 (by kernel_rfl) rfl #[.agg #[.int .u64 t218, .slice Ao18 t219.length co18]] (by rfl) rfl rfl (by (try simp only [List.map_toArray, List.map_cons, List.map_nil]); first | done | rfl | (simp only [List.length_drop, List.length_take]; rfl)) ?_; with_reducible refine (rillmeterref13_Right.calls kj4 t218 _ _ t219 true _ ?side1 ?side2 A59.out).mono ?_
        (case side1 => repeat (first | exact (Kd.V_reads' HO_224001.out).2.2 | (with_reducible refine Kd.C_alloc ?_ _) | (with_reducible refine Kd.C_drewN ?_ _) | (with_reducible refine Kd.C_drew ?_))); (case side2 => exact (Kd.V_reads' HO_224001.out).2.1); rintro e w76 ⟨rfl, hb⟩; refine ⟨_, rfl, ?_⟩; replace HO_223001 := Aside0.mk (Kd.V_below (vk_ HO_223001) hb); replace HO_224001 := Aside0.mk (Kd.V_below (vk_ HO_224001) hb); replace HO230 := Aside0.mk (Kd.S_below (sk_ HO230) hb); replace BK212 := Aside0.mk (blk_below (bk_ BK212) hb); replace BK213 := Aside0.mk (blk_below (bk_ BK213) hb); replace BK222 := Aside0.mk (blk_below (bk_ BK222) hb); replace BK223 := Aside0.mk (blk_below (bk_ BK223) hb); replace BK232 := Aside0.mk (blk_below (bk_ BK232) hb); replace HB := Aside0.mk (below_step (bl_ HB) hb); (try clear hb); refine hK.out _ _ ⟨(blk_cell BK222.out 0).trans rfl, (blk_cell BK222.out 1).trans rfl, (blk_cell BK223.out 0).trans rfl, (blk_cell BK223.out 1).trans rfl, (blk_cell BK212.out 0).trans rfl, (blk_cell BK212.out 1).trans rfl, (blk_cell BK213.out 0).trans rfl, (blk_cell BK213.out 1).trans rfl⟩ (fun hHeld => ?_); clear hK K; refine norm_ (a' := ?_) ?_ ?_; rotate_left
        ·show Act.put _ (some 35) _ = _
         simp only [Act.put, sa_, sb_, sc_, i64_w, i32_w]; rfl
        refine pw_ 6 36 (v := ?_) (a' := ?_) (mB 37 127) rfl rfl HT_ (by kernel_rfl) (fun _ _ _ h => h) ?_ ?_ ?_; rotate_left
        ·intro w'; go_simp; with_reducible rfl
        rotate_left
        ·simp only [Act.put, sa_, sb_, sc_, i64_w, i32_w]; rfl
        refine pw_ 7 37 (v := ?_) (a' := ?_) (mB 37 255) rfl rfl HT_ (by kernel_rfl) (fun _ _ _ h => h) ?_ ?_ ?_; rotate_left
        ·intro w'; go_simp; with_reducible rfl
        rotate_left
        ·simp only [Act.put, sa_, sb_, sc_, i64_w, i32_w]; rfl
        refine pw_ 8 38 (v := ?_) (a' := ?_) (mB 37 511) rfl rfl HT_ (by kernel_rfl) (fun _ _ _ h => h) ?_ ?_ ?_; rotate_left
        ·intro w'; go_simp; with_reducible rfl
        rotate_left
        ·simp only [Act.put, sa_, sb_, sc_, i64_w, i32_w]; rfl
        refine pw_ 9 39 (v := ?_) (a' := ?_) (mB 37 1023) rfl rfl HT_ (by kernel_rfl) (fun _ _ _ h => h) ?_ ?_ ?_; rotate_left
        ·intro w'; go_simp; with_reducible rfl
        rotate_left
        ·simp only [Act.put, sa_, sb_, sc_, i64_w, i32_w]; rfl
        refine pw_ 11 41 (v := ?_) (a' := ?_) (mB 37 3071) rfl rfl HT_ (by kernel_rfl) (fun _ _ _ h => h) ?_ ?_ ?_; rotate_left
        ·intro w'; go_simp; with_reducible rfl
        rotate_left
        ·simp only [Act.put, sa_, sb_, sc_, i64_w, i32_w]; rfl
        refine take_ (i := 10) (N := some 40) (v := ?_) (a' := ?_) (mB 37 4095) rfl rfl (take_ofW HT_.out HW_.out (by kernel_rfl)) (fun _ _ _ h => h) (Or.inl ⟨by rfl, ?_⟩) hHeld ?_ ?_; rotate_left
        ·rintro w' ⟨s0, s1, s2, s3, s4, s5, s6, s7⟩; go_simp; with_reducible rfl
        rotate_left
        ·simp only [Act.put, sa_, sb_, sc_, i64_w, i32_w]; rfl
        refine take_ (i := 12) (N := some 42) (v := ?_) (a' := ?_) (mB 37 8191) rfl rfl (take_ofW HT_.out HW_.out (by kernel_rfl)) (fun _ _ _ h => h) (Or.inl ⟨by rfl, ?_⟩) hHeld ?_ ?_; rotate_left
        ·rintro w' ⟨s0, s1, s2, s3, s4, s5, s6, s7⟩; go_simp; with_reducible rfl
        rotate_left
        ·simp only [Act.put, sa_, sb_, sc_, i64_w, i32_w]; rfl
        refine pw_ 13 43 (v := ?_) (a' := ?_) (mB 37 16383) rfl rfl HT_ (by kernel_rfl) (fun _ _ _ h => h) ?_ ?_ ?_; rotate_left
        ·intro w'; go_simp; with_reducible rfl
        rotate_left
        ·simp only [Act.put, sa_, sb_, sc_, i64_w, i32_w]; rfl
        refine pw_ 14 44 (v := ?_) (a' := ?_) (mB 37 32767) rfl rfl HT_ (by kernel_rfl) (fun _ _ _ h => h) ?_ ?_ ?_; rotate_left
        ·intro w'; go_simp; with_reducible rfl
        rotate_left
        ·simp only [Act.put, sa_, sb_, sc_, i64_w, i32_w]; rfl
        refine pw_ 15 45 (v := ?_) (a' := ?_) (mB 37 65535) rfl rfl HT_ (by kernel_rfl) (fun _ _ _ h => h) ?_ ?_ ?_; rotate_left
        ·intro w'; go_simp; with_reducible rfl
        rotate_left
        ·simp only [Act.put, sa_, sb_, sc_, i64_w, i32_w]; rfl
        refine un_ [(16, 46), (17, 47), (18, 48), (19, 49), (20, 50), (21, 51), (22, 52)] (fuel := 14) (a' := ?_) (mB 37 8388607) rfl HT_ (by kernel_rfl) (by kernel_rfl) (fun _ _ _ _ h => h) ?_ ?_; rotate_left
        ·simp only [unwA, Act.put, sa_, sb_, sc_, i64_w, i32_w]; rfl
        refine pw_ 23 53 (v := ?_) (a' := ?_) (mB 37 16777215) rfl rfl HT_ (by kernel_rfl) (fun _ _ _ h => h) ?_ ?_ ?_; rotate_left
        ·intro w'; go_simp; with_reducible rfl
        rotate_left
        ·simp only [Act.put, sa_, sb_, sc_, i64_w, i32_w]; rfl
        refine pw_ 24 54 (v := ?_) (a' := ?_) (mB 37 33554431) rfl rfl HT_ (by kernel_rfl) (fun _ _ _ h => h) ?_ ?_ ?_; rotate_left
        ·intro w'; go_simp; with_reducible rfl
        rotate_left
        ·simp only [Act.put, sa_, sb_, sc_, i64_w, i32_w]; rfl
        refine un_ [(25, 55), (26, 56), (27, 57), (28, 58), (29, 59), (30, 60), (31, 61), (32, 62), (33, 63), (34, 64), (35, 65)] (fuel := 1) (a' := ?_) (mB 37 68719476735) rfl HT_ (by kernel_rfl) (by kernel_rfl) (fun _ _ _ _ h => h) ?_ ?_; rotate_left
        ·simp only [unwA, Act.put, sa_, sb_, sc_, i64_w, i32_w]; rfl
        refine pw_ 36 66 (v := ?_) (a' := ?_) (mB 37 137438953471) rfl rfl HT_ (by kernel_rfl) (fun _ _ _ h => h) ?_ ?_ ?_; rotate_left
        ·intro w'; go_simp; with_reducible rfl
        rotate_left
        ·simp only [Act.put, sa_, sb_, sc_, i64_w, i32_w]; rfl
        refine done_ (done_of HT_.out (by kernel_rfl)) ?_
        try go_wp2
        go_meet
        case rel => exact ⟨_, (true), (by first | rfl | (simp; done) | (simp [*]; done)), H', ⟨by have := HJ4.out; first | omega | exact Nat.le_refl _⟩, ⟨by (with_reducible repeat (first | apply Kd.V_alloc | apply Kd.V_drewN | apply Kd.V_drew)); exact HO_223001.out⟩, ⟨by (with_reducible repeat (first | apply Kd.V_alloc | apply Kd.V_drewN | apply Kd.V_drew)); exact HO_224001.out⟩, ⟨by (with_reducible repeat (first | apply Kd.S_alloc | apply Kd.S_drewN | apply Kd.S_drew)); exact HO230.out⟩, ⟨bk_ BK212⟩, ⟨bk_ BK213⟩, ⟨bk_ BK222⟩, ⟨bk_ BK223⟩, ⟨bk_ BK232⟩, ⟨bl_ HB⟩⟩
      ·replace c60 := Bool.eq_false_iff.mpr c60; subst c60
       have H1 : (rillmeterlaw13_BitmapMerges.j1 kj4 t231 true a0_0 l0_1 a1_0 l1_1 t227 t228) = some r := by rw [if_neg (show ¬ (false = true) by decide)] at H; exact H
       clear H; have H := H1; clear H1; have H' := Aside0.mk H; clear H; replace HO_223001 := Aside0.mk (Kd.V_drew HO_223001.out); replace HO_224001 := Aside0.mk (Kd.V_drew HO_224001.out); replace HO230 := Aside0.mk (Kd.S_drew HO230.out); replace BK212 := Aside0.mk (blk_drew BK212.out); replace BK213 := Aside0.mk (blk_drew BK213.out); replace BK222 := Aside0.mk (blk_drew BK222.out); replace BK223 := Aside0.mk (blk_drew BK223.out); replace BK232 := Aside0.mk (blk_drew BK232.out); replace HB := Aside0.mk (below_drew1 HB.out); refine start_ (n := 37) (S := fun w' => w'.cell? ⟨gb222, 0, none⟩ = some (.int .u64 t214) ∧ w'.cell? ⟨gb222, 1, none⟩ = some (.slice Ao15 t215.length co15) ∧ w'.cell? ⟨gb223, 0, none⟩ = some (.int .u64 t218) ∧ w'.cell? ⟨gb223, 1, none⟩ = some (.slice Ao18 t219.length co18)) (ds := []) (mB 37 0) (by kernel_rfl) rfl rfl ⟨(blk_cell BK222.out 0).trans rfl, (blk_cell BK222.out 1).trans rfl, (blk_cell BK223.out 0).trans rfl, (blk_cell BK223.out 1).trans rfl⟩ (fun hHeld => ?_); refine with_tabW rillmeterlaw13_BitmapMerges.tab5 rillmeterlaw13_BitmapMerges.bits5 (fun HT_ HW_ => ?_); generalize w65.drew = w78 at HO_223001 HO_224001 HO230 BK212 BK213 BK222 BK223 BK232 HB hHeld ⊢; refine take_ (i := 0) (N := some 30) (v := ?_) (a' := ?_) (mB 37 1) rfl rfl (take_ofW HT_.out HW_.out (by kernel_rfl)) (fun _ _ _ h => h) (Or.inl ⟨by rfl, ?_⟩) hHeld ?_ ?_; rotate_left
       ·rintro w' ⟨s0, s1, s2, s3⟩; go_simp; with_reducible rfl
       rotate_left
       ·simp only [Act.put, sa_, sb_, sc_, i64_w, i32_w]; rfl
       refine one_ (i := 1) (N := some 31) (mB 37 3) rfl rfl (one_of HT_.out (by kernel_rfl)) (by decide) (fun K hK => ?_); refine goes_ Tryd.func12 (by kernel_rfl) rfl #[.agg #[.int .u64 t214, .slice Ao15 t215.length co15]] (by rfl) rfl rfl (by (try simp only [List.map_toArray, List.map_cons, List.map_nil]); first | done | rfl | (simp only [List.length_drop, List.length_take]; rfl)) ?_; with_reducible refine (rillmeterref13_Right.calls kj4 t214 _ _ t215 true _ ?side1 ?side2 A57.out).mono ?_
       (case side1 => repeat (first | exact (Kd.V_reads' HO_223001.out).2.2 | (with_reducible refine Kd.C_alloc ?_ _) | (with_reducible refine Kd.C_drewN ?_ _) | (with_reducible refine Kd.C_drew ?_))); (case side2 => exact (Kd.V_reads' HO_223001.out).2.1); rintro e w79 ⟨rfl, hb⟩; refine ⟨_, rfl, ?_⟩; replace HO_223001 := Aside0.mk (Kd.V_below (vk_ HO_223001) hb); replace HO_224001 := Aside0.mk (Kd.V_below (vk_ HO_224001) hb); replace HO230 := Aside0.mk (Kd.S_below (sk_ HO230) hb); replace BK212 := Aside0.mk (blk_below (bk_ BK212) hb); replace BK213 := Aside0.mk (blk_below (bk_ BK213) hb); replace BK222 := Aside0.mk (blk_below (bk_ BK222) hb); replace BK223 := Aside0.mk (blk_below (bk_ BK223) hb); replace BK232 := Aside0.mk (blk_below (bk_ BK232) hb); replace HB := Aside0.mk (below_step (bl_ HB) hb); (try clear hb); refine hK.out _ _ ⟨(blk_cell BK222.out 0).trans rfl, (blk_cell BK222.out 1).trans rfl, (blk_cell BK223.out 0).trans rfl, (blk_cell BK223.out 1).trans rfl⟩ (fun hHeld => ?_); clear hK K; refine norm_ (a' := ?_) ?_ ?_; rotate_left
       ·show Act.put _ (some 31) _ = _
        simp only [Act.put, sa_, sb_, sc_, i64_w, i32_w]; rfl
       refine pw_ 2 32 (v := ?_) (a' := ?_) (mB 37 7) rfl rfl HT_ (by kernel_rfl) (fun _ _ _ h => h) ?_ ?_ ?_; rotate_left
       ·intro w'; go_simp; with_reducible rfl
       rotate_left
       ·simp only [Act.put, sa_, sb_, sc_, i64_w, i32_w]; rfl
       refine pw_ 3 33 (v := ?_) (a' := ?_) (mB 37 15) rfl rfl HT_ (by kernel_rfl) (fun _ _ _ h => h) ?_ ?_ ?_; rotate_left
       ·intro w'; go_simp; with_reducible rfl
       rotate_left
       ·simp only [Act.put, sa_, sb_, sc_, i64_w, i32_w]; rfl
       refine take_ (i := 4) (N := some 34) (v := ?_) (a' := ?_) (mB 37 31) rfl rfl (take_ofW HT_.out HW_.out (by kernel_rfl)) (fun _ _ _ h => h) (Or.inl ⟨by rfl, ?_⟩) hHeld ?_ ?_; rotate_left
       ·rintro w' ⟨s0, s1, s2, s3⟩; go_simp; with_reducible rfl
       rotate_left
       ·simp only [Act.put, sa_, sb_, sc_, i64_w, i32_w]; rfl
       refine one_ (i := 5) (N := some 35) (mB 37 63) rfl rfl (one_of HT_.out (by kernel_rfl)) (by decide) (fun K hK => ?_); refine goes_ Tryd.func12 (by kernel_rfl) rfl #[.agg #[.int .u64 t218, .slice Ao18 t219.length co18]] (by rfl) rfl rfl (by (try simp only [List.map_toArray, List.map_cons, List.map_nil]); first | done | rfl | (simp only [List.length_drop, List.length_take]; rfl)) ?_; with_reducible refine (rillmeterref13_Right.calls kj4 t218 _ _ t219 false _ ?side1 ?side2 A59.out).mono ?_
       (case side1 => repeat (first | exact (Kd.V_reads' HO_224001.out).2.2 | (with_reducible refine Kd.C_alloc ?_ _) | (with_reducible refine Kd.C_drewN ?_ _) | (with_reducible refine Kd.C_drew ?_))); (case side2 => exact (Kd.V_reads' HO_224001.out).2.1); rintro e w80 ⟨rfl, hb⟩; refine ⟨_, rfl, ?_⟩; replace HO_223001 := Aside0.mk (Kd.V_below (vk_ HO_223001) hb); replace HO_224001 := Aside0.mk (Kd.V_below (vk_ HO_224001) hb); replace HO230 := Aside0.mk (Kd.S_below (sk_ HO230) hb); replace BK212 := Aside0.mk (blk_below (bk_ BK212) hb); replace BK213 := Aside0.mk (blk_below (bk_ BK213) hb); replace BK222 := Aside0.mk (blk_below (bk_ BK222) hb); replace BK223 := Aside0.mk (blk_below (bk_ BK223) hb); replace BK232 := Aside0.mk (blk_below (bk_ BK232) hb); replace HB := Aside0.mk (below_step (bl_ HB) hb); (try clear hb); refine hK.out _ _ ⟨(blk_cell BK222.out 0).trans rfl, (blk_cell BK222.out 1).trans rfl, (blk_cell BK223.out 0).trans rfl, (blk_cell BK223.out 1).trans rfl⟩ (fun hHeld => ?_); clear hK K; refine norm_ (a' := ?_) ?_ ?_; rotate_left
       ·show Act.put _ (some 35) _ = _
        simp only [Act.put, sa_, sb_, sc_, i64_w, i32_w]; rfl
       refine pw_ 6 36 (v := ?_) (a' := ?_) (mB 37 127) rfl rfl HT_ (by kernel_rfl) (fun _ _ _ h => h) ?_ ?_ ?_; rotate_left
       ·intro w'; go_simp; with_reducible rfl
       rotate_left
       ·simp only [Act.put, sa_, sb_, sc_, i64_w, i32_w]; rfl
       refine pw_ 7 37 (v := ?_) (a' := ?_) (mB 37 255) rfl rfl HT_ (by kernel_rfl) (fun _ _ _ h => h) ?_ ?_ ?_; rotate_left
       ·intro w'; go_simp; with_reducible rfl
       rotate_left
       ·simp only [Act.put, sa_, sb_, sc_, i64_w, i32_w]; rfl
       refine pw_ 8 38 (v := ?_) (a' := ?_) (mB 37 511) rfl rfl HT_ (by kernel_rfl) (fun _ _ _ h => h) ?_ ?_ ?_; rotate_left
       ·intro w'; go_simp; with_reducible rfl
       rotate_left
       ·simp only [Act.put, sa_, sb_, sc_, i64_w, i32_w]; rfl
       refine un_ [(9, 39), (10, 40), (11, 41), (12, 42), (13, 43)] (fuel := 23) (a' := ?_) (mB 37 16383) rfl HT_ (by kernel_rfl) (by kernel_rfl) (fun _ _ _ _ h => h) ?_ ?_; rotate_left
       ·simp only [unwA, Act.put, sa_, sb_, sc_, i64_w, i32_w]; rfl
       refine pw_ 14 44 (v := ?_) (a' := ?_) (mB 37 32767) rfl rfl HT_ (by kernel_rfl) (fun _ _ _ h => h) ?_ ?_ ?_; rotate_left
       ·intro w'; go_simp; with_reducible rfl
       rotate_left
       ·simp only [Act.put, sa_, sb_, sc_, i64_w, i32_w]; rfl
       refine pw_ 15 45 (v := ?_) (a' := ?_) (mB 37 65535) rfl rfl HT_ (by kernel_rfl) (fun _ _ _ h => h) ?_ ?_ ?_; rotate_left
       ·intro w'; go_simp; with_reducible rfl
       rotate_left
       ·simp only [Act.put, sa_, sb_, sc_, i64_w, i32_w]; rfl
       refine un_ [(16, 46), (17, 47), (18, 48), (19, 49), (20, 50), (21, 51), (22, 52)] (fuel := 14) (a' := ?_) (mB 37 8388607) rfl HT_ (by kernel_rfl) (by kernel_rfl) (fun _ _ _ _ h => h) ?_ ?_; rotate_left
       ·simp only [unwA, Act.put, sa_, sb_, sc_, i64_w, i32_w]; rfl
       refine pw_ 23 53 (v := ?_) (a' := ?_) (mB 37 16777215) rfl rfl HT_ (by kernel_rfl) (fun _ _ _ h => h) ?_ ?_ ?_; rotate_left
       ·intro w'; go_simp; with_reducible rfl
       rotate_left
       ·simp only [Act.put, sa_, sb_, sc_, i64_w, i32_w]; rfl
       refine pw_ 24 54 (v := ?_) (a' := ?_) (mB 37 33554431) rfl rfl HT_ (by kernel_rfl) (fun _ _ _ h => h) ?_ ?_ ?_; rotate_left
       ·intro w'; go_simp; with_reducible rfl
       rotate_left
       ·simp only [Act.put, sa_, sb_, sc_, i64_w, i32_w]; rfl
       refine un_ [(25, 55), (26, 56), (27, 57), (28, 58), (29, 59), (30, 60), (31, 61), (32, 62), (33, 63), (34, 64), (35, 65)] (fuel := 1) (a' := ?_) (mB 37 68719476735) rfl HT_ (by kernel_rfl) (by kernel_rfl) (fun _ _ _ _ h => h) ?_ ?_; rotate_left
       ·simp only [unwA, Act.put, sa_, sb_, sc_, i64_w, i32_w]; rfl
       refine pw_ 36 66 (v := ?_) (a' := ?_) (mB 37 137438953471) rfl rfl HT_ (by kernel_rfl) (fun _ _ _ h => h) ?_ ?_ ?_; rotate_left
       ·intro w'; go_simp; with_reducible rfl
       rotate_left
       ·simp only [Act.put, sa_, sb_, sc_, i64_w, i32_w]; rfl
       refine done_ (done_of HT_.out (by kernel_rfl)) ?_
       try go_wp2
       go_meet
       case rel => exact ⟨_, (true), (by first | rfl | (simp; done) | (simp [*]; done)), H', ⟨by have := HJ4.out; first | omega | exact Nat.le_refl _⟩, ⟨by (with_reducible repeat (first | apply Kd.V_alloc | apply Kd.V_drewN | apply Kd.V_drew)); exact HO_223001.out⟩, ⟨by (with_reducible repeat (first | apply Kd.V_alloc | apply Kd.V_drewN | apply Kd.V_drew)); exact HO_224001.out⟩, ⟨by (with_reducible repeat (first | apply Kd.S_alloc | apply Kd.S_drewN | apply Kd.S_drew)); exact HO230.out⟩, ⟨bk_ BK212⟩, ⟨bk_ BK213⟩, ⟨bk_ BK222⟩, ⟨bk_ BK223⟩, ⟨bk_ BK232⟩, ⟨bl_ HB⟩⟩
     ·replace c58 := Bool.eq_false_iff.mpr c58; subst c58
      have H1 : (rillmeterlaw13_BitmapMerges.j1 kj4 t231 true a0_0 l0_1 a1_0 l1_1 t227 t228) = some r := by rw [if_neg (show ¬ (false = true) by decide)] at H; exact H
      clear H; have H := H1; clear H1; have H' := Aside0.mk H; clear H; replace HO_223001 := Aside0.mk (Kd.V_drew HO_223001.out); replace HO_224001 := Aside0.mk (Kd.V_drew HO_224001.out); replace HO230 := Aside0.mk (Kd.S_drew HO230.out); replace BK212 := Aside0.mk (blk_drew BK212.out); replace BK213 := Aside0.mk (blk_drew BK213.out); replace BK222 := Aside0.mk (blk_drew BK222.out); replace BK223 := Aside0.mk (blk_drew BK223.out); replace BK232 := Aside0.mk (blk_drew BK232.out); replace HB := Aside0.mk (below_drew1 HB.out); refine start_ (n := 37) (S := fun w' => w'.cell? ⟨gb222, 0, none⟩ = some (.int .u64 t214) ∧ w'.cell? ⟨gb222, 1, none⟩ = some (.slice Ao15 t215.length co15)) (ds := []) (mB 37 0) (by kernel_rfl) rfl rfl ⟨(blk_cell BK222.out 0).trans rfl, (blk_cell BK222.out 1).trans rfl⟩ (fun hHeld => ?_); refine with_tabW rillmeterlaw13_BitmapMerges.tab5 rillmeterlaw13_BitmapMerges.bits5 (fun HT_ HW_ => ?_); generalize w65.drew = w82 at HO_223001 HO_224001 HO230 BK212 BK213 BK222 BK223 BK232 HB hHeld ⊢; refine take_ (i := 0) (N := some 30) (v := ?_) (a' := ?_) (mB 37 1) rfl rfl (take_ofW HT_.out HW_.out (by kernel_rfl)) (fun _ _ _ h => h) (Or.inl ⟨by rfl, ?_⟩) hHeld ?_ ?_; rotate_left
      ·rintro w' ⟨s0, s1⟩; go_simp; with_reducible rfl
      rotate_left
      ·simp only [Act.put, sa_, sb_, sc_, i64_w, i32_w]; rfl
      refine one_ (i := 1) (N := some 31) (mB 37 3) rfl rfl (one_of HT_.out (by kernel_rfl)) (by decide) (fun K hK => ?_); refine goes_ Tryd.func12 (by kernel_rfl) rfl #[.agg #[.int .u64 t214, .slice Ao15 t215.length co15]] (by rfl) rfl rfl (by (try simp only [List.map_toArray, List.map_cons, List.map_nil]); first | done | rfl | (simp only [List.length_drop, List.length_take]; rfl)) ?_; with_reducible refine (rillmeterref13_Right.calls kj4 t214 _ _ t215 false _ ?side1 ?side2 A57.out).mono ?_
      (case side1 => repeat (first | exact (Kd.V_reads' HO_223001.out).2.2 | (with_reducible refine Kd.C_alloc ?_ _) | (with_reducible refine Kd.C_drewN ?_ _) | (with_reducible refine Kd.C_drew ?_))); (case side2 => exact (Kd.V_reads' HO_223001.out).2.1); rintro e w83 ⟨rfl, hb⟩; refine ⟨_, rfl, ?_⟩; replace HO_223001 := Aside0.mk (Kd.V_below (vk_ HO_223001) hb); replace HO_224001 := Aside0.mk (Kd.V_below (vk_ HO_224001) hb); replace HO230 := Aside0.mk (Kd.S_below (sk_ HO230) hb); replace BK212 := Aside0.mk (blk_below (bk_ BK212) hb); replace BK213 := Aside0.mk (blk_below (bk_ BK213) hb); replace BK222 := Aside0.mk (blk_below (bk_ BK222) hb); replace BK223 := Aside0.mk (blk_below (bk_ BK223) hb); replace BK232 := Aside0.mk (blk_below (bk_ BK232) hb); replace HB := Aside0.mk (below_step (bl_ HB) hb); (try clear hb); refine hK.out _ _ ⟨(blk_cell BK222.out 0).trans rfl, (blk_cell BK222.out 1).trans rfl⟩ (fun hHeld => ?_); clear hK K; refine norm_ (a' := ?_) ?_ ?_; rotate_left
      ·show Act.put _ (some 31) _ = _
       simp only [Act.put, sa_, sb_, sc_, i64_w, i32_w]; rfl
      refine pw_ 2 32 (v := ?_) (a' := ?_) (mB 37 7) rfl rfl HT_ (by kernel_rfl) (fun _ _ _ h => h) ?_ ?_ ?_; rotate_left
      ·intro w'; go_simp; with_reducible rfl
      rotate_left
      ·simp only [Act.put, sa_, sb_, sc_, i64_w, i32_w]; rfl
      refine pw_ 3 33 (v := ?_) (a' := ?_) (mB 37 15) rfl rfl HT_ (by kernel_rfl) (fun _ _ _ h => h) ?_ ?_ ?_; rotate_left
      ·intro w'; go_simp; with_reducible rfl
      rotate_left
      ·simp only [Act.put, sa_, sb_, sc_, i64_w, i32_w]; rfl
      refine un_ [(4, 34), (5, 35), (6, 36)] (fuel := 30) (a' := ?_) (mB 37 127) rfl HT_ (by kernel_rfl) (by kernel_rfl) (fun _ _ _ _ h => h) ?_ ?_; rotate_left
      ·simp only [unwA, Act.put, sa_, sb_, sc_, i64_w, i32_w]; rfl
      refine pw_ 7 37 (v := ?_) (a' := ?_) (mB 37 255) rfl rfl HT_ (by kernel_rfl) (fun _ _ _ h => h) ?_ ?_ ?_; rotate_left
      ·intro w'; go_simp; with_reducible rfl
      rotate_left
      ·simp only [Act.put, sa_, sb_, sc_, i64_w, i32_w]; rfl
      refine pw_ 8 38 (v := ?_) (a' := ?_) (mB 37 511) rfl rfl HT_ (by kernel_rfl) (fun _ _ _ h => h) ?_ ?_ ?_; rotate_left
      ·intro w'; go_simp; with_reducible rfl
      rotate_left
      ·simp only [Act.put, sa_, sb_, sc_, i64_w, i32_w]; rfl
      refine un_ [(9, 39), (10, 40), (11, 41), (12, 42), (13, 43)] (fuel := 23) (a' := ?_) (mB 37 16383) rfl HT_ (by kernel_rfl) (by kernel_rfl) (fun _ _ _ _ h => h) ?_ ?_; rotate_left
      ·simp only [unwA, Act.put, sa_, sb_, sc_, i64_w, i32_w]; rfl
      refine pw_ 14 44 (v := ?_) (a' := ?_) (mB 37 32767) rfl rfl HT_ (by kernel_rfl) (fun _ _ _ h => h) ?_ ?_ ?_; rotate_left
      ·intro w'; go_simp; with_reducible rfl
      rotate_left
      ·simp only [Act.put, sa_, sb_, sc_, i64_w, i32_w]; rfl
      refine pw_ 15 45 (v := ?_) (a' := ?_) (mB 37 65535) rfl rfl HT_ (by kernel_rfl) (fun _ _ _ h => h) ?_ ?_ ?_; rotate_left
      ·intro w'; go_simp; with_reducible rfl
      rotate_left
      ·simp only [Act.put, sa_, sb_, sc_, i64_w, i32_w]; rfl
      refine un_ [(16, 46), (17, 47), (18, 48), (19, 49), (20, 50), (21, 51), (22, 52)] (fuel := 14) (a' := ?_) (mB 37 8388607) rfl HT_ (by kernel_rfl) (by kernel_rfl) (fun _ _ _ _ h => h) ?_ ?_; rotate_left
      ·simp only [unwA, Act.put, sa_, sb_, sc_, i64_w, i32_w]; rfl
      refine pw_ 23 53 (v := ?_) (a' := ?_) (mB 37 16777215) rfl rfl HT_ (by kernel_rfl) (fun _ _ _ h => h) ?_ ?_ ?_; rotate_left
      ·intro w'; go_simp; with_reducible rfl
      rotate_left
      ·simp only [Act.put, sa_, sb_, sc_, i64_w, i32_w]; rfl
      refine pw_ 24 54 (v := ?_) (a' := ?_) (mB 37 33554431) rfl rfl HT_ (by kernel_rfl) (fun _ _ _ h => h) ?_ ?_ ?_; rotate_left
      ·intro w'; go_simp; with_reducible rfl
      rotate_left
      ·simp only [Act.put, sa_, sb_, sc_, i64_w, i32_w]; rfl
      refine un_ [(25, 55), (26, 56), (27, 57), (28, 58), (29, 59), (30, 60), (31, 61), (32, 62), (33, 63), (34, 64), (35, 65)] (fuel := 1) (a' := ?_) (mB 37 68719476735) rfl HT_ (by kernel_rfl) (by kernel_rfl) (fun _ _ _ _ h => h) ?_ ?_; rotate_left
      ·simp only [unwA, Act.put, sa_, sb_, sc_, i64_w, i32_w]; rfl
      refine pw_ 36 66 (v := ?_) (a' := ?_) (mB 37 137438953471) rfl rfl HT_ (by kernel_rfl) (fun _ _ _ h => h) ?_ ?_ ?_; rotate_left
      ·intro w'; go_simp; with_reducible rfl
      rotate_left
      ·simp only [Act.put, sa_, sb_, sc_, i64_w, i32_w]; rfl
      refine done_ (done_of HT_.out (by kernel_rfl)) ?_
      try go_wp2
      go_meet
      case rel => exact ⟨_, (true), (by first | rfl | (simp; done) | (simp [*]; done)), H', ⟨by have := HJ4.out; first | omega | exact Nat.le_refl _⟩, ⟨by (with_reducible repeat (first | apply Kd.V_alloc | apply Kd.V_drewN | apply Kd.V_drew)); exact HO_223001.out⟩, ⟨by (with_reducible repeat (first | apply Kd.V_alloc | apply Kd.V_drewN | apply Kd.V_drew)); exact HO_224001.out⟩, ⟨by (with_reducible repeat (first | apply Kd.S_alloc | apply Kd.S_drewN | apply Kd.S_drew)); exact HO230.out⟩, ⟨bk_ BK212⟩, ⟨bk_ BK213⟩, ⟨bk_ BK222⟩, ⟨bk_ BK223⟩, ⟨bk_ BK232⟩, ⟨bl_ HB⟩⟩
    case rest =>
     clear HC41; (try clear c1); (try clear p2); (try clear c5); (try clear c12); (try clear c58); obtain ⟨kq, x66_40, rfl, HA, HJ40, HO_223001, HO_224001, HO_233001, BK212, BK213, BK222, BK223, BK232, HB⟩ := hcut
     cases kq with
     | zero => exact absurd HA.out (by simp [rillmeterlaw13_BitmapMerges.j1])
     | succ kj40 =>
      have H := HA.out; clear HA; simp only [rillmeterlaw13_BitmapMerges.j1] at H
      by_cases c84 : x66_40 = true
      ·subst c84
       have H1 : (if t231 = 1 then (if (t228.length : Int) = 0 then ((rillmeterlaw13_awake.f kj40).bind fun t237 => (some t237)) else (some false)) else (some false)) = some r := by rw [if_pos rfl] at H; exact H
       clear H; have H := H1; clear H1
       by_cases c85 : t231 = 1
       ·rw [if_pos c85] at H; have c85b0 : (t231 == 1) = true := beq_iff_eq.mpr c85; have c85b1 : (t231 != 1) = false := bne_eq_false_iff_eq.mpr c85; clear c85
        by_cases c86 : (t228.length : Int) = 0
        ·rw [if_pos c86] at H; have c86b0 : ((t228.length : Int) == 0) = true := beq_iff_eq.mpr c86; have c86b1 : ((t228.length : Int) != 0) = false := bne_eq_false_iff_eq.mpr c86; clear c86; replace H := Option.bind_eq_some_iff.mp H; obtain ⟨t237, A870, H⟩ := H; replace H : (some t237) = some r := H; have A87 := Aside0.mk A870; clear A870; obtain rfl := Option.some.inj H; have hnb88 := NB232_212.out; have hnc88 := NB212_232.out; have hnb89 := NB232_213.out; have hnc89 := NB213_232.out; have hnb90 := NB232_222.out; have hnc90 := NB222_232.out; have hnb91 := NB232_223.out; have hnc91 := NB223_232.out; have hcz92_0 : wc.cell? ⟨gb232, 0, none⟩ = some (.int .u64 t227) := (blk_cell BK232.out 0).trans rfl; have hcz92_1 : wc.cell? ⟨gb232, 1, none⟩ = some (.slice Ao56 t228.length co56) := (blk_cell BK232.out 1).trans rfl; have hfz92_0 := blk_frozen BK232.out 0; have hfz92_1 := blk_frozen BK232.out 1
         go_wp2_with (first | (go_at_call 11; (with_reducible refine (rillmeterlaw13_awake.calls kj40  t237 _ A87.out ⟨tb_ HT0 HB⟩).mono ?_); rintro e w93 ⟨rfl, hb⟩; have n0_ := Aside0.mk (Kd.V_below (vk_ HO_223001) hb); have n1_ := Aside0.mk (Kd.V_below (vk_ HO_224001) hb); have n2_ := Aside0.mk (Kd.S_below (sk_ HO_233001) hb); have n3_ := Aside0.mk (blk_below (bk_ BK212) hb); have n4_ := Aside0.mk (blk_below (bk_ BK213) hb); have n5_ := Aside0.mk (blk_below (bk_ BK222) hb); have n6_ := Aside0.mk (blk_below (bk_ BK223) hb); have n7_ := Aside0.mk (blk_below (bk_ BK232) hb); have n8_ := Aside0.mk (below_step (bl_ HB) hb); clear HO_223001; clear HO_224001; clear HO_233001; clear BK212; clear BK213; clear BK222; clear BK223; clear BK232; clear HB; have HO_223001 := n0_; have HO_224001 := n1_; have HO_233001 := n2_; have BK212 := n3_; have BK213 := n4_; have BK222 := n5_; have BK223 := n6_; have BK232 := n7_; have HB := n8_; clear n0_ n1_ n2_ n3_ n4_ n5_ n6_ n7_ n8_; (try clear hb); (try clear hb2); (try clear hk); (try clear hi)))
         go_ret; exact ⟨by first | rfl | (simp [errW_none, errW_some] <;> rfl) | (simp [*, errW_none, errW_some] <;> rfl), bl_ HB⟩
        ·rw [if_neg c86] at H; have c86b0 : ((t228.length : Int) == 0) = false := beq_eq_false_iff_ne.mpr c86; have c86b1 : ((t228.length : Int) != 0) = true := bne_iff_ne.mpr c86
         have c86b2 : ¬ (t228 = []) := fun h_ => c86 (by rw [h_]; rfl)
         exact absurd ((Option.some.inj H).trans hrt.out) (by decide)
       ·rw [if_neg c85] at H; have c85b0 : (t231 == 1) = false := beq_eq_false_iff_ne.mpr c85; have c85b1 : (t231 != 1) = true := bne_iff_ne.mpr c85; exact absurd ((Option.some.inj H).trans hrt.out) (by decide)
      ·replace c84 := Bool.eq_false_iff.mpr c84; subst c84
       have H1 : (if (t228.length : Int) = (l0_1.length : Int) then (rillmeterlaw13_BitmapMerges.j2 kj40 t231 (t227 != a0_0) a0_0 l0_1 a1_0 l1_1 t227 t228) else (rillmeterlaw13_BitmapMerges.j2 kj40 t231 true a0_0 l0_1 a1_0 l1_1 t227 t228)) = some r := by rw [if_neg (show ¬ (false = true) by decide)] at H; exact H
       clear H; have H := H1; clear H1; have HC94 := Aside0.mk H; clear H
       go_upto_region 7 with (fail)
       go_cut [91] (fun v91 wc => ∃ (kq : Nat) (x91_93 : Bool), v91 = .bool x91_93 ∧ Aside0 (rillmeterlaw13_BitmapMerges.j2 kq t231 x91_93 a0_0 l0_1 a1_0 l1_1 t227 t228 = some r) ∧ Aside0 (kq ≤ kj40) ∧ Aside0 (Kd.V (Kd.slice 4 Kd.bool) 33 wc w.heap.size (fun k_ => some k_ ≠ ((.slice Ao56 t228.length co56) : Value).ownBlock ∧ k_ ≠ gb212 ∧ k_ ≠ gb213 ∧ k_ ≠ gb222 ∧ k_ ≠ gb223 ∧ k_ ≠ gb232) (.slice Ao15 t215.length co15) t215) ∧ Aside0 (Kd.V (Kd.slice 4 Kd.bool) 33 wc w.heap.size (fun k_ => some k_ ≠ ((.slice Ao56 t228.length co56) : Value).ownBlock ∧ k_ ≠ gb212 ∧ k_ ≠ gb213 ∧ k_ ≠ gb222 ∧ k_ ≠ gb223 ∧ k_ ≠ gb232) (.slice Ao18 t219.length co18) t219) ∧ Aside0 (Kd.S (Kd.slice 4 Kd.bool) 33 wc w.heap.size (fun _ => True) (.slice Ao56 t228.length co56) t228) ∧ Aside0 (wc.heap[gb212]? = some (.cells #[.int .u64 a0_0, (.slice A0_1 l0_1.length c0_1)] 25 (0, 0))) ∧ Aside0 (wc.heap[gb213]? = some (.cells #[.int .u64 a1_0, (.slice A1_1 l1_1.length c1_1)] 25 (0, 0))) ∧ Aside0 (wc.heap[gb222]? = some (.cells #[.int .u64 t214, (.slice Ao15 t215.length co15)] 30 (0, 0))) ∧ Aside0 (wc.heap[gb223]? = some (.cells #[.int .u64 t218, (.slice Ao18 t219.length co18)] 30 (0, 0))) ∧ Aside0 (wc.heap[gb232]? = some (.cells #[.int .u64 t227, (.slice Ao56 t228.length co56)] 25 (0, 0))) ∧ Aside0 (Below w.heap.size w wc))
       case first =>
        have H := HC94.out; clear HC94
        by_cases c95 : (t228.length : Int) = (l0_1.length : Int)
        ·rw [if_pos c95] at H; have c95b0 : ((t228.length : Int) == (l0_1.length : Int)) = true := beq_iff_eq.mpr c95; have c95b1 : ((t228.length : Int) != (l0_1.length : Int)) = false := bne_eq_false_iff_eq.mpr c95
         have c95b2 : (t228.length == l0_1.length) = true := by first | simpa using c95 | (simp at c95 ⊢; omega)
         clear c95
         (first | rw [c95b0] | (simp only [i64_w, i32_w]; rw [c95b0]) | skip)
         have H' := Aside0.mk H; clear H; have hnb96 := NB232_212.out; have hnc96 := NB212_232.out; have hnb97 := NB232_213.out; have hnc97 := NB213_232.out; have hnb98 := NB232_222.out; have hnc98 := NB222_232.out; have hnb99 := NB232_223.out; have hnc99 := NB223_232.out; have hcz100_0 : wc.cell? ⟨gb232, 0, none⟩ = some (.int .u64 t227) := (blk_cell BK232.out 0).trans rfl; have hcz100_1 : wc.cell? ⟨gb232, 1, none⟩ = some (.slice Ao56 t228.length co56) := (blk_cell BK232.out 1).trans rfl; have hfz100_0 := blk_frozen BK232.out 0; have hfz100_1 := blk_frozen BK232.out 1; have hnb101 := NB212_213.out; have hnc101 := NB213_212.out; have hnb102 := NB212_222.out; have hnc102 := NB222_212.out; have hnb103 := NB212_223.out; have hnc103 := NB223_212.out; have hcz104_0 : wc.cell? ⟨gb212, 0, none⟩ = some (.int .u64 a0_0) := (blk_cell BK212.out 0).trans rfl; have hcz104_1 : wc.cell? ⟨gb212, 1, none⟩ = some (.slice A0_1 l0_1.length c0_1) := (blk_cell BK212.out 1).trans rfl; have hfz104_0 := blk_frozen BK212.out 0; have hfz104_1 := blk_frozen BK212.out 1
         go_wp2
         go_meet
         case rel => exact ⟨_, ((t227 != a0_0)), (by first | rfl | (simp; done) | (simp [*]; done)), H', ⟨by have := HJ4.out; have := HJ40.out; first | omega | exact Nat.le_refl _⟩, ⟨by (with_reducible repeat (first | apply Kd.V_alloc | apply Kd.V_drewN | apply Kd.V_drew)); exact HO_223001.out⟩, ⟨by (with_reducible repeat (first | apply Kd.V_alloc | apply Kd.V_drewN | apply Kd.V_drew)); exact HO_224001.out⟩, ⟨by (with_reducible repeat (first | apply Kd.S_alloc | apply Kd.S_drewN | apply Kd.S_drew)); exact HO_233001.out⟩, ⟨bk_ BK212⟩, ⟨bk_ BK213⟩, ⟨bk_ BK222⟩, ⟨bk_ BK223⟩, ⟨bk_ BK232⟩, ⟨bl_ HB⟩⟩
        ·rw [if_neg c95] at H; have c95b0 : ((t228.length : Int) == (l0_1.length : Int)) = false := beq_eq_false_iff_ne.mpr c95; have c95b1 : ((t228.length : Int) != (l0_1.length : Int)) = true := bne_iff_ne.mpr c95
         have c95b2 : (t228.length == l0_1.length) = false := by first | simpa using c95 | (simp at c95 ⊢; omega)
         (first | rw [c95b0] | (simp only [i64_w, i32_w]; rw [c95b0]) | skip)
         have H' := Aside0.mk H; clear H; have hnb105 := NB232_212.out; have hnc105 := NB212_232.out; have hnb106 := NB232_213.out; have hnc106 := NB213_232.out; have hnb107 := NB232_222.out; have hnc107 := NB222_232.out; have hnb108 := NB232_223.out; have hnc108 := NB223_232.out; have hcz109_0 : wc.cell? ⟨gb232, 0, none⟩ = some (.int .u64 t227) := (blk_cell BK232.out 0).trans rfl; have hcz109_1 : wc.cell? ⟨gb232, 1, none⟩ = some (.slice Ao56 t228.length co56) := (blk_cell BK232.out 1).trans rfl; have hfz109_0 := blk_frozen BK232.out 0; have hfz109_1 := blk_frozen BK232.out 1; have hnb110 := NB212_213.out; have hnc110 := NB213_212.out; have hnb111 := NB212_222.out; have hnc111 := NB222_212.out; have hnb112 := NB212_223.out; have hnc112 := NB223_212.out; have hcz113_0 : wc.cell? ⟨gb212, 0, none⟩ = some (.int .u64 a0_0) := (blk_cell BK212.out 0).trans rfl; have hcz113_1 : wc.cell? ⟨gb212, 1, none⟩ = some (.slice A0_1 l0_1.length c0_1) := (blk_cell BK212.out 1).trans rfl; have hfz113_0 := blk_frozen BK212.out 0; have hfz113_1 := blk_frozen BK212.out 1
         go_wp2
         go_meet
         case rel => exact ⟨_, (true), (by first | rfl | (simp; done) | (simp [*]; done)), H', ⟨by have := HJ4.out; have := HJ40.out; first | omega | exact Nat.le_refl _⟩, ⟨by (with_reducible repeat (first | apply Kd.V_alloc | apply Kd.V_drewN | apply Kd.V_drew)); exact HO_223001.out⟩, ⟨by (with_reducible repeat (first | apply Kd.V_alloc | apply Kd.V_drewN | apply Kd.V_drew)); exact HO_224001.out⟩, ⟨by (with_reducible repeat (first | apply Kd.S_alloc | apply Kd.S_drewN | apply Kd.S_drew)); exact HO_233001.out⟩, ⟨bk_ BK212⟩, ⟨bk_ BK213⟩, ⟨bk_ BK222⟩, ⟨bk_ BK223⟩, ⟨bk_ BK232⟩, ⟨bl_ HB⟩⟩
       case rest =>
        clear HC94; (try clear c1); (try clear p2); (try clear c5); (try clear c8); (try clear c9); (try clear c10); (try clear c11); (try clear c12); (try clear c58); (try clear c84); (try clear c85); (try clear c85b0); (try clear c85b1); (try clear c86); (try clear c86b0); (try clear c86b1); (try clear c86b2); (try clear c88); (try clear c89); (try clear c90); (try clear c91); (try clear c95); (try clear c95b0); (try clear c95b1); (try clear c95b2); (try clear c96); (try clear c97); (try clear c98); (try clear c99); (try clear c101); (try clear c102); (try clear c103); (try clear c105); (try clear c106); (try clear c107); (try clear c108); (try clear c110); (try clear c111); (try clear c112); (try clear hcz100_0); (try clear hcz100_1); (try clear hcz104_0); (try clear hcz104_1); (try clear hcz109_0); (try clear hcz109_1); (try clear hcz113_0); (try clear hcz113_1); (try clear hcz92_0); (try clear hcz92_1); (try clear hfz100_0); (try clear hfz100_1); (try clear hfz104_0); (try clear hfz104_1); (try clear hfz109_0); (try clear hfz109_1); (try clear hfz113_0); (try clear hfz113_1); (try clear hfz92_0); (try clear hfz92_1); (try clear p2); obtain ⟨kq, x91_93, rfl, HA, HJ93, HO_223001, HO_224001, HO_233001, BK212, BK213, BK222, BK223, BK232, HB⟩ := hcut
        cases kq with
        | zero => exact absurd HA.out (by simp [rillmeterlaw13_BitmapMerges.j2])
        | succ kj93 =>
         have H := HA.out; clear HA; simp only [rillmeterlaw13_BitmapMerges.j2] at H
         by_cases c114 : x91_93 = true
         ·subst c114
          have H1 : (some false) = some r := by rw [if_pos rfl] at H; exact H
          clear H; have H := H1; clear H1; exact absurd ((Option.some.inj H).trans hrt.out) (by decide)
         ·replace c114 := Bool.eq_false_iff.mpr c114; subst c114
          have H1 : (rillmeterlaw13_BitmapMerges.l0 kj93 t231 (t228.length : Int) 0 a0_0 l0_1 a1_0 l1_1 t227 t228) = some r := by rw [if_neg (show ¬ (false = true) by decide)] at H; exact H
          clear H; have H := H1; clear H1; have H' := Aside0.mk H; clear H; have hnb115 := NB232_212.out; have hnc115 := NB212_232.out; have hnb116 := NB232_213.out; have hnc116 := NB213_232.out; have hnb117 := NB232_222.out; have hnc117 := NB222_232.out; have hnb118 := NB232_223.out; have hnc118 := NB223_232.out; have hcz119_0 : wc.cell? ⟨gb232, 0, none⟩ = some (.int .u64 t227) := (blk_cell BK232.out 0).trans rfl; have hcz119_1 : wc.cell? ⟨gb232, 1, none⟩ = some (.slice Ao56 t228.length co56) := (blk_cell BK232.out 1).trans rfl; have hfz119_0 := blk_frozen BK232.out 0; have hfz119_1 := blk_frozen BK232.out 1
          go_wp2
          go_loopg [95] kj93 (fun kq v95 w' => ∃ (x95_4 : Int), v95 = .int .i64 x95_4 ∧ Aside0 (rillmeterlaw13_BitmapMerges.l0 kq t231 (t228.length : Int) x95_4 a0_0 l0_1 a1_0 l1_1 t227 t228 = some r) ∧ Aside0 (kq ≤ kj93) ∧ Aside0 (Kd.V (Kd.slice 4 Kd.bool) 33 w' w.heap.size (fun k_ => some k_ ≠ ((.slice Ao56 t228.length co56) : Value).ownBlock ∧ k_ ≠ gb212 ∧ k_ ≠ gb213 ∧ k_ ≠ gb222 ∧ k_ ≠ gb223 ∧ k_ ≠ gb232) (.slice Ao15 t215.length co15) t215) ∧ Aside0 (Kd.V (Kd.slice 4 Kd.bool) 33 w' w.heap.size (fun k_ => some k_ ≠ ((.slice Ao56 t228.length co56) : Value).ownBlock ∧ k_ ≠ gb212 ∧ k_ ≠ gb213 ∧ k_ ≠ gb222 ∧ k_ ≠ gb223 ∧ k_ ≠ gb232) (.slice Ao18 t219.length co18) t219) ∧ Aside0 (Kd.S (Kd.slice 4 Kd.bool) 33 w' w.heap.size (fun _ => True) (.slice Ao56 t228.length co56) t228) ∧ Aside0 (w'.heap[gb212]? = some (.cells #[.int .u64 a0_0, (.slice A0_1 l0_1.length c0_1)] 25 (0, 0))) ∧ Aside0 (w'.heap[gb213]? = some (.cells #[.int .u64 a1_0, (.slice A1_1 l1_1.length c1_1)] 25 (0, 0))) ∧ Aside0 (w'.heap[gb222]? = some (.cells #[.int .u64 t214, (.slice Ao15 t215.length co15)] 30 (0, 0))) ∧ Aside0 (w'.heap[gb223]? = some (.cells #[.int .u64 t218, (.slice Ao18 t219.length co18)] 30 (0, 0))) ∧ Aside0 (w'.heap[gb232]? = some (.cells #[.int .u64 t227, (.slice Ao56 t228.length co56)] 25 (0, 0))) ∧ Aside0 (Below w.heap.size w w'))
          case atStart => exact ⟨(0), (by first | rfl | (simp; done) | (simp [*]; done)), H', ⟨Nat.le_refl _⟩, ⟨by (with_reducible repeat (first | apply Kd.V_alloc | apply Kd.V_drewN | apply Kd.V_drew)); exact HO_223001.out⟩, ⟨by (with_reducible repeat (first | apply Kd.V_alloc | apply Kd.V_drewN | apply Kd.V_drew)); exact HO_224001.out⟩, ⟨by (with_reducible repeat (first | apply Kd.S_alloc | apply Kd.S_drewN | apply Kd.S_drew)); exact HO_233001.out⟩, ⟨bk_ BK212⟩, ⟨bk_ BK213⟩, ⟨bk_ BK222⟩, ⟨bk_ BK223⟩, ⟨bk_ BK232⟩, ⟨bl_ HB⟩⟩
          case round =>
           clear H'; (try clear c1); (try clear p2); (try clear c5); (try clear c8); (try clear c9); (try clear c10); (try clear c11); (try clear c12); (try clear c58); (try clear c84); (try clear c85); (try clear c85b0); (try clear c85b1); (try clear c86); (try clear c86b0); (try clear c86b1); (try clear c86b2); (try clear c88); (try clear c89); (try clear c90); (try clear c91); (try clear c95); (try clear c95b0); (try clear c95b1); (try clear c95b2); (try clear c96); (try clear c97); (try clear c98); (try clear c99); (try clear c101); (try clear c102); (try clear c103); (try clear c105); (try clear c106); (try clear c107); (try clear c108); (try clear c110); (try clear c111); (try clear c112); (try clear c114); (try clear c115); (try clear c116); (try clear c117); (try clear c118); (try clear hcz100_0); (try clear hcz100_1); (try clear hcz104_0); (try clear hcz104_1); (try clear hcz109_0); (try clear hcz109_1); (try clear hcz113_0); (try clear hcz113_1); (try clear hcz119_0); (try clear hcz119_1); (try clear hcz92_0); (try clear hcz92_1); (try clear hfz100_0); (try clear hfz100_1); (try clear hfz104_0); (try clear hfz104_1); (try clear hfz109_0); (try clear hfz109_1); (try clear hfz113_0); (try clear hfz113_1); (try clear hfz119_0); (try clear hfz119_1); (try clear hfz92_0); (try clear hfz92_1); (try clear p2); obtain ⟨x95_4, rfl, HA, HK4, HO_223001, HO_224001, HO_233001, BK212, BK213, BK222, BK223, BK232, HB⟩ := hrel
           cases gk with
           | zero => exact absurd HA.out (by simp [rillmeterlaw13_BitmapMerges.l0])
           | succ k4 =>
            have H := HA.out; clear HA; simp only [rillmeterlaw13_BitmapMerges.l0] at H
            by_cases c120 : x95_4 < (t228.length : Int)
            ·rw [if_pos c120] at H; have c120b0 : decide (x95_4 < (t228.length : Int)) = true := decide_eq_true c120; clear c120
             by_cases c121 : 0 ≤ x95_4
             ·rw [if_pos c121] at H; have c121b0 : decide (0 ≤ x95_4) = true := decide_eq_true c121; clear c121
              by_cases c122 : x95_4 < (t228.length : Int)
              ·rw [if_pos c122] at H; have c122b0 : decide (x95_4 < (t228.length : Int)) = true := decide_eq_true c122; clear c122
               by_cases c123 : x95_4 < (l0_1.length : Int)
               ·rw [if_pos c123] at H; have c123b0 : decide (x95_4 < (l0_1.length : Int)) = true := decide_eq_true c123; clear c123
                by_cases c124 : ((rd_L1 t228 x95_4).length : Int) = ((rd_L1 l0_1 x95_4).length : Int)
                ·rw [if_pos c124] at H; have c124b0 : (((rd_L1 t228 x95_4).length : Int) == ((rd_L1 l0_1 x95_4).length : Int)) = true := beq_iff_eq.mpr c124; have c124b1 : (((rd_L1 t228 x95_4).length : Int) != ((rd_L1 l0_1 x95_4).length : Int)) = false := bne_eq_false_iff_eq.mpr c124
                 have c124b2 : ((rd_L1 t228 x95_4).length == (rd_L1 l0_1 x95_4).length) = true := by first | simpa using c124 | (simp at c124 ⊢; omega)
                 clear c124; have H' := Aside0.mk H; clear H
                 try go_wp2
                 replace HO_223001 := Aside0.mk (Kd.V_drew HO_223001.out); replace HO_224001 := Aside0.mk (Kd.V_drew HO_224001.out); replace HO_233001 := Aside0.mk (Kd.S_drew HO_233001.out); replace BK212 := Aside0.mk (blk_drew BK212.out); replace BK213 := Aside0.mk (blk_drew BK213.out); replace BK222 := Aside0.mk (blk_drew BK222.out); replace BK223 := Aside0.mk (blk_drew BK223.out); replace BK232 := Aside0.mk (blk_drew BK232.out); replace HB := Aside0.mk (below_drew1 HB.out); have p239 : 0 ≤ (x95_4 : Int) := of_decide_eq_true (by first | (with_reducible assumption) | assumption); have q239 : x95_4 < (t228.length : Int) := of_decide_eq_true (by first | (with_reducible assumption) | assumption); obtain ⟨ad239, A239_0, c239_0, e239, hx239_0, hl239_0, hi239_0⟩ := at_L1 (Kd.S_reads' HO_233001.out).2.2 x95_4 p239 q239
                 cases e239; obtain ⟨ce239, hce239, hMe239, hcc239⟩ := Kd.S_get HO_233001.out [] x95_4 p239 (by first | exact q239 | exact of_decide_eq_true (by first | (with_reducible assumption) | assumption) | (have e_ := (Kd.S_reads' HO_233001.out).1; omega)); obtain ⟨ve239_0, rfl, ge239_0⟩ := hMe239; have hv239_0 := hcc239 0 _ rfl; rw [Nat.add_zero, show ((Kd.slice 4 Kd.bool)).sz = 1 from rfl, Nat.mul_one] at hv239_0; replace hv239_0 := Option.some.inj (hv239_0.symm.trans hx239_0); rw [hv239_0] at ge239_0; have HL239_0 := Aside0.mk (show Kd.R Kd.bool 4 _ _ _ _ (rd_L1 t228 x95_4) from ge239_0); clear hv239_0 ge239_0; clear hcc239 hce239; have HR239_0 := Aside0.mk hi239_0; have HC239_0 := Aside0.mk hl239_0; clear hi239_0 hl239_0; replace p239 := eq_true p239; replace q239 := eq_true q239; have p240 : 0 ≤ (x95_4 : Int) := of_decide_eq_true (by first | (with_reducible assumption) | assumption); have q240 : x95_4 < (l0_1.length : Int) := of_decide_eq_true (by first | (with_reducible assumption) | assumption); obtain ⟨ad240, A240_0, c240_0, e240, hx240_0, hl240_0, hi240_0⟩ := at_L1 HR0_1.out x95_4 p240 q240; have hw240_0 := hx240_0
                 cases e240; (try replace hx240_0 := (HB.out.cell (World.block_lt_of_cell? w _ hx240_0)).trans hx240_0); have HR240_0 := Aside0.mk hi240_0; have HC240_0 := Aside0.mk hl240_0; clear hi240_0 hl240_0; replace p240 := eq_true p240; replace q240 := eq_true q240; refine start_ (n := 13) (S := fun w' => w'.cell? ⟨gb232, 0, none⟩ = some (.int .u64 t227) ∧ w'.cell? ⟨gb232, 1, none⟩ = some (.slice (some ad239) t228.length co56) ∧ w'.cell? ⟨gb212, 0, none⟩ = some (.int .u64 a0_0) ∧ w'.cell? ⟨gb212, 1, none⟩ = some (.slice (some ad240) l0_1.length c0_1) ∧ w'.cell? (ad239.add (x95_4).toNat) = some (.slice A239_0 (rd_L1 t228 x95_4).length c239_0) ∧ w'.cell? (ad240.add (x95_4).toNat) = some (.slice A240_0 (rd_L1 l0_1 x95_4).length c240_0)) (ds := []) (mB 13 0) (by kernel_rfl) rfl rfl ⟨(blk_cell BK232.out 0).trans rfl, (blk_cell BK232.out 1).trans rfl, (blk_cell BK212.out 0).trans rfl, (blk_cell BK212.out 1).trans rfl, hx239_0, ((HB.out.cell (World.block_lt_of_cell? w _ hw240_0)).trans hw240_0)⟩ (fun hHeld => ?_); refine with_tabW rillmeterlaw13_BitmapMerges.tab12 rillmeterlaw13_BitmapMerges.bits12 (fun HT_ HW_ => ?_); generalize wr.drew = w125 at HO_223001 HO_224001 HO_233001 BK212 BK213 BK222 BK223 BK232 HB HL239_0 HR239_0 HR240_0 hx239_0 hx240_0 hHeld ⊢; refine pw_ 0 98 (v := ?_) (a' := ?_) (mB 13 1) rfl rfl HT_ (by kernel_rfl) (fun _ _ _ h => h) ?_ ?_ ?_; rotate_left
                 ·intro w'; go_simp; with_reducible rfl
                 rotate_left
                 ·simp only [Act.put, sa_, sb_, sc_, i64_w, i32_w]; rfl
                 refine pw_ 2 100 (v := ?_) (a' := ?_) (mB 13 5) rfl rfl HT_ (by kernel_rfl) (fun _ _ _ h => h) ?_ ?_ ?_; rotate_left
                 ·intro w'; go_simp; with_reducible rfl
                 rotate_left
                 ·simp only [Act.put, sa_, sb_, sc_, i64_w, i32_w]; rfl
                 refine pw_ 6 104 (v := ?_) (a' := ?_) (mB 13 69) rfl rfl HT_ (by kernel_rfl) (fun _ _ _ h => h) ?_ ?_ ?_; rotate_left
                 ·intro w'; go_simp; with_reducible rfl
                 rotate_left
                 ·simp only [Act.put, sa_, sb_, sc_, i64_w, i32_w]; rfl
                 refine pw_ 8 106 (v := ?_) (a' := ?_) (mB 13 325) rfl rfl HT_ (by kernel_rfl) (fun _ _ _ h => h) ?_ ?_ ?_; rotate_left
                 ·intro w'; go_simp; with_reducible rfl
                 rotate_left
                 ·simp only [Act.put, sa_, sb_, sc_, i64_w, i32_w]; rfl
                 refine take_ (i := 1) (N := some 99) (v := ?_) (a' := ?_) (mB 13 327) rfl rfl (take_ofW HT_.out HW_.out (by kernel_rfl)) (fun _ _ _ h => h) (Or.inl ⟨by rfl, ?_⟩) hHeld ?_ ?_; rotate_left
                 ·rintro w' ⟨s0, s1, s2, s3, s4, s5⟩; go_simp; with_reducible rfl
                 rotate_left
                 ·simp only [Act.put, sa_, sb_, sc_, i64_w, i32_w]; rfl
                 refine pw_ 3 101 (v := ?_) (a' := ?_) (mB 13 335) rfl rfl HT_ (by kernel_rfl) (fun _ _ _ h => h) ?_ ?_ ?_; rotate_left
                 ·intro w'; go_simp; with_reducible rfl
                 rotate_left
                 ·simp only [Act.put, sa_, sb_, sc_, i64_w, i32_w]; rfl
                 refine take_ (i := 4) (N := some 102) (v := ?_) (a' := ?_) (mB 13 351) rfl rfl (take_ofW HT_.out HW_.out (by kernel_rfl)) (fun _ _ _ h => h) (Or.inl ⟨by rfl, ?_⟩) hHeld ?_ ?_; rotate_left
                 ·rintro w' ⟨s0, s1, s2, s3, s4, s5⟩; go_simp; with_reducible rfl
                 rotate_left
                 ·simp only [Act.put, sa_, sb_, sc_, i64_w, i32_w]; rfl
                 refine pw_ 5 103 (v := ?_) (a' := ?_) (mB 13 383) rfl rfl HT_ (by kernel_rfl) (fun _ _ _ h => h) ?_ ?_ ?_; rotate_left
                 ·intro w'; go_simp; with_reducible rfl
                 rotate_left
                 ·simp only [Act.put, sa_, sb_, sc_, i64_w, i32_w]; rfl
                 refine take_ (i := 7) (N := some 105) (v := ?_) (a' := ?_) (mB 13 511) rfl rfl (take_ofW HT_.out HW_.out (by kernel_rfl)) (fun _ _ _ h => h) (Or.inl ⟨by rfl, ?_⟩) hHeld ?_ ?_; rotate_left
                 ·rintro w' ⟨s0, s1, s2, s3, s4, s5⟩; go_simp; with_reducible rfl
                 rotate_left
                 ·simp only [Act.put, sa_, sb_, sc_, i64_w, i32_w]; rfl
                 refine pw_ 9 107 (v := ?_) (a' := ?_) (mB 13 1023) rfl rfl HT_ (by kernel_rfl) (fun _ _ _ h => h) ?_ ?_ ?_; rotate_left
                 ·intro w'; go_simp; with_reducible rfl
                 rotate_left
                 ·simp only [Act.put, sa_, sb_, sc_, i64_w, i32_w]; rfl
                 refine take_ (i := 10) (N := some 108) (v := ?_) (a' := ?_) (mB 13 2047) rfl rfl (take_ofW HT_.out HW_.out (by kernel_rfl)) (fun _ _ _ h => h) (Or.inl ⟨by rfl, ?_⟩) hHeld ?_ ?_; rotate_left
                 ·rintro w' ⟨s0, s1, s2, s3, s4, s5⟩; go_simp; with_reducible rfl
                 rotate_left
                 ·simp only [Act.put, sa_, sb_, sc_, i64_w, i32_w]; rfl
                 refine pw_ 11 109 (v := ?_) (a' := ?_) (mB 13 4095) rfl rfl HT_ (by kernel_rfl) (fun _ _ _ h => h) ?_ ?_ ?_; rotate_left
                 ·intro w'; go_simp; with_reducible rfl
                 rotate_left
                 ·simp only [Act.put, sa_, sb_, sc_, i64_w, i32_w]; rfl
                 refine pw_ 12 110 (v := ?_) (a' := ?_) (mB 13 8191) rfl rfl HT_ (by kernel_rfl) (fun _ _ _ h => h) ?_ ?_ ?_; rotate_left
                 ·intro w'; go_simp; with_reducible rfl
                 rotate_left
                 ·simp only [Act.put, sa_, sb_, sc_, i64_w, i32_w]; rfl
                 refine done_ (done_of HT_.out (by kernel_rfl)) ?_; have hnb126 := NB232_212.out; have hnc126 := NB212_232.out; have hnb127 := NB232_213.out; have hnc127 := NB213_232.out; have hnb128 := NB232_222.out; have hnc128 := NB222_232.out; have hnb129 := NB232_223.out; have hnc129 := NB223_232.out; have hcz130_0 : w125.cell? ⟨gb232, 0, none⟩ = some (.int .u64 t227) := (blk_cell BK232.out 0).trans rfl; have hcz130_1 : w125.cell? ⟨gb232, 1, none⟩ = some (.slice (some ad239) t228.length co56) := (blk_cell BK232.out 1).trans rfl; have hfz130_0 := blk_frozen BK232.out 0; have hfz130_1 := blk_frozen BK232.out 1; have p241 : 0 ≤ (x95_4 : Int) := of_decide_eq_true (by first | (with_reducible assumption) | assumption); have q241 : x95_4 < (t228.length : Int) := of_decide_eq_true (by first | (with_reducible assumption) | assumption); obtain ⟨ad241, A241_0, c241_0, e241, hx241_0, hl241_0, hi241_0⟩ := at_L1 (Kd.S_reads' HO_233001.out).2.2 x95_4 p241 q241; obtain rfl : ad239 = ad241 := (by injection e241); obtain ⟨ce241, hce241, hMe241, hcc241⟩ := Kd.S_get HO_233001.out [] x95_4 p241 (by first | exact q241 | exact of_decide_eq_true (by first | (with_reducible assumption) | assumption) | (have e_ := (Kd.S_reads' HO_233001.out).1; omega)); obtain ⟨ve241_0, rfl, ge241_0⟩ := hMe241; have hv241_0 := hcc241 0 _ rfl; rw [Nat.add_zero, show ((Kd.slice 4 Kd.bool)).sz = 1 from rfl, Nat.mul_one] at hv241_0; replace hv241_0 := Option.some.inj (hv241_0.symm.trans hx241_0)
                 rw [hv241_0] at ge241_0; have HL241_0 := Aside0.mk (show Kd.R Kd.bool 4 _ _ _ _ (rd_L1 t228 x95_4) from ge241_0); clear hv241_0 ge241_0; clear hcc241 hce241; have HR241_0 := Aside0.mk hi241_0; have HC241_0 := Aside0.mk hl241_0; clear hi241_0 hl241_0; replace p241 := eq_true p241; replace q241 := eq_true q241; have ea_ := Option.some.inj (hx239_0.symm.trans hx241_0)
                 injection ea_ with ea_ en_ ec_
                 subst ea_; subst ec_; clear en_
                 try go_wp2
                 go_loopg [117] k4 (fun kq v117 w' => ∃ (x117_5 : Int), v117 = .int .i64 x117_5 ∧ Aside0 (rillmeterlaw13_BitmapMerges.l1 kq t231 x95_4 (t228.length : Int) x95_4 ((rd_L1 t228 x95_4).length : Int) x117_5 a0_0 l0_1 a1_0 l1_1 t227 t228 = some r) ∧ Aside0 (kq ≤ k4) ∧ Aside0 (Kd.V (Kd.slice 4 Kd.bool) 33 w' w.heap.size (fun k_ => some k_ ≠ ((.slice (some ad239) t228.length co56) : Value).ownBlock ∧ k_ ≠ gb212 ∧ k_ ≠ gb213 ∧ k_ ≠ gb222 ∧ k_ ≠ gb223 ∧ k_ ≠ gb232) (.slice Ao15 t215.length co15) t215) ∧ Aside0 (Kd.V (Kd.slice 4 Kd.bool) 33 w' w.heap.size (fun k_ => some k_ ≠ ((.slice (some ad239) t228.length co56) : Value).ownBlock ∧ k_ ≠ gb212 ∧ k_ ≠ gb213 ∧ k_ ≠ gb222 ∧ k_ ≠ gb223 ∧ k_ ≠ gb232) (.slice Ao18 t219.length co18) t219) ∧ Aside0 (Kd.S (Kd.slice 4 Kd.bool) 33 w' w.heap.size (fun _ => True) (.slice (some ad239) t228.length co56) t228) ∧ Aside0 (w'.heap[gb212]? = some (.cells #[.int .u64 a0_0, (.slice (some ad240) l0_1.length c0_1)] 25 (0, 0))) ∧ Aside0 (w'.heap[gb213]? = some (.cells #[.int .u64 a1_0, (.slice A1_1 l1_1.length c1_1)] 25 (0, 0))) ∧ Aside0 (w'.heap[gb222]? = some (.cells #[.int .u64 t214, (.slice Ao15 t215.length co15)] 30 (0, 0))) ∧ Aside0 (w'.heap[gb223]? = some (.cells #[.int .u64 t218, (.slice Ao18 t219.length co18)] 30 (0, 0))) ∧ Aside0 (w'.heap[gb232]? = some (.cells #[.int .u64 t227, (.slice (some ad239) t228.length co56)] 25 (0, 0))) ∧ Aside0 (Kd.C Kd.bool w' A239_0 (rd_L1 t228 x95_4).length (rd_L1 t228 x95_4)) ∧ Aside0 (Kd.C Kd.bool w' A239_0 (rd_L1 t228 x95_4).length (rd_L1 t228 x95_4)) ∧ Aside0 (Below w.heap.size w w'))
                 case atStart => exact ⟨(0), (by first | rfl | (simp; done) | (simp [*]; done)), H', ⟨Nat.le_refl _⟩, ⟨by (with_reducible repeat (first | apply Kd.V_alloc | apply Kd.V_drewN | apply Kd.V_drew)); exact HO_223001.out⟩, ⟨by (with_reducible repeat (first | apply Kd.V_alloc | apply Kd.V_drewN | apply Kd.V_drew)); exact HO_224001.out⟩, ⟨by (with_reducible repeat (first | apply Kd.S_alloc | apply Kd.S_drewN | apply Kd.S_drew)); exact HO_233001.out⟩, ⟨bk_ BK212⟩, ⟨bk_ BK213⟩, ⟨bk_ BK222⟩, ⟨bk_ BK223⟩, ⟨bk_ BK232⟩, ⟨by repeat (first | (with_reducible exact HR239_0.out) | (with_reducible refine Kd.C_alloc ?_ _) | (with_reducible refine Kd.C_drewN ?_ _) | (with_reducible refine Kd.C_drew ?_) | exact HR239_0.out)⟩, ⟨by repeat (first | (with_reducible exact HR241_0.out) | (with_reducible refine Kd.C_alloc ?_ _) | (with_reducible refine Kd.C_drewN ?_ _) | (with_reducible refine Kd.C_drew ?_) | exact HR241_0.out)⟩, ⟨bl_ HB⟩⟩
                 case round =>
                  clear H'; (try clear c1); (try clear c2); (try clear p2); (try clear q2); (try clear hx2); (try clear c5); (try clear c8); (try clear c9); (try clear c10); (try clear c11); (try clear c12); (try clear c23); (try clear p23); (try clear q23); (try clear hx23); (try clear c24); (try clear p24); (try clear q24); (try clear hx24); (try clear c58); (try clear c84); (try clear c85); (try clear c85b0); (try clear c85b1); (try clear c86); (try clear c86b0); (try clear c86b1); (try clear c86b2); (try clear c88); (try clear c89); (try clear c90); (try clear c91); (try clear c95); (try clear c95b0); (try clear c95b1); (try clear c95b2); (try clear c96); (try clear c97); (try clear c98); (try clear c99); (try clear c101); (try clear c102); (try clear c103); (try clear c105); (try clear c106); (try clear c107); (try clear c108); (try clear c110); (try clear c111); (try clear c112); (try clear c114); (try clear c115); (try clear c116); (try clear c117); (try clear c118); (try clear c120); (try clear c120b0); (try clear c121); (try clear c121b0); (try clear c122); (try clear c122b0); (try clear c123); (try clear c123b0); (try clear c124); (try clear c124b0); (try clear c124b1); (try clear c124b2); (try clear c126); (try clear c127); (try clear c128); (try clear c129); (try clear hcz100_0); (try clear hcz100_1); (try clear hcz104_0); (try clear hcz104_1); (try clear hcz109_0); (try clear hcz109_1); (try clear hcz113_0); (try clear hcz113_1)
                  (try clear hcz119_0); (try clear hcz119_1); (try clear hcz130_0); (try clear hcz130_1); (try clear hcz92_0); (try clear hcz92_1); (try clear hfz100_0); (try clear hfz100_1); (try clear hfz104_0); (try clear hfz104_1); (try clear hfz109_0); (try clear hfz109_1); (try clear hfz113_0); (try clear hfz113_1); (try clear hfz119_0); (try clear hfz119_1); (try clear hfz130_0); (try clear hfz130_1); (try clear hfz92_0); (try clear hfz92_1); (try clear hx239_0); (try clear hx240_0); (try clear hx241_0); (try clear p2); (try clear p239); (try clear p240); (try clear p241); (try clear q239); (try clear q240); (try clear q241); obtain ⟨x117_5, rfl, HA, HK5, HO_223001, HO_224001, HO_233001, BK212, BK213, BK222, BK223, BK232, HR239_0, HR241_0, HB⟩ := hrel
                  cases gk with
                  | zero => exact absurd HA.out (by simp [rillmeterlaw13_BitmapMerges.l1])
                  | succ k5 =>
                   have H := HA.out; clear HA; simp only [rillmeterlaw13_BitmapMerges.l1] at H
                   by_cases c131 : x117_5 < ((rd_L1 t228 x95_4).length : Int)
                   ·rw [if_pos c131] at H; have c131b0 : decide (x117_5 < ((rd_L1 t228 x95_4).length : Int)) = true := decide_eq_true c131; clear c131
                    by_cases c132 : 0 ≤ x95_4
                    ·rw [if_pos c132] at H; have c132b0 : decide (0 ≤ x95_4) = true := decide_eq_true c132; clear c132
                     by_cases c133 : x95_4 < (t228.length : Int)
                     ·rw [if_pos c133] at H; have c133b0 : decide (x95_4 < (t228.length : Int)) = true := decide_eq_true c133; clear c133
                      by_cases c134 : 0 ≤ x117_5
                      ·rw [if_pos c134] at H; have c134b0 : decide (0 ≤ x117_5) = true := decide_eq_true c134; clear c134
                       by_cases c135 : x117_5 < ((rd_L1 t228 x95_4).length : Int)
                       ·rw [if_pos c135] at H; have c135b0 : decide (x117_5 < ((rd_L1 t228 x95_4).length : Int)) = true := decide_eq_true c135; clear c135
                        by_cases c136 : x95_4 < (l0_1.length : Int)
                        ·rw [if_pos c136] at H; have c136b0 : decide (x95_4 < (l0_1.length : Int)) = true := decide_eq_true c136; clear c136
                         by_cases c137 : x117_5 < ((rd_L1 l0_1 x95_4).length : Int)
                         ·rw [if_pos c137] at H; have c137b0 : decide (x117_5 < ((rd_L1 l0_1 x95_4).length : Int)) = true := decide_eq_true c137; clear c137; obtain ⟨bq138, hbq138⟩ : ∃ b_ : Bool, b_ = (rdOf false (rd_L1 l0_1 x95_4) x117_5) := ⟨_, rfl⟩
                          replace H : (if bq138 = true then (if ((rdOf false (rd_L1 t228 x95_4) x117_5) != true) = true then (some false) else (rillmeterlaw13_BitmapMerges.l1 k5 t231 x95_4 (t228.length : Int) x95_4 ((rd_L1 t228 x95_4).length : Int) (wrap64 (x117_5 + 1)) a0_0 l0_1 a1_0 l1_1 t227 t228)) else (if x95_4 < (l1_1.length : Int) then (if x117_5 < ((rd_L1 l1_1 x95_4).length : Int) then (if ((rdOf false (rd_L1 t228 x95_4) x117_5) != (rdOf false (rd_L1 l1_1 x95_4) x117_5)) = true then (some false) else (rillmeterlaw13_BitmapMerges.l1 k5 t231 x95_4 (t228.length : Int) x95_4 ((rd_L1 t228 x95_4).length : Int) (wrap64 (x117_5 + 1)) a0_0 l0_1 a1_0 l1_1 t227 t228)) else (none)) else (none))) = some r := by rw [← hbq138] at H; exact H
                          have Nbq138 := Aside0.mk hbq138; clear hbq138
                          by_cases c139 : bq138 = true
                          ·subst c139
                           have H1 : (if ((rdOf false (rd_L1 t228 x95_4) x117_5) != true) = true then (some false) else (rillmeterlaw13_BitmapMerges.l1 k5 t231 x95_4 (t228.length : Int) x95_4 ((rd_L1 t228 x95_4).length : Int) (wrap64 (x117_5 + 1)) a0_0 l0_1 a1_0 l1_1 t227 t228)) = some r := by rw [if_pos rfl] at H; exact H
                           clear H; have H := H1; clear H1
                           by_cases c140 : ((rdOf false (rd_L1 t228 x95_4) x117_5) != true) = true
                           ·rw [if_pos c140] at H; have c140b0 : ((rdOf false (rd_L1 t228 x95_4) x117_5) != true) = true := c140; (try (have c140b1 : decide ((rdOf false (rd_L1 t228 x95_4) x117_5) = true) = false := by simpa using c140)); (try (have c140b2 : ((rdOf false (rd_L1 t228 x95_4) x117_5) == true) = false := by simpa using c140)); (try (have c140b3 : ¬ ((rdOf false (rd_L1 t228 x95_4) x117_5) = true) := by simpa using c140)); clear c140; exact absurd ((Option.some.inj H).trans hrt.out) (by decide)
                           ·rw [if_neg c140] at H
                            have c140b0 : ((rdOf false (rd_L1 t228 x95_4) x117_5) != true) = false := by simpa using c140
                            (try (have c140b1 : decide ((rdOf false (rd_L1 t228 x95_4) x117_5) = true) = true := by simpa using c140)); (try (have c140b2 : ((rdOf false (rd_L1 t228 x95_4) x117_5) == true) = true := by simpa using c140)); clear c140; have H' := Aside0.mk H; clear H
                            try go_wp2
                            replace HO_223001 := Aside0.mk (Kd.V_drew HO_223001.out); replace HO_224001 := Aside0.mk (Kd.V_drew HO_224001.out); replace HO_233001 := Aside0.mk (Kd.S_drew HO_233001.out); replace BK212 := Aside0.mk (blk_drew BK212.out); replace BK213 := Aside0.mk (blk_drew BK213.out); replace BK222 := Aside0.mk (blk_drew BK222.out); replace BK223 := Aside0.mk (blk_drew BK223.out); replace BK232 := Aside0.mk (blk_drew BK232.out); replace HR239_0 := Aside0.mk (Kd.C_drew HR239_0.out); replace HR241_0 := Aside0.mk (Kd.C_drew HR241_0.out); replace HB := Aside0.mk (below_drew1 HB.out); have p242 : 0 ≤ (x95_4 : Int) := of_decide_eq_true (by first | (with_reducible assumption) | assumption); have q242 : x95_4 < (t228.length : Int) := of_decide_eq_true (by first | (with_reducible assumption) | assumption); obtain ⟨ad242, A242_0, c242_0, e242, hx242_0, hl242_0, hi242_0⟩ := at_L1 (Kd.S_reads' HO_233001.out).2.2 x95_4 p242 q242; obtain rfl : ad239 = ad242 := (by injection e242); obtain ⟨ce242, hce242, hMe242, hcc242⟩ := Kd.S_get HO_233001.out [] x95_4 p242 (by first | exact q242 | exact of_decide_eq_true (by first | (with_reducible assumption) | assumption) | (have e_ := (Kd.S_reads' HO_233001.out).1; omega)); obtain ⟨ve242_0, rfl, ge242_0⟩ := hMe242; have hv242_0 := hcc242 0 _ rfl; rw [Nat.add_zero, show ((Kd.slice 4 Kd.bool)).sz = 1 from rfl, Nat.mul_one] at hv242_0; replace hv242_0 := Option.some.inj (hv242_0.symm.trans hx242_0)
                            rw [hv242_0] at ge242_0; have HL242_0 := Aside0.mk (show Kd.R Kd.bool 4 _ _ _ _ (rd_L1 t228 x95_4) from ge242_0); clear hv242_0 ge242_0; clear hcc242 hce242; have HR242_0 := Aside0.mk hi242_0; have HC242_0 := Aside0.mk hl242_0; clear hi242_0 hl242_0; replace p242 := eq_true p242; replace q242 := eq_true q242; have p243 : 0 ≤ (x117_5 : Int) := of_decide_eq_true (by first | (with_reducible assumption) | assumption); have q243 : x117_5 < ((rd_L1 t228 x95_4).length : Int) := of_decide_eq_true (by first | (with_reducible assumption) | assumption); obtain ⟨ad243, e243, hx243_0⟩ := Kd.at_bool (by repeat (first | (with_reducible exact HR242_0.out) | (with_reducible refine Kd.C_alloc ?_ _) | (with_reducible refine Kd.C_drewN ?_ _) | (with_reducible refine Kd.C_drew ?_) | exact HR242_0.out)) x117_5 p243 q243; (try rw [← Nbq138.out] at hx243_0); (try rw [← Nbq138.out] at hw243_0)
                            cases e243; replace p243 := eq_true p243; replace q243 := eq_true q243; have p244 : 0 ≤ (x95_4 : Int) := of_decide_eq_true (by first | (with_reducible assumption) | assumption); have q244 : x95_4 < (l0_1.length : Int) := of_decide_eq_true (by first | (with_reducible assumption) | assumption); obtain ⟨ad244, A244_0, c244_0, e244, hx244_0, hl244_0, hi244_0⟩ := at_L1 HR0_1.out x95_4 p244 q244; have hw244_0 := hx244_0; obtain rfl : ad240 = ad244 := (by injection e244); (try replace hx244_0 := (HB.out.cell (World.block_lt_of_cell? w _ hx244_0)).trans hx244_0); have HR244_0 := Aside0.mk hi244_0; have HC244_0 := Aside0.mk hl244_0; clear hi244_0 hl244_0; replace p244 := eq_true p244; replace q244 := eq_true q244; have p245 : 0 ≤ (x117_5 : Int) := of_decide_eq_true (by first | (with_reducible assumption) | assumption); have q245 : x117_5 < ((rd_L1 l0_1 x95_4).length : Int) := of_decide_eq_true (by first | (with_reducible assumption) | assumption); obtain ⟨ad245, e245, hx245_0⟩ := Kd.at_bool HR244_0.out x117_5 p245 q245; have hw245_0 := hx245_0; (try rw [← Nbq138.out] at hx245_0); (try rw [← Nbq138.out] at hw245_0)
                            cases e245; (try replace hx245_0 := (HB.out.cell (World.block_lt_of_cell? w _ hx245_0)).trans hx245_0); replace p245 := eq_true p245; replace q245 := eq_true q245; refine start_ (n := 27) (S := fun w' => w'.cell? ⟨gb232, 0, none⟩ = some (.int .u64 t227) ∧ w'.cell? ⟨gb232, 1, none⟩ = some (.slice (some ad239) t228.length co56) ∧ w'.cell? ⟨gb212, 0, none⟩ = some (.int .u64 a0_0) ∧ w'.cell? ⟨gb212, 1, none⟩ = some (.slice (some ad240) l0_1.length c0_1) ∧ w'.cell? (ad239.add (x95_4).toNat) = some (.slice (some ad243) (rd_L1 t228 x95_4).length c242_0) ∧ w'.cell? (ad243.add (x117_5).toNat) = some (.bool (rdOf false (rd_L1 t228 x95_4) x117_5)) ∧ w'.cell? (ad240.add (x95_4).toNat) = some (.slice (some ad245) (rd_L1 l0_1 x95_4).length c244_0) ∧ w'.cell? (ad245.add (x117_5).toNat) = some (.bool true)) (ds := []) (mB 27 0) (by kernel_rfl) rfl rfl ⟨(blk_cell BK232.out 0).trans rfl, (blk_cell BK232.out 1).trans rfl, (blk_cell BK212.out 0).trans rfl, (blk_cell BK212.out 1).trans rfl, hx242_0, hx243_0, ((HB.out.cell (World.block_lt_of_cell? w _ hw244_0)).trans hw244_0), ((HB.out.cell (World.block_lt_of_cell? w _ hw245_0)).trans hw245_0)⟩ (fun hHeld => ?_); refine with_tabW rillmeterlaw13_BitmapMerges.tab17 rillmeterlaw13_BitmapMerges.bits17 (fun HT_ HW_ => ?_); generalize wr.drew = w141 at HO_223001 HO_224001 HO_233001 BK212 BK213 BK222 BK223 BK232 HR239_0 HR241_0 HB HL242_0 HR242_0 HR244_0 hx242_0 hx243_0 hx244_0 hx245_0 hHeld ⊢
                            refine pw_ 0 120 (v := ?_) (a' := ?_) (mB 27 1) rfl rfl HT_ (by kernel_rfl) (fun _ _ _ h => h) ?_ ?_ ?_; rotate_left
                            ·intro w'; go_simp; with_reducible rfl
                            rotate_left
                            ·simp only [Act.put, sa_, sb_, sc_, i64_w, i32_w]; rfl
                            refine pw_ 2 122 (v := ?_) (a' := ?_) (mB 27 5) rfl rfl HT_ (by kernel_rfl) (fun _ _ _ h => h) ?_ ?_ ?_; rotate_left
                            ·intro w'; go_simp; with_reducible rfl
                            rotate_left
                            ·simp only [Act.put, sa_, sb_, sc_, i64_w, i32_w]; rfl
                            refine pw_ 5 125 (v := ?_) (a' := ?_) (mB 27 37) rfl rfl HT_ (by kernel_rfl) (fun _ _ _ h => h) ?_ ?_ ?_; rotate_left
                            ·intro w'; go_simp; with_reducible rfl
                            rotate_left
                            ·simp only [Act.put, sa_, sb_, sc_, i64_w, i32_w]; rfl
                            refine pw_ 8 128 (v := ?_) (a' := ?_) (mB 27 293) rfl rfl HT_ (by kernel_rfl) (fun _ _ _ h => h) ?_ ?_ ?_; rotate_left
                            ·intro w'; go_simp; with_reducible rfl
                            rotate_left
                            ·simp only [Act.put, sa_, sb_, sc_, i64_w, i32_w]; rfl
                            refine pw_ 10 130 (v := ?_) (a' := ?_) (mB 27 1317) rfl rfl HT_ (by kernel_rfl) (fun _ _ _ h => h) ?_ ?_ ?_; rotate_left
                            ·intro w'; go_simp; with_reducible rfl
                            rotate_left
                            ·simp only [Act.put, sa_, sb_, sc_, i64_w, i32_w]; rfl
                            refine pw_ 13 133 (v := ?_) (a' := ?_) (mB 27 9509) rfl rfl HT_ (by kernel_rfl) (fun _ _ _ h => h) ?_ ?_ ?_; rotate_left
                            ·intro w'; go_simp; with_reducible rfl
                            rotate_left
                            ·simp only [Act.put, sa_, sb_, sc_, i64_w, i32_w]; rfl
                            refine take_ (i := 1) (N := some 121) (v := ?_) (a' := ?_) (mB 27 9511) rfl rfl (take_ofW HT_.out HW_.out (by kernel_rfl)) (fun _ _ _ h => h) (Or.inl ⟨by rfl, ?_⟩) hHeld ?_ ?_; rotate_left
                            ·rintro w' ⟨s0, s1, s2, s3, s4, s5, s6, s7⟩; go_simp; with_reducible rfl
                            rotate_left
                            ·simp only [Act.put, sa_, sb_, sc_, i64_w, i32_w]; rfl
                            refine pw_ 3 123 (v := ?_) (a' := ?_) (mB 27 9519) rfl rfl HT_ (by kernel_rfl) (fun _ _ _ h => h) ?_ ?_ ?_; rotate_left
                            ·intro w'; go_simp; with_reducible rfl
                            rotate_left
                            ·simp only [Act.put, sa_, sb_, sc_, i64_w, i32_w]; rfl
                            refine take_ (i := 4) (N := some 124) (v := ?_) (a' := ?_) (mB 27 9535) rfl rfl (take_ofW HT_.out HW_.out (by kernel_rfl)) (fun _ _ _ h => h) (Or.inl ⟨by rfl, ?_⟩) hHeld ?_ ?_; rotate_left
                            ·rintro w' ⟨s0, s1, s2, s3, s4, s5, s6, s7⟩; go_simp; with_reducible rfl
                            rotate_left
                            ·simp only [Act.put, sa_, sb_, sc_, i64_w, i32_w]; rfl
                            refine pw_ 6 126 (v := ?_) (a' := ?_) (mB 27 9599) rfl rfl HT_ (by kernel_rfl) (fun _ _ _ h => h) ?_ ?_ ?_; rotate_left
                            ·intro w'; go_simp; with_reducible rfl
                            rotate_left
                            ·simp only [Act.put, sa_, sb_, sc_, i64_w, i32_w]; rfl
                            refine take_ (i := 7) (N := some 127) (v := ?_) (a' := ?_) (mB 27 9727) rfl rfl (take_ofW HT_.out HW_.out (by kernel_rfl)) (fun _ _ _ h => h) (Or.inl ⟨by rfl, ?_⟩) hHeld ?_ ?_; rotate_left
                            ·rintro w' ⟨s0, s1, s2, s3, s4, s5, s6, s7⟩; go_simp; with_reducible rfl
                            rotate_left
                            ·simp only [Act.put, sa_, sb_, sc_, i64_w, i32_w]; rfl
                            refine take_ (i := 9) (N := some 129) (v := ?_) (a' := ?_) (mB 27 10239) rfl rfl (take_ofW HT_.out HW_.out (by kernel_rfl)) (fun _ _ _ h => h) (Or.inl ⟨by rfl, ?_⟩) hHeld ?_ ?_; rotate_left
                            ·rintro w' ⟨s0, s1, s2, s3, s4, s5, s6, s7⟩; go_simp; with_reducible rfl
                            rotate_left
                            ·simp only [Act.put, sa_, sb_, sc_, i64_w, i32_w]; rfl
                            refine pw_ 11 131 (v := ?_) (a' := ?_) (mB 27 12287) rfl rfl HT_ (by kernel_rfl) (fun _ _ _ h => h) ?_ ?_ ?_; rotate_left
                            ·intro w'; go_simp; with_reducible rfl
                            rotate_left
                            ·simp only [Act.put, sa_, sb_, sc_, i64_w, i32_w]; rfl
                            refine take_ (i := 12) (N := some 132) (v := ?_) (a' := ?_) (mB 27 16383) rfl rfl (take_ofW HT_.out HW_.out (by kernel_rfl)) (fun _ _ _ h => h) (Or.inl ⟨by rfl, ?_⟩) hHeld ?_ ?_; rotate_left
                            ·rintro w' ⟨s0, s1, s2, s3, s4, s5, s6, s7⟩; go_simp; with_reducible rfl
                            rotate_left
                            ·simp only [Act.put, sa_, sb_, sc_, i64_w, i32_w]; rfl
                            refine pw_ 14 134 (v := ?_) (a' := ?_) (mB 27 32767) rfl rfl HT_ (by kernel_rfl) (fun _ _ _ h => h) ?_ ?_ ?_; rotate_left
                            ·intro w'; go_simp; with_reducible rfl
                            rotate_left
                            ·simp only [Act.put, sa_, sb_, sc_, i64_w, i32_w]; rfl
                            refine take_ (i := 15) (N := some 135) (v := ?_) (a' := ?_) (mB 27 65535) rfl rfl (take_ofW HT_.out HW_.out (by kernel_rfl)) (fun _ _ _ h => h) (Or.inl ⟨by rfl, ?_⟩) hHeld ?_ ?_; rotate_left
                            ·rintro w' ⟨s0, s1, s2, s3, s4, s5, s6, s7⟩; go_simp; with_reducible rfl
                            rotate_left
                            ·simp only [Act.put, sa_, sb_, sc_, i64_w, i32_w]; rfl
                            refine pw_ 16 136 (v := ?_) (a' := ?_) (mB 27 131071) rfl rfl HT_ (by kernel_rfl) (fun _ _ _ h => h) ?_ ?_ ?_; rotate_left
                            ·intro w'; go_simp; with_reducible rfl
                            rotate_left
                            ·simp only [Act.put, sa_, sb_, sc_, i64_w, i32_w]; rfl
                            refine un_ [(17, 137), (18, 138), (19, 139), (20, 140), (21, 141), (22, 142), (23, 143), (24, 144)] (fuel := 2) (a' := ?_) (mB 27 33554431) rfl HT_ (by kernel_rfl) (by kernel_rfl) (fun _ _ _ _ h => h) ?_ ?_; rotate_left
                            ·simp only [unwA, Act.put, sa_, sb_, sc_, i64_w, i32_w]; rfl
                            refine pw_ 25 145 (v := ?_) (a' := ?_) (mB 27 67108863) rfl rfl HT_ (by kernel_rfl) (fun _ _ _ h => h) ?_ ?_ ?_; rotate_left
                            ·intro w'; go_simp; with_reducible rfl
                            rotate_left
                            ·simp only [Act.put, sa_, sb_, sc_, i64_w, i32_w]; rfl
                            refine pw_ 26 146 (v := ?_) (a' := ?_) (mB 27 134217727) rfl rfl HT_ (by kernel_rfl) (fun _ _ _ h => h) ?_ ?_ ?_; rotate_left
                            ·intro w'; go_simp; with_reducible rfl
                            rotate_left
                            ·simp only [Act.put, sa_, sb_, sc_, i64_w, i32_w]; rfl
                            refine done_ (done_of HT_.out (by kernel_rfl)) ?_
                            try go_wp2
                            go_roundg k5
                            case measure => have := HJ4.out; have := HJ40.out; have := HJ93.out; have := HK4.out; have := HK5.out; omega
                            case rel => exact ⟨(wrap64 (x117_5 + 1)), (by first | rfl | (simp; done) | (simp [*]; done)), H', ⟨by have := HJ4.out; have := HJ40.out; have := HJ93.out; have := HK4.out; have := HK5.out; omega⟩, ⟨by (with_reducible repeat (first | apply Kd.V_alloc | apply Kd.V_drewN | apply Kd.V_drew)); exact HO_223001.out⟩, ⟨by (with_reducible repeat (first | apply Kd.V_alloc | apply Kd.V_drewN | apply Kd.V_drew)); exact HO_224001.out⟩, ⟨by (with_reducible repeat (first | apply Kd.S_alloc | apply Kd.S_drewN | apply Kd.S_drew)); exact HO_233001.out⟩, ⟨bk_ BK212⟩, ⟨bk_ BK213⟩, ⟨bk_ BK222⟩, ⟨bk_ BK223⟩, ⟨bk_ BK232⟩, ⟨by repeat (first | (with_reducible exact HR239_0.out) | (with_reducible refine Kd.C_alloc ?_ _) | (with_reducible refine Kd.C_drewN ?_ _) | (with_reducible refine Kd.C_drew ?_) | exact HR239_0.out)⟩, ⟨by repeat (first | (with_reducible exact HR241_0.out) | (with_reducible refine Kd.C_alloc ?_ _) | (with_reducible refine Kd.C_drewN ?_ _) | (with_reducible refine Kd.C_drew ?_) | exact HR241_0.out)⟩, ⟨bl_ HB⟩⟩
                          ·replace c139 := Bool.eq_false_iff.mpr c139; subst c139
                           have H1 : (if x95_4 < (l1_1.length : Int) then (if x117_5 < ((rd_L1 l1_1 x95_4).length : Int) then (if ((rdOf false (rd_L1 t228 x95_4) x117_5) != (rdOf false (rd_L1 l1_1 x95_4) x117_5)) = true then (some false) else (rillmeterlaw13_BitmapMerges.l1 k5 t231 x95_4 (t228.length : Int) x95_4 ((rd_L1 t228 x95_4).length : Int) (wrap64 (x117_5 + 1)) a0_0 l0_1 a1_0 l1_1 t227 t228)) else (none)) else (none)) = some r := by rw [if_neg (show ¬ (false = true) by decide)] at H; exact H
                           clear H; have H := H1; clear H1
                           by_cases c142 : x95_4 < (l1_1.length : Int)
                           ·rw [if_pos c142] at H; have c142b0 : decide (x95_4 < (l1_1.length : Int)) = true := decide_eq_true c142; clear c142
                            by_cases c143 : x117_5 < ((rd_L1 l1_1 x95_4).length : Int)
                            ·rw [if_pos c143] at H; have c143b0 : decide (x117_5 < ((rd_L1 l1_1 x95_4).length : Int)) = true := decide_eq_true c143; clear c143
                             by_cases c144 : ((rdOf false (rd_L1 t228 x95_4) x117_5) != (rdOf false (rd_L1 l1_1 x95_4) x117_5)) = true
                             ·rw [if_pos c144] at H; have c144b0 : ((rdOf false (rd_L1 t228 x95_4) x117_5) != (rdOf false (rd_L1 l1_1 x95_4) x117_5)) = true := c144; (try (have c144b1 : decide ((rdOf false (rd_L1 t228 x95_4) x117_5) = (rdOf false (rd_L1 l1_1 x95_4) x117_5)) = false := by simpa using c144)); (try (have c144b2 : ((rdOf false (rd_L1 t228 x95_4) x117_5) == (rdOf false (rd_L1 l1_1 x95_4) x117_5)) = false := by simpa using c144)); (try (have c144b3 : ¬ ((rdOf false (rd_L1 t228 x95_4) x117_5) = (rdOf false (rd_L1 l1_1 x95_4) x117_5)) := by simpa using c144)); clear c144; exact absurd ((Option.some.inj H).trans hrt.out) (by decide)
                             ·rw [if_neg c144] at H
                              have c144b0 : ((rdOf false (rd_L1 t228 x95_4) x117_5) != (rdOf false (rd_L1 l1_1 x95_4) x117_5)) = false := by simpa using c144
                              (try (have c144b1 : decide ((rdOf false (rd_L1 t228 x95_4) x117_5) = (rdOf false (rd_L1 l1_1 x95_4) x117_5)) = true := by simpa using c144)); (try (have c144b2 : ((rdOf false (rd_L1 t228 x95_4) x117_5) == (rdOf false (rd_L1 l1_1 x95_4) x117_5)) = true := by simpa using c144)); clear c144; have H' := Aside0.mk H; clear H
                              try go_wp2
                              replace HO_223001 := Aside0.mk (Kd.V_drew HO_223001.out); replace HO_224001 := Aside0.mk (Kd.V_drew HO_224001.out); replace HO_233001 := Aside0.mk (Kd.S_drew HO_233001.out); replace BK212 := Aside0.mk (blk_drew BK212.out); replace BK213 := Aside0.mk (blk_drew BK213.out); replace BK222 := Aside0.mk (blk_drew BK222.out); replace BK223 := Aside0.mk (blk_drew BK223.out); replace BK232 := Aside0.mk (blk_drew BK232.out); replace HR239_0 := Aside0.mk (Kd.C_drew HR239_0.out); replace HR241_0 := Aside0.mk (Kd.C_drew HR241_0.out); replace HB := Aside0.mk (below_drew1 HB.out); have p242 : 0 ≤ (x95_4 : Int) := of_decide_eq_true (by first | (with_reducible assumption) | assumption); have q242 : x95_4 < (t228.length : Int) := of_decide_eq_true (by first | (with_reducible assumption) | assumption); obtain ⟨ad242, A242_0, c242_0, e242, hx242_0, hl242_0, hi242_0⟩ := at_L1 (Kd.S_reads' HO_233001.out).2.2 x95_4 p242 q242; obtain rfl : ad239 = ad242 := (by injection e242); obtain ⟨ce242, hce242, hMe242, hcc242⟩ := Kd.S_get HO_233001.out [] x95_4 p242 (by first | exact q242 | exact of_decide_eq_true (by first | (with_reducible assumption) | assumption) | (have e_ := (Kd.S_reads' HO_233001.out).1; omega)); obtain ⟨ve242_0, rfl, ge242_0⟩ := hMe242; have hv242_0 := hcc242 0 _ rfl; rw [Nat.add_zero, show ((Kd.slice 4 Kd.bool)).sz = 1 from rfl, Nat.mul_one] at hv242_0; replace hv242_0 := Option.some.inj (hv242_0.symm.trans hx242_0)
                              rw [hv242_0] at ge242_0; have HL242_0 := Aside0.mk (show Kd.R Kd.bool 4 _ _ _ _ (rd_L1 t228 x95_4) from ge242_0); clear hv242_0 ge242_0; clear hcc242 hce242; have HR242_0 := Aside0.mk hi242_0; have HC242_0 := Aside0.mk hl242_0; clear hi242_0 hl242_0; replace p242 := eq_true p242; replace q242 := eq_true q242; have p243 : 0 ≤ (x117_5 : Int) := of_decide_eq_true (by first | (with_reducible assumption) | assumption); have q243 : x117_5 < ((rd_L1 t228 x95_4).length : Int) := of_decide_eq_true (by first | (with_reducible assumption) | assumption); obtain ⟨ad243, e243, hx243_0⟩ := Kd.at_bool (by repeat (first | (with_reducible exact HR242_0.out) | (with_reducible refine Kd.C_alloc ?_ _) | (with_reducible refine Kd.C_drewN ?_ _) | (with_reducible refine Kd.C_drew ?_) | exact HR242_0.out)) x117_5 p243 q243; (try rw [← Nbq138.out] at hx243_0); (try rw [← Nbq138.out] at hw243_0)
                              cases e243; replace p243 := eq_true p243; replace q243 := eq_true q243; have p244 : 0 ≤ (x95_4 : Int) := of_decide_eq_true (by first | (with_reducible assumption) | assumption); have q244 : x95_4 < (l0_1.length : Int) := of_decide_eq_true (by first | (with_reducible assumption) | assumption); obtain ⟨ad244, A244_0, c244_0, e244, hx244_0, hl244_0, hi244_0⟩ := at_L1 HR0_1.out x95_4 p244 q244; have hw244_0 := hx244_0; obtain rfl : ad240 = ad244 := (by injection e244); (try replace hx244_0 := (HB.out.cell (World.block_lt_of_cell? w _ hx244_0)).trans hx244_0); have HR244_0 := Aside0.mk hi244_0; have HC244_0 := Aside0.mk hl244_0; clear hi244_0 hl244_0; replace p244 := eq_true p244; replace q244 := eq_true q244; have p245 : 0 ≤ (x117_5 : Int) := of_decide_eq_true (by first | (with_reducible assumption) | assumption); have q245 : x117_5 < ((rd_L1 l0_1 x95_4).length : Int) := of_decide_eq_true (by first | (with_reducible assumption) | assumption); obtain ⟨ad245, e245, hx245_0⟩ := Kd.at_bool HR244_0.out x117_5 p245 q245; have hw245_0 := hx245_0; (try rw [← Nbq138.out] at hx245_0); (try rw [← Nbq138.out] at hw245_0)
                              cases e245; (try replace hx245_0 := (HB.out.cell (World.block_lt_of_cell? w _ hx245_0)).trans hx245_0); replace p245 := eq_true p245; replace q245 := eq_true q245; have p246 : 0 ≤ (x95_4 : Int) := of_decide_eq_true (by first | (with_reducible assumption) | assumption); have q246 : x95_4 < (l1_1.length : Int) := of_decide_eq_true (by first | (with_reducible assumption) | assumption); obtain ⟨ad246, A246_0, c246_0, e246, hx246_0, hl246_0, hi246_0⟩ := at_L1 HR1_1.out x95_4 p246 q246; have hw246_0 := hx246_0
                              cases e246; (try replace hx246_0 := (HB.out.cell (World.block_lt_of_cell? w _ hx246_0)).trans hx246_0); have HR246_0 := Aside0.mk hi246_0; have HC246_0 := Aside0.mk hl246_0; clear hi246_0 hl246_0; replace p246 := eq_true p246; replace q246 := eq_true q246; have p247 : 0 ≤ (x117_5 : Int) := of_decide_eq_true (by first | (with_reducible assumption) | assumption); have q247 : x117_5 < ((rd_L1 l1_1 x95_4).length : Int) := of_decide_eq_true (by first | (with_reducible assumption) | assumption); obtain ⟨ad247, e247, hx247_0⟩ := Kd.at_bool HR246_0.out x117_5 p247 q247; have hw247_0 := hx247_0; (try rw [← Nbq138.out] at hx247_0); (try rw [← Nbq138.out] at hw247_0)
                              cases e247; (try replace hx247_0 := (HB.out.cell (World.block_lt_of_cell? w _ hx247_0)).trans hx247_0); replace p247 := eq_true p247; replace q247 := eq_true q247
                              refine start_ (n := 27) (S := fun w' => w'.cell? ⟨gb232, 0, none⟩ = some (.int .u64 t227) ∧ w'.cell? ⟨gb232, 1, none⟩ = some (.slice (some ad239) t228.length co56) ∧ w'.cell? ⟨gb212, 0, none⟩ = some (.int .u64 a0_0) ∧ w'.cell? ⟨gb212, 1, none⟩ = some (.slice (some ad240) l0_1.length c0_1) ∧ w'.cell? ⟨gb213, 0, none⟩ = some (.int .u64 a1_0) ∧ w'.cell? ⟨gb213, 1, none⟩ = some (.slice (some ad246) l1_1.length c1_1) ∧ w'.cell? (ad239.add (x95_4).toNat) = some (.slice (some ad243) (rd_L1 t228 x95_4).length c242_0) ∧ w'.cell? (ad243.add (x117_5).toNat) = some (.bool (rdOf false (rd_L1 t228 x95_4) x117_5)) ∧ w'.cell? (ad240.add (x95_4).toNat) = some (.slice (some ad245) (rd_L1 l0_1 x95_4).length c244_0) ∧ w'.cell? (ad245.add (x117_5).toNat) = some (.bool false) ∧ w'.cell? (ad246.add (x95_4).toNat) = some (.slice (some ad247) (rd_L1 l1_1 x95_4).length c246_0) ∧ w'.cell? (ad247.add (x117_5).toNat) = some (.bool (rdOf false (rd_L1 l1_1 x95_4) x117_5))) (ds := []) (mB 27 0) (by kernel_rfl) rfl rfl ⟨(blk_cell BK232.out 0).trans rfl, (blk_cell BK232.out 1).trans rfl, (blk_cell BK212.out 0).trans rfl, (blk_cell BK212.out 1).trans rfl, (blk_cell BK213.out 0).trans rfl, (blk_cell BK213.out 1).trans rfl, hx242_0, hx243_0, ((HB.out.cell (World.block_lt_of_cell? w _ hw244_0)).trans hw244_0), ((HB.out.cell (World.block_lt_of_cell? w _ hw245_0)).trans hw245_0), ((HB.out.cell (World.block_lt_of_cell? w _ hw246_0)).trans hw246_0), ((HB.out.cell (World.block_lt_of_cell? w _ hw247_0)).trans hw247_0)⟩ (fun hHeld => ?_); refine with_tabW rillmeterlaw13_BitmapMerges.tab17 rillmeterlaw13_BitmapMerges.bits17 (fun HT_ HW_ => ?_)
                              generalize wr.drew = w145 at HO_223001 HO_224001 HO_233001 BK212 BK213 BK222 BK223 BK232 HR239_0 HR241_0 HB HL242_0 HR242_0 HR244_0 HR246_0 hx242_0 hx243_0 hx244_0 hx245_0 hx246_0 hx247_0 hHeld ⊢; refine pw_ 0 120 (v := ?_) (a' := ?_) (mB 27 1) rfl rfl HT_ (by kernel_rfl) (fun _ _ _ h => h) ?_ ?_ ?_; rotate_left
                              ·intro w'; go_simp; with_reducible rfl
                              rotate_left
                              ·simp only [Act.put, sa_, sb_, sc_, i64_w, i32_w]; rfl
                              refine pw_ 2 122 (v := ?_) (a' := ?_) (mB 27 5) rfl rfl HT_ (by kernel_rfl) (fun _ _ _ h => h) ?_ ?_ ?_; rotate_left
                              ·intro w'; go_simp; with_reducible rfl
                              rotate_left
                              ·simp only [Act.put, sa_, sb_, sc_, i64_w, i32_w]; rfl
                              refine pw_ 5 125 (v := ?_) (a' := ?_) (mB 27 37) rfl rfl HT_ (by kernel_rfl) (fun _ _ _ h => h) ?_ ?_ ?_; rotate_left
                              ·intro w'; go_simp; with_reducible rfl
                              rotate_left
                              ·simp only [Act.put, sa_, sb_, sc_, i64_w, i32_w]; rfl
                              refine pw_ 8 128 (v := ?_) (a' := ?_) (mB 27 293) rfl rfl HT_ (by kernel_rfl) (fun _ _ _ h => h) ?_ ?_ ?_; rotate_left
                              ·intro w'; go_simp; with_reducible rfl
                              rotate_left
                              ·simp only [Act.put, sa_, sb_, sc_, i64_w, i32_w]; rfl
                              refine pw_ 10 130 (v := ?_) (a' := ?_) (mB 27 1317) rfl rfl HT_ (by kernel_rfl) (fun _ _ _ h => h) ?_ ?_ ?_; rotate_left
                              ·intro w'; go_simp; with_reducible rfl
                              rotate_left
                              ·simp only [Act.put, sa_, sb_, sc_, i64_w, i32_w]; rfl
                              refine pw_ 13 133 (v := ?_) (a' := ?_) (mB 27 9509) rfl rfl HT_ (by kernel_rfl) (fun _ _ _ h => h) ?_ ?_ ?_; rotate_left
                              ·intro w'; go_simp; with_reducible rfl
                              rotate_left
                              ·simp only [Act.put, sa_, sb_, sc_, i64_w, i32_w]; rfl
                              refine take_ (i := 1) (N := some 121) (v := ?_) (a' := ?_) (mB 27 9511) rfl rfl (take_ofW HT_.out HW_.out (by kernel_rfl)) (fun _ _ _ h => h) (Or.inl ⟨by rfl, ?_⟩) hHeld ?_ ?_; rotate_left
                              ·rintro w' ⟨s0, s1, s2, s3, s4, s5, s6, s7, s8, s9, s10, s11⟩; go_simp; with_reducible rfl
                              rotate_left
                              ·simp only [Act.put, sa_, sb_, sc_, i64_w, i32_w]; rfl
                              refine pw_ 3 123 (v := ?_) (a' := ?_) (mB 27 9519) rfl rfl HT_ (by kernel_rfl) (fun _ _ _ h => h) ?_ ?_ ?_; rotate_left
                              ·intro w'; go_simp; with_reducible rfl
                              rotate_left
                              ·simp only [Act.put, sa_, sb_, sc_, i64_w, i32_w]; rfl
                              refine take_ (i := 4) (N := some 124) (v := ?_) (a' := ?_) (mB 27 9535) rfl rfl (take_ofW HT_.out HW_.out (by kernel_rfl)) (fun _ _ _ h => h) (Or.inl ⟨by rfl, ?_⟩) hHeld ?_ ?_; rotate_left
                              ·rintro w' ⟨s0, s1, s2, s3, s4, s5, s6, s7, s8, s9, s10, s11⟩; go_simp; with_reducible rfl
                              rotate_left
                              ·simp only [Act.put, sa_, sb_, sc_, i64_w, i32_w]; rfl
                              refine pw_ 6 126 (v := ?_) (a' := ?_) (mB 27 9599) rfl rfl HT_ (by kernel_rfl) (fun _ _ _ h => h) ?_ ?_ ?_; rotate_left
                              ·intro w'; go_simp; with_reducible rfl
                              rotate_left
                              ·simp only [Act.put, sa_, sb_, sc_, i64_w, i32_w]; rfl
                              refine take_ (i := 7) (N := some 127) (v := ?_) (a' := ?_) (mB 27 9727) rfl rfl (take_ofW HT_.out HW_.out (by kernel_rfl)) (fun _ _ _ h => h) (Or.inl ⟨by rfl, ?_⟩) hHeld ?_ ?_; rotate_left
                              ·rintro w' ⟨s0, s1, s2, s3, s4, s5, s6, s7, s8, s9, s10, s11⟩; go_simp; with_reducible rfl
                              rotate_left
                              ·simp only [Act.put, sa_, sb_, sc_, i64_w, i32_w]; rfl
                              refine take_ (i := 9) (N := some 129) (v := ?_) (a' := ?_) (mB 27 10239) rfl rfl (take_ofW HT_.out HW_.out (by kernel_rfl)) (fun _ _ _ h => h) (Or.inl ⟨by rfl, ?_⟩) hHeld ?_ ?_; rotate_left
                              ·rintro w' ⟨s0, s1, s2, s3, s4, s5, s6, s7, s8, s9, s10, s11⟩; go_simp; with_reducible rfl
                              rotate_left
                              ·simp only [Act.put, sa_, sb_, sc_, i64_w, i32_w]; rfl
                              refine pw_ 11 131 (v := ?_) (a' := ?_) (mB 27 12287) rfl rfl HT_ (by kernel_rfl) (fun _ _ _ h => h) ?_ ?_ ?_; rotate_left
                              ·intro w'; go_simp; with_reducible rfl
                              rotate_left
                              ·simp only [Act.put, sa_, sb_, sc_, i64_w, i32_w]; rfl
                              refine take_ (i := 12) (N := some 132) (v := ?_) (a' := ?_) (mB 27 16383) rfl rfl (take_ofW HT_.out HW_.out (by kernel_rfl)) (fun _ _ _ h => h) (Or.inl ⟨by rfl, ?_⟩) hHeld ?_ ?_; rotate_left
                              ·rintro w' ⟨s0, s1, s2, s3, s4, s5, s6, s7, s8, s9, s10, s11⟩; go_simp; with_reducible rfl
                              rotate_left
                              ·simp only [Act.put, sa_, sb_, sc_, i64_w, i32_w]; rfl
                              refine pw_ 14 134 (v := ?_) (a' := ?_) (mB 27 32767) rfl rfl HT_ (by kernel_rfl) (fun _ _ _ h => h) ?_ ?_ ?_; rotate_left
                              ·intro w'; go_simp; with_reducible rfl
                              rotate_left
                              ·simp only [Act.put, sa_, sb_, sc_, i64_w, i32_w]; rfl
                              refine take_ (i := 15) (N := some 135) (v := ?_) (a' := ?_) (mB 27 65535) rfl rfl (take_ofW HT_.out HW_.out (by kernel_rfl)) (fun _ _ _ h => h) (Or.inl ⟨by rfl, ?_⟩) hHeld ?_ ?_; rotate_left
                              ·rintro w' ⟨s0, s1, s2, s3, s4, s5, s6, s7, s8, s9, s10, s11⟩; go_simp; with_reducible rfl
                              rotate_left
                              ·simp only [Act.put, sa_, sb_, sc_, i64_w, i32_w]; rfl
                              refine pw_ 16 136 (v := ?_) (a' := ?_) (mB 27 131071) rfl rfl HT_ (by kernel_rfl) (fun _ _ _ h => h) ?_ ?_ ?_; rotate_left
                              ·intro w'; go_simp; with_reducible rfl
                              rotate_left
                              ·simp only [Act.put, sa_, sb_, sc_, i64_w, i32_w]; rfl
                              refine pw_ 17 137 (v := ?_) (a' := ?_) (mB 27 262143) rfl rfl HT_ (by kernel_rfl) (fun _ _ _ h => h) ?_ ?_ ?_; rotate_left
                              ·intro w'; go_simp; with_reducible rfl
                              rotate_left
                              ·simp only [Act.put, sa_, sb_, sc_, i64_w, i32_w]; rfl
                              refine pw_ 19 139 (v := ?_) (a' := ?_) (mB 27 786431) rfl rfl HT_ (by kernel_rfl) (fun _ _ _ h => h) ?_ ?_ ?_; rotate_left
                              ·intro w'; go_simp; with_reducible rfl
                              rotate_left
                              ·simp only [Act.put, sa_, sb_, sc_, i64_w, i32_w]; rfl
                              refine pw_ 22 142 (v := ?_) (a' := ?_) (mB 27 4980735) rfl rfl HT_ (by kernel_rfl) (fun _ _ _ h => h) ?_ ?_ ?_; rotate_left
                              ·intro w'; go_simp; with_reducible rfl
                              rotate_left
                              ·simp only [Act.put, sa_, sb_, sc_, i64_w, i32_w]; rfl
                              refine take_ (i := 18) (N := some 138) (v := ?_) (a' := ?_) (mB 27 5242879) rfl rfl (take_ofW HT_.out HW_.out (by kernel_rfl)) (fun _ _ _ h => h) (Or.inl ⟨by rfl, ?_⟩) hHeld ?_ ?_; rotate_left
                              ·rintro w' ⟨s0, s1, s2, s3, s4, s5, s6, s7, s8, s9, s10, s11⟩; go_simp; with_reducible rfl
                              rotate_left
                              ·simp only [Act.put, sa_, sb_, sc_, i64_w, i32_w]; rfl
                              refine pw_ 20 140 (v := ?_) (a' := ?_) (mB 27 6291455) rfl rfl HT_ (by kernel_rfl) (fun _ _ _ h => h) ?_ ?_ ?_; rotate_left
                              ·intro w'; go_simp; with_reducible rfl
                              rotate_left
                              ·simp only [Act.put, sa_, sb_, sc_, i64_w, i32_w]; rfl
                              refine take_ (i := 21) (N := some 141) (v := ?_) (a' := ?_) (mB 27 8388607) rfl rfl (take_ofW HT_.out HW_.out (by kernel_rfl)) (fun _ _ _ h => h) (Or.inl ⟨by rfl, ?_⟩) hHeld ?_ ?_; rotate_left
                              ·rintro w' ⟨s0, s1, s2, s3, s4, s5, s6, s7, s8, s9, s10, s11⟩; go_simp; with_reducible rfl
                              rotate_left
                              ·simp only [Act.put, sa_, sb_, sc_, i64_w, i32_w]; rfl
                              refine pw_ 23 143 (v := ?_) (a' := ?_) (mB 27 16777215) rfl rfl HT_ (by kernel_rfl) (fun _ _ _ h => h) ?_ ?_ ?_; rotate_left
                              ·intro w'; go_simp; with_reducible rfl
                              rotate_left
                              ·simp only [Act.put, sa_, sb_, sc_, i64_w, i32_w]; rfl
                              refine take_ (i := 24) (N := some 144) (v := ?_) (a' := ?_) (mB 27 33554431) rfl rfl (take_ofW HT_.out HW_.out (by kernel_rfl)) (fun _ _ _ h => h) (Or.inl ⟨by rfl, ?_⟩) hHeld ?_ ?_; rotate_left
                              ·rintro w' ⟨s0, s1, s2, s3, s4, s5, s6, s7, s8, s9, s10, s11⟩; go_simp; with_reducible rfl
                              rotate_left
                              ·simp only [Act.put, sa_, sb_, sc_, i64_w, i32_w]; rfl
                              refine pw_ 25 145 (v := ?_) (a' := ?_) (mB 27 67108863) rfl rfl HT_ (by kernel_rfl) (fun _ _ _ h => h) ?_ ?_ ?_; rotate_left
                              ·intro w'; go_simp; with_reducible rfl
                              rotate_left
                              ·simp only [Act.put, sa_, sb_, sc_, i64_w, i32_w]; rfl
                              refine pw_ 26 146 (v := ?_) (a' := ?_) (mB 27 134217727) rfl rfl HT_ (by kernel_rfl) (fun _ _ _ h => h) ?_ ?_ ?_; rotate_left
                              ·intro w'; go_simp; with_reducible rfl
                              rotate_left
                              ·simp only [Act.put, sa_, sb_, sc_, i64_w, i32_w]; rfl
                              refine done_ (done_of HT_.out (by kernel_rfl)) ?_
                              try go_wp2
                              go_roundg k5
                              case measure => have := HJ4.out; have := HJ40.out; have := HJ93.out; have := HK4.out; have := HK5.out; omega
                              case rel => exact ⟨(wrap64 (x117_5 + 1)), (by first | rfl | (simp; done) | (simp [*]; done)), H', ⟨by have := HJ4.out; have := HJ40.out; have := HJ93.out; have := HK4.out; have := HK5.out; omega⟩, ⟨by (with_reducible repeat (first | apply Kd.V_alloc | apply Kd.V_drewN | apply Kd.V_drew)); exact HO_223001.out⟩, ⟨by (with_reducible repeat (first | apply Kd.V_alloc | apply Kd.V_drewN | apply Kd.V_drew)); exact HO_224001.out⟩, ⟨by (with_reducible repeat (first | apply Kd.S_alloc | apply Kd.S_drewN | apply Kd.S_drew)); exact HO_233001.out⟩, ⟨bk_ BK212⟩, ⟨bk_ BK213⟩, ⟨bk_ BK222⟩, ⟨bk_ BK223⟩, ⟨bk_ BK232⟩, ⟨by repeat (first | (with_reducible exact HR239_0.out) | (with_reducible refine Kd.C_alloc ?_ _) | (with_reducible refine Kd.C_drewN ?_ _) | (with_reducible refine Kd.C_drew ?_) | exact HR239_0.out)⟩, ⟨by repeat (first | (with_reducible exact HR241_0.out) | (with_reducible refine Kd.C_alloc ?_ _) | (with_reducible refine Kd.C_drewN ?_ _) | (with_reducible refine Kd.C_drew ?_) | exact HR241_0.out)⟩, ⟨bl_ HB⟩⟩
                            ·rw [if_neg c143] at H; exact absurd H (by simp)
                           ·rw [if_neg c142] at H; exact absurd H (by simp)
                         ·rw [if_neg c137] at H; exact absurd H (by simp)
                        ·rw [if_neg c136] at H; exact absurd H (by simp)
                       ·rw [if_neg c135] at H; exact absurd H (by simp)
                      ·rw [if_neg c134] at H; exact absurd H (by simp)
                     ·rw [if_neg c133] at H; exact absurd H (by simp)
                    ·rw [if_neg c132] at H; exact absurd H (by simp)
                   ·rw [if_neg c131] at H; have c131b0 : decide (x117_5 < ((rd_L1 t228 x95_4).length : Int)) = false := decide_eq_false c131; clear c131; have H' := Aside0.mk H; clear H
                    go_wp2
                    go_roundg k5
                    case measure => have := HJ4.out; have := HJ40.out; have := HJ93.out; have := HK4.out; have := HK5.out; omega
                    case rel => exact ⟨(wrap64 (x95_4 + 1)), (by first | rfl | (simp; done) | (simp [*]; done)), H', ⟨by have := HJ4.out; have := HJ40.out; have := HJ93.out; have := HK4.out; have := HK5.out; omega⟩, ⟨by (with_reducible repeat (first | apply Kd.V_alloc | apply Kd.V_drewN | apply Kd.V_drew)); exact HO_223001.out⟩, ⟨by (with_reducible repeat (first | apply Kd.V_alloc | apply Kd.V_drewN | apply Kd.V_drew)); exact HO_224001.out⟩, ⟨by (with_reducible repeat (first | apply Kd.S_alloc | apply Kd.S_drewN | apply Kd.S_drew)); exact HO_233001.out⟩, ⟨bk_ BK212⟩, ⟨bk_ BK213⟩, ⟨bk_ BK222⟩, ⟨bk_ BK223⟩, ⟨bk_ BK232⟩, ⟨bl_ HB⟩⟩
                ·rw [if_neg c124] at H; have c124b0 : (((rd_L1 t228 x95_4).length : Int) == ((rd_L1 l0_1 x95_4).length : Int)) = false := beq_eq_false_iff_ne.mpr c124; have c124b1 : (((rd_L1 t228 x95_4).length : Int) != ((rd_L1 l0_1 x95_4).length : Int)) = true := bne_iff_ne.mpr c124
                 have c124b2 : ((rd_L1 t228 x95_4).length == (rd_L1 l0_1 x95_4).length) = false := by first | simpa using c124 | (simp at c124 ⊢; omega)
                 exact absurd ((Option.some.inj H).trans hrt.out) (by decide)
               ·rw [if_neg c123] at H; exact absurd H (by simp)
              ·rw [if_neg c122] at H; exact absurd H (by simp)
             ·rw [if_neg c121] at H; exact absurd H (by simp)
            ·rw [if_neg c120] at H; have c120b0 : decide (x95_4 < (t228.length : Int)) = false := decide_eq_false c120; clear c120
             by_cases c146 : t231 = 0
             ·rw [if_pos c146] at H; have c146b0 : (t231 == 0) = true := beq_iff_eq.mpr c146; have c146b1 : (t231 != 0) = false := bne_eq_false_iff_eq.mpr c146; clear c146; replace H := Option.bind_eq_some_iff.mp H; obtain ⟨t238, A1470, H⟩ := H; replace H : (some t238) = some r := H; have A147 := Aside0.mk A1470; clear A1470; obtain rfl := Option.some.inj H
              go_wp2_with (first | (go_at_call 11; (with_reducible refine (rillmeterlaw13_awake.calls k4  t238 _ A147.out ⟨tb_ HT0 HB⟩).mono ?_); rintro e w148 ⟨rfl, hb⟩; have n0_ := Aside0.mk (Kd.V_below (vk_ HO_223001) hb); have n1_ := Aside0.mk (Kd.V_below (vk_ HO_224001) hb); have n2_ := Aside0.mk (Kd.S_below (sk_ HO_233001) hb); have n3_ := Aside0.mk (blk_below (bk_ BK212) hb); have n4_ := Aside0.mk (blk_below (bk_ BK213) hb); have n5_ := Aside0.mk (blk_below (bk_ BK222) hb); have n6_ := Aside0.mk (blk_below (bk_ BK223) hb); have n7_ := Aside0.mk (blk_below (bk_ BK232) hb); have n8_ := Aside0.mk (below_step (bl_ HB) hb); clear HO_223001; clear HO_224001; clear HO_233001; clear BK212; clear BK213; clear BK222; clear BK223; clear BK232; clear HB; have HO_223001 := n0_; have HO_224001 := n1_; have HO_233001 := n2_; have BK212 := n3_; have BK213 := n4_; have BK222 := n5_; have BK223 := n6_; have BK232 := n7_; have HB := n8_; clear n0_ n1_ n2_ n3_ n4_ n5_ n6_ n7_ n8_; (try clear hb); (try clear hb2); (try clear hk); (try clear hi)))
              go_ret; exact ⟨by first | rfl | (simp [errW_none, errW_some] <;> rfl) | (simp [*, errW_none, errW_some] <;> rfl), bl_ HB⟩
             ·rw [if_neg c146] at H; have c146b0 : (t231 == 0) = false := beq_eq_false_iff_ne.mpr c146; have c146b1 : (t231 != 0) = true := bne_iff_ne.mpr c146; exact absurd ((Option.some.inj H).trans hrt.out) (by decide)

end Go.Proofs.YteakbghjhckoeaaDoor.PBitmapMerges
