/- The functions that a law uses, each as a plain function, with the proof that a call of the Go function comes to its answer. Condition of each: the arguments read as the data that it names, and the plain function has an answer. Written by a program of this session (standin.py). -/
import Derived.Test.YtljmjjeghebdpaaPElasticFewx0
import Derived.Test.YtljmjjeghebdpaaPElasticFewx8
import Derived.Test.YtljmjjeghebdpaaPElasticFewx10
import Derived.Test.YtljmjjeghebdpaaPElasticFewx11
import Derived.Test.YtljmjjeghebdpaaPElasticFewx12
import Derived.Test.YtljmjjeghebdpaaShort
import Derived.Lib.SliceRun
import Derived.Test.YtljmjjeghebdpaaPressMore
namespace Go.Proofs.Ytljmjjeghebdpaa.PElasticFew
open Go.RowKit Go.Proofs.YtljmjjeghebdpaaW.PrintWords Go.Proofs.YtljmjjeghebdpaaW.PrintLast Go.Proofs.YtljmjjeghebdpaaW.PrintMore Go.Proofs.Ytljmjjeghebdpaa.Short Go.Proofs.Ytljmjjeghebdpaa.Press Go.Proofs.Ytljmjjeghebdpaa.PressMore
attribute [local go_sem] max2_int min2_int max_two min_two max_three min_three max_four min_four   -- for this text's walks alone
set_option linter.unusedVariables false
set_option linter.unusedSimpArgs false

/-! ### rillmeterlaw15_ElasticFew: function 7 -/
mutual
def rillmeterlaw15_ElasticFew.j0 : Nat → List ByteArray → Bool → Int → Int → Int → Int → Int → Int → Int → Int → Int → List (S56) → Int → Int → List (List Int) → Option (Bool)
  | 0, _, _, _, _, _, _, _, _, _, _, _, _, _, _, _ => none
  | k + 1, x1, x39, x400000, x400001, x400002, x400003, x400004, x400005, x413000, x413001, x413002, x413003, x413004, x413005, x413006 => if x39 = true then ((rillmeterlaw15_awake.f k).bind fun t413 => (some t413)) else (if 0 ≤ x400001 then (if (x400001 : Int).toNat ≤ 35184372088832 then (rillmeterlaw15_ElasticFew.l0 k x1 (List.replicate (x400001 : Int).toNat 0) x1 (x1.length : Int) 0 x400000 x400001 x400002 x400003 x400004 x400005 x413000 x413001 x413002 x413003 x413004 x413005 x413006) else (none)) else (none))
def rillmeterlaw15_ElasticFew.l0 : Nat → List ByteArray → List Int → List ByteArray → Int → Int → Int → Int → Int → Int → Int → Int → Int → Int → Int → List (S56) → Int → Int → List (List Int) → Option (Bool)
  | 0, _, _, _, _, _, _, _, _, _, _, _, _, _, _, _, _, _, _ => none
  | k + 1, x1, x7, x44, x45, x46, x400000, x400001, x400002, x400003, x400004, x400005, x413000, x413001, x413002, x413003, x413004, x413005, x413006 => if x46 < x45 then (if 0 ≤ x46 then (if x46 < (x44.length : Int) then (if x46 ≤ (x1.length : Int) then ((rillmeterlaw15_many.f k (x1.take (x46 : Int).toNat) (rdOf ByteArray.empty x44 x46)).bind fun t419 => (if t419 = 0 then (if 0 ≤ x400001 then (if (x400001 : Int).toNat ≤ 8796093022208 then ((rillmeterref15_Place.f k x400000 0 0 (List.replicate (x400001 : Int).toNat z74) 0 0 ([] : List (List Int)) (rdOf ByteArray.empty x44 x46)).bind fun t423 => (if 0 ≤ t423 then (if t423 < (x7.length : Int) then ((some (x7.set (t423 : Int).toNat (wrap64 ((rd x7 t423) + 1)) : List Int)).bind fun y425 => (if (rd y425 t423) > x400002 then ((rillmeterlaw15_awake.f k).bind fun t427 => (some t427)) else (rillmeterlaw15_ElasticFew.l0 k x1 y425 x44 x45 (wrap64 (x46 + 1)) x400000 x400001 x400002 x400003 x400004 x400005 x413000 x413001 x413002 x413003 x413004 x413005 x413006))) else (none)) else (none))) else (none)) else (none)) else (rillmeterlaw15_ElasticFew.l0 k x1 x7 x44 x45 (wrap64 (x46 + 1)) x400000 x400001 x400002 x400003 x400004 x400005 x413000 x413001 x413002 x413003 x413004 x413005 x413006))) else (none)) else (none)) else (none)) else (rillmeterlaw15_ElasticFew.l1 k x1 x1 (x1.length : Int) 0 x413000 x413001 x413002 x413003 x413004 x413005 x413006)
def rillmeterlaw15_ElasticFew.l1 : Nat → List ByteArray → List ByteArray → Int → Int → Int → Int → Int → List (S56) → Int → Int → List (List Int) → Option (Bool)
  | 0, _, _, _, _, _, _, _, _, _, _, _ => none
  | k + 1, x1, x80, x81, x82, x413000, x413001, x413002, x413003, x413004, x413005, x413006 => if x82 < x81 then (if 0 ≤ x82 then (if x82 < (x80.length : Int) then ((elastic_Get.f k x413000 x413001 x413002 x413003 x413004 x413005 x413006 (rdOf ByteArray.empty x80 x82)).bind fun bt429 => ((rillmeterlaw15_many.f k x1 (rdOf ByteArray.empty x80 x82)).bind fun t433 => (if bt429.1 = t433 then (if bt429.2.1 = t433 then (if bt429.2.2.1 = true then (if bt429.2.2.2 = true then (some false) else (rillmeterlaw15_ElasticFew.l1 k x1 x80 x81 (wrap64 (x82 + 1)) x413000 x413001 x413002 x413003 x413004 x413005 x413006)) else (some false)) else (some false)) else (some false)))) else (none)) else (none)) else (rillmeterlaw15_ElasticFew.l2 k x413006 (x413006.length : Int) 0)
def rillmeterlaw15_ElasticFew.l2 : Nat → List (List Int) → Int → Int → Option (Bool)
  | 0, _, _, _ => none
  | k + 1, x115, x116, x117 => if x117 < x116 then (if 0 ≤ x117 then (if x117 < (x115.length : Int) then (rillmeterlaw15_ElasticFew.l3 k x115 x116 x117 (rd_L1 x115 x117) ((rd_L1 x115 x117).length : Int) 0) else (none)) else (none)) else ((rillmeterlaw15_awake.f k).bind fun t434 => (some t434))
def rillmeterlaw15_ElasticFew.l3 : Nat → List (List Int) → Int → Int → List Int → Int → Int → Option (Bool)
  | 0, _, _, _, _, _, _ => none
  | k + 1, x115, x116, x117, x121, x122, x123 => if x123 < x122 then (if 0 ≤ x123 then (if x123 < (x121.length : Int) then (if (rd x121 x123) = 0 then (rillmeterlaw15_ElasticFew.l3 k x115 x116 x117 x121 x122 (wrap64 (x123 + 1))) else (some false)) else (none)) else (none)) else (rillmeterlaw15_ElasticFew.l2 k x115 x116 (wrap64 (x117 + 1)))
end
def rillmeterlaw15_ElasticFew.f (k : Nat) (a0_0 : Int) (a0_1 : Int) (a0_2 : Int) (a0_3 : Int) (a0_4 : Int) (a0_5 : Int) (l1 : List ByteArray) : Option (Bool) := (rillmeterlaw15_fed.f k a0_0 a0_1 a0_2 a0_3 a0_4 a0_5 l1).bind fun bt400 => (if bt400.2.2.2.2.2.2.2 = true then (if a0_1 < 1 then (rillmeterlaw15_ElasticFew.j0 k l1 true a0_0 a0_1 a0_2 a0_3 a0_4 a0_5 bt400.1 bt400.2.1 bt400.2.2.1 bt400.2.2.2.1 bt400.2.2.2.2.1 bt400.2.2.2.2.2.1 bt400.2.2.2.2.2.2.1) else (rillmeterlaw15_ElasticFew.j0 k l1 (decide (a0_1 > 256)) a0_0 a0_1 a0_2 a0_3 a0_4 a0_5 bt400.1 bt400.2.1 bt400.2.2.1 bt400.2.2.2.1 bt400.2.2.2.2.1 bt400.2.2.2.2.2.1 bt400.2.2.2.2.2.2.1)) else (rillmeterlaw15_ElasticFew.j0 k l1 true a0_0 a0_1 a0_2 a0_3 a0_4 a0_5 bt400.1 bt400.2.1 bt400.2.2.1 bt400.2.2.2.1 bt400.2.2.2.2.1 bt400.2.2.2.2.2.1 bt400.2.2.2.2.2.2.1))
theorem rillmeterlaw15_ElasticFew.mono_l : ∀ k, (∀ y0 y1 y2 y3 y4 y5 y6 y7 y8 y9 y10 y11 y12 y13 y14, LeO (rillmeterlaw15_ElasticFew.j0 k y0 y1 y2 y3 y4 y5 y6 y7 y8 y9 y10 y11 y12 y13 y14) (rillmeterlaw15_ElasticFew.j0 (k + 1) y0 y1 y2 y3 y4 y5 y6 y7 y8 y9 y10 y11 y12 y13 y14)) ∧ (∀ y0 y1 y2 y3 y4 y5 y6 y7 y8 y9 y10 y11 y12 y13 y14 y15 y16 y17, LeO (rillmeterlaw15_ElasticFew.l0 k y0 y1 y2 y3 y4 y5 y6 y7 y8 y9 y10 y11 y12 y13 y14 y15 y16 y17) (rillmeterlaw15_ElasticFew.l0 (k + 1) y0 y1 y2 y3 y4 y5 y6 y7 y8 y9 y10 y11 y12 y13 y14 y15 y16 y17)) ∧ (∀ y0 y1 y2 y3 y4 y5 y6 y7 y8 y9 y10, LeO (rillmeterlaw15_ElasticFew.l1 k y0 y1 y2 y3 y4 y5 y6 y7 y8 y9 y10) (rillmeterlaw15_ElasticFew.l1 (k + 1) y0 y1 y2 y3 y4 y5 y6 y7 y8 y9 y10)) ∧ (∀ y0 y1 y2, LeO (rillmeterlaw15_ElasticFew.l2 k y0 y1 y2) (rillmeterlaw15_ElasticFew.l2 (k + 1) y0 y1 y2)) ∧ (∀ y0 y1 y2 y3 y4 y5, LeO (rillmeterlaw15_ElasticFew.l3 k y0 y1 y2 y3 y4 y5) (rillmeterlaw15_ElasticFew.l3 (k + 1) y0 y1 y2 y3 y4 y5))
  | 0 => ⟨fun _ _ _ _ _ _ _ _ _ _ _ _ _ _ _ r h => by simp [rillmeterlaw15_ElasticFew.j0] at h, fun _ _ _ _ _ _ _ _ _ _ _ _ _ _ _ _ _ _ r h => by simp [rillmeterlaw15_ElasticFew.l0] at h, fun _ _ _ _ _ _ _ _ _ _ _ r h => by simp [rillmeterlaw15_ElasticFew.l1] at h, fun _ _ _ r h => by simp [rillmeterlaw15_ElasticFew.l2] at h, fun _ _ _ _ _ _ r h => by simp [rillmeterlaw15_ElasticFew.l3] at h⟩
  | k + 1 => by
    obtain ⟨ih0, ih1, ih2, ih3, ih4⟩ := rillmeterlaw15_ElasticFew.mono_l k
    refine ⟨?_, ?_, ?_, ?_, ?_⟩
    · intro y0 y1 y2 y3 y4 y5 y6 y7 y8 y9 y10 y11 y12 y13 y14
      unfold rillmeterlaw15_ElasticFew.j0
      repeat' first
      | (with_reducible exact ih0 _ _ _ _ _ _ _ _ _ _ _ _ _ _ _)
      | (with_reducible exact ih1 _ _ _ _ _ _ _ _ _ _ _ _ _ _ _ _ _ _)
      | (with_reducible exact ih2 _ _ _ _ _ _ _ _ _ _ _)
      | (with_reducible exact ih3 _ _ _)
      | (with_reducible exact ih4 _ _ _ _ _ _)
      | (with_reducible exact elastic_Get.mono _ _ _ _ _ _ _ _ _)
      | (with_reducible exact rillmeterlaw15_awake.mono _)
      | (with_reducible exact rillmeterlaw15_fed.mono _ _ _ _ _ _ _ _)
      | (with_reducible exact rillmeterlaw15_many.mono _ _ _)
      | (with_reducible exact rillmeterref15_Place.mono _ _ _ _ _ _ _ _ _)
      | (with_reducible exact LeO.refl _)
      | (with_reducible exact LeO.none _)
      | (with_reducible refine LeO.ite ?_ ?_)
      | (with_reducible refine LeO.bind ?_ (fun _ => ?_))
      | exact ih0 _ _ _ _ _ _ _ _ _ _ _ _ _ _ _
      | exact ih1 _ _ _ _ _ _ _ _ _ _ _ _ _ _ _ _ _ _
      | exact ih2 _ _ _ _ _ _ _ _ _ _ _
      | exact ih3 _ _ _
      | exact ih4 _ _ _ _ _ _
      | exact elastic_Get.mono _ _ _ _ _ _ _ _ _
      | exact rillmeterlaw15_awake.mono _
      | exact rillmeterlaw15_fed.mono _ _ _ _ _ _ _ _
      | exact rillmeterlaw15_many.mono _ _ _
      | exact rillmeterref15_Place.mono _ _ _ _ _ _ _ _ _
      | exact LeO.none _
      | refine LeO.ite ?_ ?_
      | refine LeO.bind ?_ (fun _ => ?_)
    · intro y0 y1 y2 y3 y4 y5 y6 y7 y8 y9 y10 y11 y12 y13 y14 y15 y16 y17
      unfold rillmeterlaw15_ElasticFew.l0
      repeat' first
      | (with_reducible exact ih0 _ _ _ _ _ _ _ _ _ _ _ _ _ _ _)
      | (with_reducible exact ih1 _ _ _ _ _ _ _ _ _ _ _ _ _ _ _ _ _ _)
      | (with_reducible exact ih2 _ _ _ _ _ _ _ _ _ _ _)
      | (with_reducible exact ih3 _ _ _)
      | (with_reducible exact ih4 _ _ _ _ _ _)
      | (with_reducible exact elastic_Get.mono _ _ _ _ _ _ _ _ _)
      | (with_reducible exact rillmeterlaw15_awake.mono _)
      | (with_reducible exact rillmeterlaw15_fed.mono _ _ _ _ _ _ _ _)
      | (with_reducible exact rillmeterlaw15_many.mono _ _ _)
      | (with_reducible exact rillmeterref15_Place.mono _ _ _ _ _ _ _ _ _)
      | (with_reducible exact LeO.refl _)
      | (with_reducible exact LeO.none _)
      | (with_reducible refine LeO.ite ?_ ?_)
      | (with_reducible refine LeO.bind ?_ (fun _ => ?_))
      | exact ih0 _ _ _ _ _ _ _ _ _ _ _ _ _ _ _
      | exact ih1 _ _ _ _ _ _ _ _ _ _ _ _ _ _ _ _ _ _
      | exact ih2 _ _ _ _ _ _ _ _ _ _ _
      | exact ih3 _ _ _
      | exact ih4 _ _ _ _ _ _
      | exact elastic_Get.mono _ _ _ _ _ _ _ _ _
      | exact rillmeterlaw15_awake.mono _
      | exact rillmeterlaw15_fed.mono _ _ _ _ _ _ _ _
      | exact rillmeterlaw15_many.mono _ _ _
      | exact rillmeterref15_Place.mono _ _ _ _ _ _ _ _ _
      | exact LeO.none _
      | refine LeO.ite ?_ ?_
      | refine LeO.bind ?_ (fun _ => ?_)
    · intro y0 y1 y2 y3 y4 y5 y6 y7 y8 y9 y10
      unfold rillmeterlaw15_ElasticFew.l1
      repeat' first
      | (with_reducible exact ih0 _ _ _ _ _ _ _ _ _ _ _ _ _ _ _)
      | (with_reducible exact ih1 _ _ _ _ _ _ _ _ _ _ _ _ _ _ _ _ _ _)
      | (with_reducible exact ih2 _ _ _ _ _ _ _ _ _ _ _)
      | (with_reducible exact ih3 _ _ _)
      | (with_reducible exact ih4 _ _ _ _ _ _)
      | (with_reducible exact elastic_Get.mono _ _ _ _ _ _ _ _ _)
      | (with_reducible exact rillmeterlaw15_awake.mono _)
      | (with_reducible exact rillmeterlaw15_fed.mono _ _ _ _ _ _ _ _)
      | (with_reducible exact rillmeterlaw15_many.mono _ _ _)
      | (with_reducible exact rillmeterref15_Place.mono _ _ _ _ _ _ _ _ _)
      | (with_reducible exact LeO.refl _)
      | (with_reducible exact LeO.none _)
      | (with_reducible refine LeO.ite ?_ ?_)
      | (with_reducible refine LeO.bind ?_ (fun _ => ?_))
      | exact ih0 _ _ _ _ _ _ _ _ _ _ _ _ _ _ _
      | exact ih1 _ _ _ _ _ _ _ _ _ _ _ _ _ _ _ _ _ _
      | exact ih2 _ _ _ _ _ _ _ _ _ _ _
      | exact ih3 _ _ _
      | exact ih4 _ _ _ _ _ _
      | exact elastic_Get.mono _ _ _ _ _ _ _ _ _
      | exact rillmeterlaw15_awake.mono _
      | exact rillmeterlaw15_fed.mono _ _ _ _ _ _ _ _
      | exact rillmeterlaw15_many.mono _ _ _
      | exact rillmeterref15_Place.mono _ _ _ _ _ _ _ _ _
      | exact LeO.none _
      | refine LeO.ite ?_ ?_
      | refine LeO.bind ?_ (fun _ => ?_)
    · intro y0 y1 y2
      unfold rillmeterlaw15_ElasticFew.l2
      repeat' first
      | (with_reducible exact ih0 _ _ _ _ _ _ _ _ _ _ _ _ _ _ _)
      | (with_reducible exact ih1 _ _ _ _ _ _ _ _ _ _ _ _ _ _ _ _ _ _)
      | (with_reducible exact ih2 _ _ _ _ _ _ _ _ _ _ _)
      | (with_reducible exact ih3 _ _ _)
      | (with_reducible exact ih4 _ _ _ _ _ _)
      | (with_reducible exact elastic_Get.mono _ _ _ _ _ _ _ _ _)
      | (with_reducible exact rillmeterlaw15_awake.mono _)
      | (with_reducible exact rillmeterlaw15_fed.mono _ _ _ _ _ _ _ _)
      | (with_reducible exact rillmeterlaw15_many.mono _ _ _)
      | (with_reducible exact rillmeterref15_Place.mono _ _ _ _ _ _ _ _ _)
      | (with_reducible exact LeO.refl _)
      | (with_reducible exact LeO.none _)
      | (with_reducible refine LeO.ite ?_ ?_)
      | (with_reducible refine LeO.bind ?_ (fun _ => ?_))
      | exact ih0 _ _ _ _ _ _ _ _ _ _ _ _ _ _ _
      | exact ih1 _ _ _ _ _ _ _ _ _ _ _ _ _ _ _ _ _ _
      | exact ih2 _ _ _ _ _ _ _ _ _ _ _
      | exact ih3 _ _ _
      | exact ih4 _ _ _ _ _ _
      | exact elastic_Get.mono _ _ _ _ _ _ _ _ _
      | exact rillmeterlaw15_awake.mono _
      | exact rillmeterlaw15_fed.mono _ _ _ _ _ _ _ _
      | exact rillmeterlaw15_many.mono _ _ _
      | exact rillmeterref15_Place.mono _ _ _ _ _ _ _ _ _
      | exact LeO.none _
      | refine LeO.ite ?_ ?_
      | refine LeO.bind ?_ (fun _ => ?_)
    · intro y0 y1 y2 y3 y4 y5
      unfold rillmeterlaw15_ElasticFew.l3
      repeat' first
      | (with_reducible exact ih0 _ _ _ _ _ _ _ _ _ _ _ _ _ _ _)
      | (with_reducible exact ih1 _ _ _ _ _ _ _ _ _ _ _ _ _ _ _ _ _ _)
      | (with_reducible exact ih2 _ _ _ _ _ _ _ _ _ _ _)
      | (with_reducible exact ih3 _ _ _)
      | (with_reducible exact ih4 _ _ _ _ _ _)
      | (with_reducible exact elastic_Get.mono _ _ _ _ _ _ _ _ _)
      | (with_reducible exact rillmeterlaw15_awake.mono _)
      | (with_reducible exact rillmeterlaw15_fed.mono _ _ _ _ _ _ _ _)
      | (with_reducible exact rillmeterlaw15_many.mono _ _ _)
      | (with_reducible exact rillmeterref15_Place.mono _ _ _ _ _ _ _ _ _)
      | (with_reducible exact LeO.refl _)
      | (with_reducible exact LeO.none _)
      | (with_reducible refine LeO.ite ?_ ?_)
      | (with_reducible refine LeO.bind ?_ (fun _ => ?_))
      | exact ih0 _ _ _ _ _ _ _ _ _ _ _ _ _ _ _
      | exact ih1 _ _ _ _ _ _ _ _ _ _ _ _ _ _ _ _ _ _
      | exact ih2 _ _ _ _ _ _ _ _ _ _ _
      | exact ih3 _ _ _
      | exact ih4 _ _ _ _ _ _
      | exact elastic_Get.mono _ _ _ _ _ _ _ _ _
      | exact rillmeterlaw15_awake.mono _
      | exact rillmeterlaw15_fed.mono _ _ _ _ _ _ _ _
      | exact rillmeterlaw15_many.mono _ _ _
      | exact rillmeterref15_Place.mono _ _ _ _ _ _ _ _ _
      | exact LeO.none _
      | refine LeO.ite ?_ ?_
      | refine LeO.bind ?_ (fun _ => ?_)
theorem rillmeterlaw15_ElasticFew.mono : ∀ a0 a1 a2 a3 a4 a5 a6 k, LeO (rillmeterlaw15_ElasticFew.f k a0 a1 a2 a3 a4 a5 a6) (rillmeterlaw15_ElasticFew.f (k + 1) a0 a1 a2 a3 a4 a5 a6) := by
  intro a0 a1 a2 a3 a4 a5 a6 k
  obtain ⟨ih0, ih1, ih2, ih3, ih4⟩ := rillmeterlaw15_ElasticFew.mono_l k
  unfold rillmeterlaw15_ElasticFew.f
  repeat' first
      | (with_reducible exact ih0 _ _ _ _ _ _ _ _ _ _ _ _ _ _ _)
      | (with_reducible exact ih1 _ _ _ _ _ _ _ _ _ _ _ _ _ _ _ _ _ _)
      | (with_reducible exact ih2 _ _ _ _ _ _ _ _ _ _ _)
      | (with_reducible exact ih3 _ _ _)
      | (with_reducible exact ih4 _ _ _ _ _ _)
      | (with_reducible exact elastic_Get.mono _ _ _ _ _ _ _ _ _)
      | (with_reducible exact rillmeterlaw15_awake.mono _)
      | (with_reducible exact rillmeterlaw15_fed.mono _ _ _ _ _ _ _ _)
      | (with_reducible exact rillmeterlaw15_many.mono _ _ _)
      | (with_reducible exact rillmeterref15_Place.mono _ _ _ _ _ _ _ _ _)
      | (with_reducible exact LeO.refl _)
      | (with_reducible exact LeO.none _)
      | (with_reducible refine LeO.ite ?_ ?_)
      | (with_reducible refine LeO.bind ?_ (fun _ => ?_))
      | exact ih0 _ _ _ _ _ _ _ _ _ _ _ _ _ _ _
      | exact ih1 _ _ _ _ _ _ _ _ _ _ _ _ _ _ _ _ _ _
      | exact ih2 _ _ _ _ _ _ _ _ _ _ _
      | exact ih3 _ _ _
      | exact ih4 _ _ _ _ _ _
      | exact elastic_Get.mono _ _ _ _ _ _ _ _ _
      | exact rillmeterlaw15_awake.mono _
      | exact rillmeterlaw15_fed.mono _ _ _ _ _ _ _ _
      | exact rillmeterlaw15_many.mono _ _ _
      | exact rillmeterref15_Place.mono _ _ _ _ _ _ _ _ _
      | exact LeO.none _
      | refine LeO.ite ?_ ?_
      | refine LeO.bind ?_ (fun _ => ?_)
def rillmeterlaw15_ElasticFew.T9 : Bool × List (List Nat × List Nat) := (true, [([], []), ([0], [0]), ([], []), ([2], [2]), ([3, 3], [3]), ([1, 4], [1, 4]), ([], []), ([5, 6], [5, 6]), ([7, 7, 0, 1, 2, 3, 4, 5, 6, 7], [7])])
def rillmeterlaw15_ElasticFew.B9 : List Nat := [0, 1, 0, 4, 12, 31, 0, 127, 255]
theorem rillmeterlaw15_ElasticFew.tab9 : rtab .any (opsOf Try.f7 9) = rillmeterlaw15_ElasticFew.T9 := by kernel_rfl
theorem rillmeterlaw15_ElasticFew.bits9 : waitsOk rillmeterlaw15_ElasticFew.T9.2 rillmeterlaw15_ElasticFew.B9 = true := by kernel_rfl
set_option maxHeartbeats 80000000 in
set_option maxRecDepth 100000 in
theorem rillmeterlaw15_ElasticFew.calls (k : Nat) (a0_0 : Int) (a0_1 : Int) (a0_2 : Int) (a0_3 : Int) (a0_4 : Int) (a0_5 : Int) (A1 : Option Addr) (c1 : Nat) (l1 : List ByteArray) (r : Bool) (w : World) (hr1 : Kd.C Kd.string w A1 l1.length l1) (hc1 : l1.length ≤ c1) (h : rillmeterlaw15_ElasticFew.f k a0_0 a0_1 a0_2 a0_3 a0_4 a0_5 l1 = some r) (hrt : Aside0 (r = true)) :
    Calls Try.prog 7 #[.agg #[.int .u64 a0_0, .int .i64 a0_1, .int .i64 a0_2, .int .i64 a0_3, .int .i64 a0_4, .int .i64 a0_5], .slice A1 l1.length c1] w fun e w' => e = .returned (.bool r) ∧ Below w.heap.size w w' := by
 have hu60 := Try.underlying60; have hu28 := Try.underlying28; have hu32 := Try.underlying32; have HR1 := mk_ hr1; have HC1 := mk_ hc1; clear hr1 hc1; have HB := mk_ (Below.refl w.heap.size w); have H : ((rillmeterlaw15_fed.f k a0_0 a0_1 a0_2 a0_3 a0_4 a0_5 l1).bind fun bt400 => (if bt400.2.2.2.2.2.2.2 = true then (if a0_1 < 1 then (rillmeterlaw15_ElasticFew.j0 k l1 true a0_0 a0_1 a0_2 a0_3 a0_4 a0_5 bt400.1 bt400.2.1 bt400.2.2.1 bt400.2.2.2.1 bt400.2.2.2.2.1 bt400.2.2.2.2.2.1 bt400.2.2.2.2.2.2.1) else (rillmeterlaw15_ElasticFew.j0 k l1 (decide (a0_1 > 256)) a0_0 a0_1 a0_2 a0_3 a0_4 a0_5 bt400.1 bt400.2.1 bt400.2.2.1 bt400.2.2.2.1 bt400.2.2.2.2.1 bt400.2.2.2.2.2.1 bt400.2.2.2.2.2.2.1)) else (rillmeterlaw15_ElasticFew.j0 k l1 true a0_0 a0_1 a0_2 a0_3 a0_4 a0_5 bt400.1 bt400.2.1 bt400.2.2.1 bt400.2.2.2.1 bt400.2.2.2.2.1 bt400.2.2.2.2.2.1 bt400.2.2.2.2.2.2.1))) = some r := h; clear h; replace H := Option.bind_eq_some_iff.mp H; obtain ⟨⟨aM, aN, aQ, aF, aR, aS, aD, fB⟩, fT, H⟩ := H; replace H : (if fB = true then (if a0_1 < 1 then (rillmeterlaw15_ElasticFew.j0 k l1 true a0_0 a0_1 a0_2 a0_3 a0_4 a0_5 aM aN aQ aF aR aS aD) else (rillmeterlaw15_ElasticFew.j0 k l1 (decide (a0_1 > 256)) a0_0 a0_1 a0_2 a0_3 a0_4 a0_5 aM aN aQ aF aR aS aD)) else (rillmeterlaw15_ElasticFew.j0 k l1 true a0_0 a0_1 a0_2 a0_3 a0_4 a0_5 aM aN aQ aF aR aS aD)) = some r := H; have A3 := mk_ fT; clear fT
 have HC4 := mk_ H; clear H
 go_enter Try.func7, Try.ntmps7
 go_upto_region 2 with (first | ((with_reducible refine gate_dst (N := 2) rfl ?_); refine box_event ?hg (N := 2) ?hd (cs := #[.int .u64 a0_0, .int .i64 a0_1, .int .i64 a0_2, .int .i64 a0_3, .int .i64 a0_4, .int .i64 a0_5]) (t := 60) ?hr ?_; (case hd => rfl); (case hg => rfl); (case hr => first | (go_simp; done) | (go_simp; rfl)); intro aC hg w5 hbox hb; have n0_ := bs_ HB hb; have n1_ := mk_ (hbox); have n2_ := gx_ hg HB; have n3_ := gx_ hg HB; clear HB; have HB := n0_; have aA := n1_; have mG := n2_; have mH := n3_; clear n0_ n1_ n2_ n3_; clear hb hbox hg; obtain ⟨fU, fV, fW, fX, fY, fZ⟩ := cz6_ aA; obtain ⟨gA, gB, gC, gD, gE, gF⟩ := fz6_ aA) | ((with_reducible refine gate_callee (f := 23) rfl ?_); refine goesL_ (some 25) rfl rfl Try.func23 (by kernel_rfl) rfl #[.agg #[.int .u64 a0_0, .int .i64 a0_1, .int .i64 a0_2, .int .i64 a0_3, .int .i64 a0_4, .int .i64 a0_5], .slice A1 l1.length c1] rfl (by (try simp only [List.map_toArray, List.map_cons, List.map_nil]); first | done | rfl | (simp only [List.length_drop, List.length_take]; rfl)) ?_; (with_reducible refine (rillmeterlaw15_fed.calls k a0_0 a0_1 a0_2 a0_3 a0_4 a0_5 _ _ l1 aM aN aQ aF aR aS aD fB _ ?side1 ?side2 A3.out).mono ?_); (case side1 => repeat (first | exact (Kd.C_below HR1.out HB.out) | (with_reducible refine Kd.C_alloc ?_ _) | (with_reducible refine Kd.C_drewN ?_ _) | (with_reducible refine Kd.C_drew ?_))); (case side2 => exact HC1.out); rintro e w7 ⟨jN, mI, rfl, ho0, ho1, hb⟩; refine ⟨_, rfl, ?_⟩; have n0_ := mk_ (Kd.N_lower (Kd.N_mono (ok' := fun k_ => k_ ≠ aC) ho0 (fun k_ bB => (Kd.freshB (bk_ aA) k_ bB))) (below_size (bl_ HB))); have n1_ := mk_ (Kd.V_lower (Kd.V_mono (ok' := fun k_ => some k_ ≠ (jN : Value).ownBlock ∧ k_ ≠ aC) ho1 (fun k_ bB => ⟨bB.2, (Kd.freshB (bk_ aA) k_ bB.1)⟩)) (below_size (bl_ HB))); have n2_ := bb_ aA hb; have n3_ := bs_ HB hb; clear aA; clear HB; have bK := n0_; have bL := n1_; have aA := n2_; have HB := n3_; clear n0_ n1_ n2_ n3_; (try clear hb); (try clear hb2); (try clear hk); (try clear hi); (try clear ho0); (try clear ho1)) | ((with_reducible refine gate_dst (N := 5) rfl ?_); refine box_event ?hg (N := 5) ?hd (cs := #[.int .u64 0, .int .i64 0, .int .i64 0, .slice none 0 0, .int .u64 0, .int .i64 0, .slice none 0 0]) (t := 28) ?hr ?_; (case hd => rfl); (case hg => rfl); (case hr => first | (go_simp; done) | (go_simp; rfl)); intro aE hg w8 hbox hb; have n0_ := mk_ (Kd.N_below (Kd.N_elderB (by (with_reducible repeat (first | apply Kd.N_alloc | apply Kd.N_drewN | apply Kd.N_drew)); exact bK.out) aE (Nat.le_of_eq hg.symm)) hb); have n1_ := mk_ (Kd.V_below (Kd.V_elderB (vk_ bL) aE (Nat.le_of_eq hg.symm)) hb); have n2_ := bb_ aA hb; have n3_ := bs_ HB hb; have n4_ := mk_ (hbox); have n5_ := gx_ hg HB; have n6_ := gx_ hg HB; have n7_ := nx_ hg aA; have n8_ := ny_ hg aA; clear bK; clear bL; clear aA; clear HB; have bK := n0_; have bL := n1_; have aA := n2_; have HB := n3_; have aB := n4_; have mJ := n5_; have mK := n6_; have bG := n7_; have cQ := n8_; clear n0_ n1_ n2_ n3_ n4_ n5_ n6_ n7_ n8_; clear hb hbox hg; have mL := cQ.out; have mM := bG.out; obtain ⟨gG, gH, gI, gJ, gK, gL, gM⟩ := cz7_ aB; obtain ⟨gN, gO, gP, gQ, gR, gS, gT⟩ := fz7_ aB; obtain ⟨aO, aP, eo11⟩ := Kd.N_slice bK.out; subst eo11; obtain ⟨aX, aV, eo12⟩ := Kd.V_slice bL.out; subst eo12) | ((with_reducible refine gate_store (t := 28) (p := 5) rfl ?_); refine store_event (t := 28) (p := 5) (v := ?vo_w13) (w1 := (((((((w8.setCell ⟨aE, 0, none⟩ (.int .u64 aM)).setCell ⟨aE, 1, none⟩ (.int .i64 aN)).setCell ⟨aE, 2, none⟩ (.int .i64 aQ)).setCell ⟨aE, 3, none⟩ (.slice aO aF.length aP)).setCell ⟨aE, 4, none⟩ (.int .u64 aR)).setCell ⟨aE, 5, none⟩ (.int .i64 aS)).setCell ⟨aE, 6, none⟩ (.slice aX aD.length aV))) ?hg ?ho ?hn ?hr ?_; (case ho => rfl); (case hg => rfl); (case hn => rfl); (case hr => first | (go_simp; done) | (go_simp; rfl)); intro aZ hw; have n0_ : Aside0 (Kd.N k56 56 aZ w.heap.size (fun k_ => k_ ≠ aC ∧ k_ ≠ aE) (.slice aO aF.length aP) aF) := ⟨(by rw [hw]; exact (by (with_reducible repeat (first | apply Kd.N_alloc | apply Kd.N_drewN | apply Kd.N_drew)); exact Kd.N_mono (Kd.N_far (p := ⟨aE, 6, none⟩) (Kd.N_far (p := ⟨aE, 5, none⟩) (Kd.N_far (p := ⟨aE, 4, none⟩) (Kd.N_far (p := ⟨aE, 3, none⟩) (Kd.N_far (p := ⟨aE, 2, none⟩) (Kd.N_far (p := ⟨aE, 1, none⟩) (Kd.N_far (p := ⟨aE, 0, none⟩) (Kd.N_mono bK.out (fun k_ hk => (⟨hk, hk.2⟩ : _ ∧ k_ ≠ aE))) (fun _ hk => hk.2) (.int .u64 aM)) (fun _ hk => hk.2) (.int .i64 aN)) (fun _ hk => hk.2) (.int .i64 aQ)) (fun _ hk => hk.2) (.slice aO aF.length aP)) (fun _ hk => hk.2) (.int .u64 aR)) (fun _ hk => hk.2) (.int .i64 aS)) (fun _ hk => hk.2) (.slice aX aD.length aV)) (fun _ hk => ⟨hk.1.1, hk.1.2⟩)))⟩; have n1_ : Aside0 (Kd.V (Kd.slice 3 (Kd.int .i64)) 57 aZ w.heap.size (fun k_ => some k_ ≠ (.slice aO aF.length aP : Value).ownBlock ∧ k_ ≠ aC ∧ k_ ≠ aE) (.slice aX aD.length aV) aD) := ⟨(by rw [hw]; exact (vl_ (Kd.V_mono (Kd.V_far (p := ⟨aE, 6, none⟩) (Kd.V_far (p := ⟨aE, 5, none⟩) (Kd.V_far (p := ⟨aE, 4, none⟩) (Kd.V_far (p := ⟨aE, 3, none⟩) (Kd.V_far (p := ⟨aE, 2, none⟩) (Kd.V_far (p := ⟨aE, 1, none⟩) (Kd.V_far (p := ⟨aE, 0, none⟩) (Kd.V_mono bL.out (fun k_ hk => (⟨hk, hk.2⟩ : _ ∧ k_ ≠ aE))) (fun _ hk => hk.2) (.int .u64 aM)) (fun _ hk => hk.2) (.int .i64 aN)) (fun _ hk => hk.2) (.int .i64 aQ)) (fun _ hk => hk.2) (.slice aO aF.length aP)) (fun _ hk => hk.2) (.int .u64 aR)) (fun _ hk => hk.2) (.int .i64 aS)) (fun _ hk => hk.2) (.slice aX aD.length aV)) (fun _ hk => ⟨hk.1.1.1, ⟨hk.1.1.2, hk.1.2⟩⟩))))⟩; have n2_ : Aside0 (aZ.heap[aC]? = some (.cells #[.int .u64 a0_0, .int .i64 a0_1, .int .i64 a0_2, .int .i64 a0_3, .int .i64 a0_4, .int .i64 a0_5] 60 (0, 0))) := ⟨(by rw [hw]; exact fb_)⟩; have n3_ : Aside0 (aZ.heap[aE]? = some (.cells #[.int .u64 aM, .int .i64 aN, .int .i64 aQ, .slice aO aF.length aP, .int .u64 aR, .int .i64 aS, .slice aX aD.length aV] 28 (0, 0))) := ⟨(by rw [hw]; exact (by (with_reducible repeat (first | refine blk_drewN ?_ _ | refine blk_drew ?_ | refine blk_alloc ?_ _)); refine blk_put (cs := #[.int .u64 aM, .int .i64 aN, .int .i64 aQ, .slice aO aF.length aP, .int .u64 aR, .int .i64 aS, .slice none 0 0]) ?_ 6 _ rfl; (with_reducible repeat (first | refine blk_drewN ?_ _ | refine blk_drew ?_ | refine blk_alloc ?_ _)); refine blk_put (cs := #[.int .u64 aM, .int .i64 aN, .int .i64 aQ, .slice aO aF.length aP, .int .u64 aR, .int .i64 0, .slice none 0 0]) ?_ 5 _ rfl; (with_reducible repeat (first | refine blk_drewN ?_ _ | refine blk_drew ?_ | refine blk_alloc ?_ _)); refine blk_put (cs := #[.int .u64 aM, .int .i64 aN, .int .i64 aQ, .slice aO aF.length aP, .int .u64 0, .int .i64 0, .slice none 0 0]) ?_ 4 _ rfl; (with_reducible repeat (first | refine blk_drewN ?_ _ | refine blk_drew ?_ | refine blk_alloc ?_ _)); refine blk_put (cs := #[.int .u64 aM, .int .i64 aN, .int .i64 aQ, .slice none 0 0, .int .u64 0, .int .i64 0, .slice none 0 0]) ?_ 3 _ rfl; (with_reducible repeat (first | refine blk_drewN ?_ _ | refine blk_drew ?_ | refine blk_alloc ?_ _)); refine blk_put (cs := #[.int .u64 aM, .int .i64 aN, .int .i64 0, .slice none 0 0, .int .u64 0, .int .i64 0, .slice none 0 0]) ?_ 2 _ rfl; (with_reducible repeat (first | refine blk_drewN ?_ _ | refine blk_drew ?_ | refine blk_alloc ?_ _)); refine blk_put (cs := #[.int .u64 aM, .int .i64 0, .int .i64 0, .slice none 0 0, .int .u64 0, .int .i64 0, .slice none 0 0]) ?_ 1 _ rfl; (with_reducible repeat (first | refine blk_drewN ?_ _ | refine blk_drew ?_ | refine blk_alloc ?_ _)); refine blk_put (cs := #[.int .u64 0, .int .i64 0, .int .i64 0, .slice none 0 0, .int .u64 0, .int .i64 0, .slice none 0 0]) ?_ 0 _ rfl; (with_reducible repeat (first | refine blk_drewN ?_ _ | refine blk_drew ?_ | refine blk_alloc ?_ _)); exact aB.out))⟩; have n4_ : Aside0 (Below w.heap.size w aZ) := ⟨(by rw [hw]; exact (bl_ HB))⟩; clear hw; clear bK; clear bL; clear aA; clear aB; clear HB; have bK := n0_; have bL := n1_; have aA := n2_; have aB := n3_; have HB := n4_; clear n0_ n1_ n2_ n3_ n4_))
 (try simp only [Act.put, sa_, sb_, sc_])
 go_cut [39] (fun jO wc => ∃ (kq : Nat) (dK : Bool), jO = .bool dK ∧ Aside0 (rillmeterlaw15_ElasticFew.j0 kq l1 dK a0_0 a0_1 a0_2 a0_3 a0_4 a0_5 aM aN aQ aF aR aS aD = some r) ∧ Aside0 (kq ≤ k) ∧ Aside0 (Kd.N k56 56 wc w.heap.size (fun k_ => k_ ≠ aC ∧ k_ ≠ aE) (.slice aO aF.length aP) aF) ∧ Aside0 (Kd.V (Kd.slice 3 (Kd.int .i64)) 57 wc w.heap.size (fun k_ => some k_ ≠ ((.slice aO aF.length aP) : Value).ownBlock ∧ k_ ≠ aC ∧ k_ ≠ aE) (.slice aX aD.length aV) aD) ∧ Aside0 (wc.heap[aC]? = some (.cells #[.int .u64 a0_0, .int .i64 a0_1, .int .i64 a0_2, .int .i64 a0_3, .int .i64 a0_4, .int .i64 a0_5] 60 (0, 0))) ∧ Aside0 (wc.heap[aE]? = some (.cells #[.int .u64 aM, .int .i64 aN, .int .i64 aQ, (.slice aO aF.length aP), .int .u64 aR, .int .i64 aS, (.slice aX aD.length aV)] 28 (0, 0))) ∧ Aside0 (Below w.heap.size w wc))
 case first =>
  have H := HC4.out; clear HC4
  by_cases cR : fB = true
  ·subst cR
   have H1 : (if a0_1 < 1 then (rillmeterlaw15_ElasticFew.j0 k l1 true a0_0 a0_1 a0_2 a0_3 a0_4 a0_5 aM aN aQ aF aR aS aD) else (rillmeterlaw15_ElasticFew.j0 k l1 (decide (a0_1 > 256)) a0_0 a0_1 a0_2 a0_3 a0_4 a0_5 aM aN aQ aF aR aS aD)) = some r := by rw [if_pos rfl] at H; exact H
   clear H; have H := H1; clear H1
   by_cases bZ : a0_1 < 1
   ·rw [if_pos bZ] at H; have cH : decide (a0_1 < 1) = true := decide_eq_true bZ; clear bZ
    (first | rw [cH] | (simp only [i64_w, i32_w]; rw [cH]) | skip)
    have H' := mk_ H; clear H; have mN := bG.out; have mO := cQ.out; obtain ⟨gU, gV, gW, gX, gY, gZ⟩ := cz6_ aA; obtain ⟨hA, hB, hC, hD, hE, hF⟩ := fz6_ aA
    go_wp2
    go_meet
    case rel => exact ⟨_, (true), (by first | rfl | (simp; done) | (simp [*]; done)), H', ⟨by first | omega | exact Nat.le_refl _⟩, ⟨by (with_reducible repeat (first | apply Kd.N_alloc | apply Kd.N_drewN | apply Kd.N_drew)); exact bK.out⟩, ⟨by (with_reducible repeat (first | apply Kd.V_alloc | apply Kd.V_drewN | apply Kd.V_drew)); exact bL.out⟩, ⟨bk_ aA⟩, ⟨bk_ aB⟩, ⟨bl_ HB⟩⟩
   ·rw [if_neg bZ] at H; have cH : decide (a0_1 < 1) = false := decide_eq_false bZ; clear bZ
    (first | rw [cH] | (simp only [i64_w, i32_w]; rw [cH]) | skip)
    have H' := mk_ H; clear H; have mP := bG.out; have mQ := cQ.out; obtain ⟨hG, hH, hI, hJ, hL, hM⟩ := cz6_ aA; obtain ⟨hN, hO, hP, hQ, hR, hS⟩ := fz6_ aA
    go_wp2
    go_meet
    case rel => exact ⟨_, (decide (a0_1 > 256)), (by first | rfl | (simp; done) | (simp [*]; done)), H', ⟨by first | omega | exact Nat.le_refl _⟩, ⟨by (with_reducible repeat (first | apply Kd.N_alloc | apply Kd.N_drewN | apply Kd.N_drew)); exact bK.out⟩, ⟨by (with_reducible repeat (first | apply Kd.V_alloc | apply Kd.V_drewN | apply Kd.V_drew)); exact bL.out⟩, ⟨bk_ aA⟩, ⟨bk_ aB⟩, ⟨bl_ HB⟩⟩
  ·replace cR := Bool.eq_false_iff.mpr cR; subst cR
   have H1 : (rillmeterlaw15_ElasticFew.j0 k l1 true a0_0 a0_1 a0_2 a0_3 a0_4 a0_5 aM aN aQ aF aR aS aD) = some r := by rw [if_neg (show ¬ (false = true) by decide)] at H; exact H
   clear H; have H := H1; clear H1; have H' := mk_ H; clear H
   go_wp2
   go_meet
   case rel => exact ⟨_, (true), (by first | rfl | (simp; done) | (simp [*]; done)), H', ⟨by first | omega | exact Nat.le_refl _⟩, ⟨by (with_reducible repeat (first | apply Kd.N_alloc | apply Kd.N_drewN | apply Kd.N_drew)); exact bK.out⟩, ⟨by (with_reducible repeat (first | apply Kd.V_alloc | apply Kd.V_drewN | apply Kd.V_drew)); exact bL.out⟩, ⟨bk_ aA⟩, ⟨bk_ aB⟩, ⟨bl_ HB⟩⟩
 case rest =>
  clear HC4; (try clear c1); (try clear c2); (try clear p2); (try clear c7); (try clear c9); (try clear cR); (try clear bZ); (try clear cH); (try clear jP); (try clear jQ); (try clear gG); (try clear gH); (try clear gI); (try clear gJ); (try clear gK); (try clear gL); (try clear gM); (try clear gU); (try clear gV); (try clear gW); (try clear gX); (try clear gY); (try clear gZ); (try clear hG); (try clear hH); (try clear hI); (try clear hJ); (try clear hL); (try clear hM); (try clear fU); (try clear fV); (try clear fW); (try clear fX); (try clear fY); (try clear fZ); (try clear gN); (try clear gO); (try clear gP); (try clear gQ); (try clear gR); (try clear gS); (try clear gT); (try clear hA); (try clear hB); (try clear hC); (try clear hD); (try clear hE); (try clear hF); (try clear hN); (try clear hO); (try clear hP); (try clear hQ); (try clear hR); (try clear hS); (try clear gA); (try clear gB); (try clear gC); (try clear gD); (try clear gE); (try clear gF); obtain ⟨kq, dK, rfl, HA, HJ3, aH, aI, aA, aB, HB⟩ := hcut
  cases kq with
  | zero => exact absurd HA.out (by simp [rillmeterlaw15_ElasticFew.j0])
  | succ cS =>
   have H := HA.out; clear HA; simp only [rillmeterlaw15_ElasticFew.j0] at H
   by_cases dB : dK = true
   ·subst dB
    have H1 : ((rillmeterlaw15_awake.f cS).bind fun dL => (some dL)) = some r := by rw [if_pos rfl] at H; exact H
    clear H; have H := H1; clear H1; replace H := Option.bind_eq_some_iff.mp H; obtain ⟨dL, hT, H⟩ := H; replace H : (some dL) = some r := H; have jR := mk_ hT; clear hT; obtain rfl := Option.some.inj H
    go_wp2_with (first | ((with_reducible refine gate_callee (f := 10) rfl ?_); refine goesL_ (some 40) rfl rfl Try.func10 (by kernel_rfl) rfl #[] rfl (by (try simp only [List.map_toArray, List.map_cons, List.map_nil]); first | done | rfl | (simp only [List.length_drop, List.length_take]; rfl)) ?_; (with_reducible refine (rillmeterlaw15_awake.calls cS  dL _ jR.out).mono ?_); rintro e mR ⟨rfl, hb⟩; refine ⟨_, rfl, ?_⟩; have n0_ := mk_ (Kd.N_below (by (with_reducible repeat (first | apply Kd.N_alloc | apply Kd.N_drewN | apply Kd.N_drew)); exact aH.out) hb); have n1_ := vs_ aI hb; have n2_ := bb_ aA hb; have n3_ := bb_ aB hb; have n4_ := bs_ HB hb; clear aH; clear aI; clear aA; clear aB; clear HB; have aH := n0_; have aI := n1_; have aA := n2_; have aB := n3_; have HB := n4_; clear n0_ n1_ n2_ n3_ n4_; (try clear hb); (try clear hb2); (try clear hk); (try clear hi)))
    go_ret; exact ⟨by first | rfl | (simp [errW_none, errW_some] <;> rfl) | (simp [*, errW_none, errW_some] <;> rfl), bl_ HB⟩
   ·replace dB := Bool.eq_false_iff.mpr dB; subst dB
    have H1 : (if 0 ≤ a0_1 then (if (a0_1 : Int).toNat ≤ 35184372088832 then (rillmeterlaw15_ElasticFew.l0 cS l1 (List.replicate (a0_1 : Int).toNat 0) l1 (l1.length : Int) 0 a0_0 a0_1 a0_2 a0_3 a0_4 a0_5 aM aN aQ aF aR aS aD) else (none)) else (none)) = some r := by rw [if_neg (show ¬ (false = true) by decide)] at H; exact H
    clear H; have H := H1; clear H1
    by_cases cT : 0 ≤ a0_1
    ·rw [if_pos cT] at H; have jS := eq_true cT; have jT : decide (0 ≤ a0_1) = true := decide_eq_true cT; clear cT
     by_cases bT : (a0_1 : Int).toNat ≤ 35184372088832
     ·rw [if_pos bT] at H; have jU := eq_true bT; have jV : decide ((a0_1 : Int).toNat ≤ 35184372088832) = true := decide_eq_true bT; clear bT; obtain ⟨y414, hy414⟩ : ∃ y_ : List Int, y_ = (List.replicate (a0_1 : Int).toNat 0) := ⟨_, rfl⟩
      replace H : (rillmeterlaw15_ElasticFew.l0 cS l1 y414 l1 (l1.length : Int) 0 a0_0 a0_1 a0_2 a0_3 a0_4 a0_5 aM aN aQ aF aR aS aD) = some r := by first | (rw [hy414]; with_reducible exact H) | (have H2_ := (Option.bind_some _ _).symm.trans H; rw [hy414]; with_reducible exact H2_) | (have H2_ := (Option.bind_some _ _).symm.trans H; with_reducible exact H2_) | with_reducible exact H | (rw [hy414]; exact H) | exact H
      have hU := mk_ hy414; clear hy414; have H' := mk_ H; clear H; have mS := bG.out; have mT := cQ.out; obtain ⟨jW, jX, jY, jZ, lA, lB⟩ := cz6_ aA; obtain ⟨lC, lD, lE, lF, lG, lH⟩ := fz6_ aA
      go_wp2_with (first | ((with_reducible refine gate_dst (N := 43) rfl ?_); refine Kd.R_make (Kd.int .i64) _ 3 rfl (N := 43) rfl 57 _ _ rfl a0_1 rfl rfl Try.underlying57 (.int .i64 0) 8 info3 rfl (by decide) (by omega) 0 (ok := fun _ => True) (okp := fun _ => True) rfl (fun _ hk => hk) trivial (of_decide_eq_true (by first | (with_reducible assumption) | assumption)) (Nat.le_trans (Nat.mul_le_mul_right _ (of_decide_eq_true (by first | (with_reducible assumption) | assumption) : a0_1.toNat ≤ 35184372088832)) (by omega)) (Below.refl _ _) (Nat.le_refl _) ?_; intro bJ mU ho28 hb hg_ hnew_; clear hg_ hnew_; (first | rw [← hU.out] at ho28 | (simp only [Int.reduceToNat] at ho28; rw [← hU.out] at ho28)); have n0_ := mk_ (Kd.N_elder' (by (with_reducible repeat (first | apply Kd.N_alloc | apply Kd.N_drewN | apply Kd.N_drew)); exact aH.out) (Kd.R_base ho28) hb); have n1_ := mk_ (Kd.V_elder' (vk_ aI) (Kd.R_base ho28) hb); have n2_ := mk_ (Kd.R_lower ho28 (below_size (bl_ HB))); have n3_ := bb_ aA hb; have n4_ := bb_ aB hb; have n5_ := bs_ HB hb; clear aH; clear aI; clear aA; clear aB; clear HB; have aH := n0_; have aI := n1_; have lI := n2_; have aA := n3_; have aB := n4_; have HB := n5_; clear n0_ n1_ n2_ n3_ n4_ n5_; clear hb ho28))
      go_loopg [46] cS (fun kq lJ w' => ∃ (aL : List Int) (aJ : Int), lJ = .int .i64 aJ ∧ Aside0 (rillmeterlaw15_ElasticFew.l0 kq l1 aL l1 (l1.length : Int) aJ a0_0 a0_1 a0_2 a0_3 a0_4 a0_5 aM aN aQ aF aR aS aD = some r) ∧ Aside0 (kq ≤ cS) ∧ Aside0 (Kd.R (Kd.int .i64) 3 w' w.heap.size (fun _ => True) bJ aL) ∧ Aside0 (Kd.N k56 56 w' w.heap.size (fun k_ => some k_ ≠ (bJ : Value).ownBlock ∧ k_ ≠ aC ∧ k_ ≠ aE) (.slice aO aF.length aP) aF) ∧ Aside0 (Kd.V (Kd.slice 3 (Kd.int .i64)) 57 w' w.heap.size (fun k_ => some k_ ≠ (bJ : Value).ownBlock ∧ some k_ ≠ ((.slice aO aF.length aP) : Value).ownBlock ∧ k_ ≠ aC ∧ k_ ≠ aE) (.slice aX aD.length aV) aD) ∧ Aside0 (w'.heap[aC]? = some (.cells #[.int .u64 a0_0, .int .i64 a0_1, .int .i64 a0_2, .int .i64 a0_3, .int .i64 a0_4, .int .i64 a0_5] 60 (0, 0))) ∧ Aside0 (w'.heap[aE]? = some (.cells #[.int .u64 aM, .int .i64 aN, .int .i64 aQ, (.slice aO aF.length aP), .int .u64 aR, .int .i64 aS, (.slice aX aD.length aV)] 28 (0, 0))) ∧ Aside0 (Below w.heap.size w w'))
      case atStart => exact ⟨(y414), (0), (by first | rfl | (simp; done) | (simp [*]; done)), H', ⟨Nat.le_refl _⟩, ⟨by (with_reducible repeat (first | apply Kd.R_alloc | apply Kd.R_drewN | apply Kd.R_drew)); exact lI.out⟩, ⟨by (with_reducible repeat (first | apply Kd.N_alloc | apply Kd.N_drewN | apply Kd.N_drew)); exact Kd.N_mono aH.out (fun _ hk => ⟨hk.2, ⟨hk.1.1, hk.1.2⟩⟩)⟩, ⟨by (with_reducible repeat (first | apply Kd.V_alloc | apply Kd.V_drewN | apply Kd.V_drew)); exact Kd.V_mono aI.out (fun _ hk => ⟨hk.2, ⟨hk.1.1, ⟨hk.1.2.1, hk.1.2.2⟩⟩⟩)⟩, ⟨bk_ aA⟩, ⟨bk_ aB⟩, ⟨bl_ HB⟩⟩
      case round =>
       clear H'; (try clear c1); (try clear c2); (try clear p2); (try clear c7); (try clear c9); (try clear fC); (try clear cR); (try clear bZ); (try clear cH); (try clear jP); (try clear jQ); (try clear dB); (try clear cT); (try clear jS); (try clear jT); (try clear bT); (try clear jU); (try clear jV); (try clear mV); (try clear gG); (try clear gH); (try clear gI); (try clear gJ); (try clear gK); (try clear gL); (try clear gM); (try clear gU); (try clear gV); (try clear gW); (try clear gX); (try clear gY); (try clear gZ); (try clear hG); (try clear hH); (try clear hI); (try clear hJ); (try clear hL); (try clear hM); (try clear jW); (try clear jX); (try clear jY); (try clear jZ); (try clear lA); (try clear lB); (try clear fU); (try clear fV); (try clear fW); (try clear fX); (try clear fY); (try clear fZ); (try clear gN); (try clear gO); (try clear gP); (try clear gQ); (try clear gR); (try clear gS); (try clear gT); (try clear hA); (try clear hB); (try clear hC); (try clear hD); (try clear hE); (try clear hF); (try clear hN); (try clear hO); (try clear hP); (try clear hQ); (try clear hR); (try clear hS); (try clear lC); (try clear lD); (try clear lE); (try clear lF); (try clear lG)
       (try clear lH); (try clear gA); (try clear gB); (try clear gC); (try clear gD); (try clear gE); (try clear gF); (try clear p2); obtain ⟨aL, aJ, rfl, HA, HK2, aK, aH, aI, aA, aB, HB⟩ := hrel
       cases gk with
       | zero => exact absurd HA.out (by simp [rillmeterlaw15_ElasticFew.l0])
       | succ k2 =>
        have H := HA.out; clear HA; simp only [rillmeterlaw15_ElasticFew.l0] at H
        by_cases bU : aJ < (l1.length : Int)
        ·rw [if_pos bU] at H; have dM : decide (aJ < (l1.length : Int)) = true := decide_eq_true bU; clear bU
         by_cases cI : 0 ≤ aJ
         ·rw [if_pos cI] at H; have mW : decide (0 ≤ aJ) = true := decide_eq_true cI; clear cI
          by_cases cJ : aJ < (l1.length : Int)
          ·rw [if_pos cJ] at H; have mX : decide (aJ < (l1.length : Int)) = true := decide_eq_true cJ; clear cJ; have mY := eq_true (of_decide_eq_true (by first | (with_reducible assumption) | assumption) : 0 ≤ aJ)
           by_cases cA : aJ ≤ (l1.length : Int)
           ·rw [if_pos cA] at H; have mZ := eq_true cA; have nA : decide (aJ ≤ (l1.length : Int)) = true := decide_eq_true cA; clear cA; replace H := Option.bind_eq_some_iff.mp H; obtain ⟨bV, hV, H⟩ := H; replace H : (if bV = 0 then (if 0 ≤ a0_1 then (if (a0_1 : Int).toNat ≤ 8796093022208 then ((rillmeterref15_Place.f k2 a0_0 0 0 (List.replicate (a0_1 : Int).toNat z74) 0 0 ([] : List (List Int)) (rdOf ByteArray.empty l1 aJ)).bind fun aG => (if 0 ≤ aG then (if aG < (aL.length : Int) then ((some (aL.set (aG : Int).toNat (wrap64 ((rd aL aG) + 1)) : List Int)).bind fun y425 => (if (rd y425 aG) > a0_2 then ((rillmeterlaw15_awake.f k2).bind fun bM => (some bM)) else (rillmeterlaw15_ElasticFew.l0 k2 l1 y425 l1 (l1.length : Int) (wrap64 (aJ + 1)) a0_0 a0_1 a0_2 a0_3 a0_4 a0_5 aM aN aQ aF aR aS aD))) else (none)) else (none))) else (none)) else (none)) else (rillmeterlaw15_ElasticFew.l0 k2 l1 aL l1 (l1.length : Int) (wrap64 (aJ + 1)) a0_0 a0_1 a0_2 a0_3 a0_4 a0_5 aM aN aQ aF aR aS aD)) = some r := H; have fD := mk_ hV; clear hV
            by_cases bN : bV = 0
            ·rw [if_pos bN] at H; have dN : (bV == 0) = true := beq_iff_eq.mpr bN; have dO : (bV != 0) = false := bne_eq_false_iff_eq.mpr bN; clear bN
             by_cases cB : 0 ≤ a0_1
             ·rw [if_pos cB] at H; have nB := eq_true cB; have nC : decide (0 ≤ a0_1) = true := decide_eq_true cB; clear cB
              by_cases cC : (a0_1 : Int).toNat ≤ 8796093022208
              ·rw [if_pos cC] at H; have nD := eq_true cC; have nE : decide ((a0_1 : Int).toNat ≤ 8796093022208) = true := decide_eq_true cC; clear cC; obtain ⟨y420, hy420⟩ : ∃ y_ : List (S74), y_ = (List.replicate (a0_1 : Int).toNat z74) := ⟨_, rfl⟩
               replace H : ((rillmeterref15_Place.f k2 a0_0 0 0 y420 0 0 ([] : List (List Int)) (rdOf ByteArray.empty l1 aJ)).bind fun aG => (if 0 ≤ aG then (if aG < (aL.length : Int) then ((some (aL.set (aG : Int).toNat (wrap64 ((rd aL aG) + 1)) : List Int)).bind fun y425 => (if (rd y425 aG) > a0_2 then ((rillmeterlaw15_awake.f k2).bind fun bM => (some bM)) else (rillmeterlaw15_ElasticFew.l0 k2 l1 y425 l1 (l1.length : Int) (wrap64 (aJ + 1)) a0_0 a0_1 a0_2 a0_3 a0_4 a0_5 aM aN aQ aF aR aS aD))) else (none)) else (none))) = some r := by first | (rw [hy420]; with_reducible exact H) | (have H2_ := (Option.bind_some _ _).symm.trans H; rw [hy420]; with_reducible exact H2_) | (have H2_ := (Option.bind_some _ _).symm.trans H; with_reducible exact H2_) | with_reducible exact H | (rw [hy420]; exact H) | exact H
               have dP := mk_ hy420; clear hy420; replace H := Option.bind_eq_some_iff.mp H; obtain ⟨aG, hW, H⟩ := H; replace H : (if 0 ≤ aG then (if aG < (aL.length : Int) then ((some (aL.set (aG : Int).toNat (wrap64 ((rd aL aG) + 1)) : List Int)).bind fun y425 => (if (rd y425 aG) > a0_2 then ((rillmeterlaw15_awake.f k2).bind fun bM => (some bM)) else (rillmeterlaw15_ElasticFew.l0 k2 l1 y425 l1 (l1.length : Int) (wrap64 (aJ + 1)) a0_0 a0_1 a0_2 a0_3 a0_4 a0_5 aM aN aQ aF aR aS aD))) else (none)) else (none)) = some r := H; have hX := mk_ hW; clear hW
               by_cases cK : 0 ≤ aG
               ·rw [if_pos cK] at H; have nF : decide (0 ≤ aG) = true := decide_eq_true cK; clear cK
                by_cases cL : aG < (aL.length : Int)
                ·rw [if_pos cL] at H; have nG : decide (aG < (aL.length : Int)) = true := decide_eq_true cL; clear cL; obtain ⟨y425, hy425⟩ : ∃ y_ : List Int, y_ = (aL.set (aG : Int).toNat (wrap64 ((rd aL aG) + 1))) := ⟨_, rfl⟩
                 replace H : (if (rd y425 aG) > a0_2 then ((rillmeterlaw15_awake.f k2).bind fun bM => (some bM)) else (rillmeterlaw15_ElasticFew.l0 k2 l1 y425 l1 (l1.length : Int) (wrap64 (aJ + 1)) a0_0 a0_1 a0_2 a0_3 a0_4 a0_5 aM aN aQ aF aR aS aD)) = some r := by first | (rw [hy425]; with_reducible exact H) | (have H2_ := (Option.bind_some _ _).symm.trans H; rw [hy425]; with_reducible exact H2_) | (have H2_ := (Option.bind_some _ _).symm.trans H; with_reducible exact H2_) | with_reducible exact H | (rw [hy425]; exact H) | exact H
                 have dQ := mk_ hy425; clear hy425
                 by_cases bW : (rd y425 aG) > a0_2
                 ·rw [if_pos bW] at H; have dR : decide (a0_2 < (rd y425 aG)) = true := decide_eq_true bW; clear bW; replace H := Option.bind_eq_some_iff.mp H; obtain ⟨bM, hY, H⟩ := H; replace H : (some bM) = some r := H; have lK := mk_ hY; clear hY; obtain rfl := Option.some.inj H; have bC : 0 ≤ (aJ : Int) := of_decide_eq_true (by first | (with_reducible assumption) | assumption); have bD : aJ < (l1.length : Int) := of_decide_eq_true (by first | (with_reducible assumption) | assumption); obtain ⟨cD, e417, bE⟩ := Kd.at_string HR1.out aJ bC bD
                  cases e417; (try replace bE := bt_ HB bE); replace bC := eq_true bC; replace bD := eq_true bD; obtain ⟨i044, hi044, _, hsz44, _⟩ := info_parts info9; obtain ⟨hcut44, hA44, hC44⟩ := print_take_of (P := Try.prog) Value.string (⟨#[]⟩ : ByteArray) 61 9 .i64 Try.underlying61 hi044 hsz44 (some cD) c1 l1 aJ (of_decide_eq_true (by first | (with_reducible assumption) | assumption)) (of_decide_eq_true (by first | (with_reducible assumption) | assumption)) HC1.out; have HR418 := mk_ (Kd.C_of_reads (h1 := fun _ => rfl) (hA44 _ (Kd.reads_of_C HR1.out))); have HC418 := mk_ hC44; clear hA44 hC44 hi044 hsz44
                  try go_wp2_with (first | ((with_reducible refine gate_callee (f := 24) rfl ?_); refine goesL_ (some 55) rfl rfl Try.func24 (by kernel_rfl) rfl #[.slice (some cD) (l1.take (aJ : Int).toNat).length c1, .string (rdOf ByteArray.empty l1 aJ)] rfl (by (try simp only [List.map_toArray, List.map_cons, List.map_nil]); first | done | (rw [show (l1.take (aJ : Int).toNat).length = aJ.toNat from (by rw [List.length_take]; have h_ : (aJ : Int) ≤ (l1.length : Int) := of_decide_eq_true (by first | (with_reducible assumption) | assumption); omega)] <;> rfl) | rfl | (simp only [List.length_drop, List.length_take]; rfl)) ?_; (with_reducible refine (rillmeterlaw15_many.calls k2 _ _ (l1.take (aJ : Int).toNat) (rdOf ByteArray.empty l1 aJ) bV _ ?side1 ?side2 fD.out).mono ?_); (case side1 => repeat (first | exact (Kd.C_below HR418.out HB.out) | (with_reducible refine Kd.C_alloc ?_ _) | (with_reducible refine Kd.C_drewN ?_ _) | (with_reducible refine Kd.C_drew ?_))); (case side2 => exact HC418.out); rintro e w' ⟨rfl, ⟨nd, rfl⟩⟩; refine ⟨_, rfl, ?_⟩; (try (rw [drewN_self wr]; generalize hq_ : World.drewN wr _ = wr; have n0_ : Aside0 (Kd.N k56 56 wr w.heap.size (fun k_ => some k_ ≠ (bJ : Value).ownBlock ∧ k_ ≠ aC ∧ k_ ≠ aE) (.slice aO aF.length aP) aF) := ⟨by rw [← hq_]; exact (by (with_reducible repeat (first | apply Kd.N_alloc | apply Kd.N_drewN | apply Kd.N_drew)); exact aH.out)⟩; have n1_ : Aside0 (Kd.V (Kd.slice 3 (Kd.int .i64)) 57 wr w.heap.size (fun k_ => some k_ ≠ (.slice aO aF.length aP : Value).ownBlock ∧ some k_ ≠ (bJ : Value).ownBlock ∧ k_ ≠ aC ∧ k_ ≠ aE) (.slice aX aD.length aV) aD) := ⟨by rw [← hq_]; exact (vl_ (Kd.V_mono aI.out (fun _ hk => ⟨hk.2.1, ⟨hk.1, ⟨hk.2.2.1, hk.2.2.2⟩⟩⟩)))⟩; have n2_ : Aside0 (Kd.R (Kd.int .i64) 3 wr w.heap.size (fun _ => True) bJ aL) := ⟨by rw [← hq_]; exact (by (with_reducible repeat (first | apply Kd.R_alloc | apply Kd.R_drewN | apply Kd.R_drew)); exact aK.out)⟩; have n3_ : Aside0 (wr.heap[aC]? = some (.cells #[.int .u64 a0_0, .int .i64 a0_1, .int .i64 a0_2, .int .i64 a0_3, .int .i64 a0_4, .int .i64 a0_5] 60 (0, 0))) := ⟨by rw [← hq_]; exact (bk_ aA)⟩; have n4_ : Aside0 (wr.heap[aE]? = some (.cells #[.int .u64 aM, .int .i64 aN, .int .i64 aQ, .slice aO aF.length aP, .int .u64 aR, .int .i64 aS, .slice aX aD.length aV] 28 (0, 0))) := ⟨by rw [← hq_]; exact (bk_ aB)⟩; have n5_ : Aside0 (Below w.heap.size w wr) := ⟨by rw [← hq_]; exact (bl_ HB)⟩; clear aH aI aK aA aB HB hq_; have aH := n0_; have aI := n1_; have aK := n2_; have aA := n3_; have aB := n4_; have HB := n5_; clear n0_ n1_ n2_ n3_ n4_ n5_))))
                  replace aK := mk_ (Kd.R_drew aK.out); replace aH := mk_ (Kd.N_drew aH.out); replace aI := mk_ (Kd.V_drew aI.out); replace aA := bd_ aA; replace aB := bd_ aB; replace HB := mk_ (below_drew1 HB.out); refine start_ (n := 9) (S := fun w' => w'.cell? ⟨aC, 0, none⟩ = some (.int .u64 a0_0) ∧ w'.cell? ⟨aC, 1, none⟩ = some (.int .i64 a0_1) ∧ w'.cell? ⟨aC, 2, none⟩ = some (.int .i64 a0_2) ∧ w'.cell? ⟨aC, 3, none⟩ = some (.int .i64 a0_3) ∧ w'.cell? ⟨aC, 4, none⟩ = some (.int .i64 a0_4) ∧ w'.cell? ⟨aC, 5, none⟩ = some (.int .i64 a0_5)) (ds := []) (mB 9 0) (by kernel_rfl) rfl rfl ⟨bc_ aA 0, bc_ aA 1, bc_ aA 2, bc_ aA 3, bc_ aA 4, bc_ aA 5⟩ (fun hHeld => ?_); refine with_tabW rillmeterlaw15_ElasticFew.tab9 rillmeterlaw15_ElasticFew.bits9 (fun HT_ HW_ => ?_); generalize wr.drew = lL at aK aH aI aA aB HB hHeld ⊢; refine pq_ 0 57 9 1 HT_ ?_
                  refine pq_ 2 59 9 5 HT_ ?_
                  refine pq_ 6 63 9 69 HT_ ?_
                  refine tq_ 1 58 9 71 HT_ HW_ hHeld ?_
                  refine tq_ 3 60 9 79 HT_ HW_ hHeld ?_
                  refine one_ (i := 4) (N := some 61) (mB 9 95) rfl rfl (one_of HT_.out (by kernel_rfl)) (by decide) (fun K hK => ?_); refine Kd.N_make_step k74 _ 74 (by rfl) (N' := 61) rfl 29 _ _ rfl a0_1 rfl rfl Try.underlying29 (.agg #[(.slice none 0 0), (.int .i64 0)]) 32 info74 rfl (by decide) (by omega) z74 (ok := fun k_ => lL.heap.size ≤ k_) (okp := fun _ => False) (k74_mkF _ _ z74 (Nat.le_refl _) (Kd.F_nil _ _ _)) (fun _ hk => hk.elim) (Nat.le_refl _) (of_decide_eq_true (by first | (with_reducible assumption) | assumption)) (Nat.le_trans (Nat.mul_le_mul_right _ (of_decide_eq_true (by first | (with_reducible assumption) | assumption) : a0_1.toNat ≤ 8796093022208)) (by omega)) (Below.refl _ _) (Nat.le_refl _) ?_; intro lM nH ho47 hb hg_ hnew_; clear hg_ hnew_
                  (first | rw [← dP.out] at ho47 | (simp only [Int.reduceToNat] at ho47; rw [← dP.out] at ho47))
                  replace aI := mk_ (Kd.V_elder' (vk_ aI) (by first | exact Kd.N_base ho47 | exact Kd.S_base ho47) hb); have aU := mk_ (Kd.N_lower (Kd.N_mono (ok' := fun k_ => some k_ ≠ (bJ : Value).ownBlock ∧ some k_ ≠ (.slice aO aF.length aP : Value).ownBlock ∧ k_ ≠ aC ∧ k_ ≠ aE) ho47 (fun k_ bB => ⟨(Kd.fresh' (Kd.R_lt (by (with_reducible repeat (first | apply Kd.R_alloc | apply Kd.R_drewN | apply Kd.R_drew)); exact aK.out)) k_ bB), (Kd.fresh' (Kd.N_lt (by (with_reducible repeat (first | apply Kd.N_alloc | apply Kd.N_drewN | apply Kd.N_drew)); exact aH.out)) k_ bB), (Kd.freshB (bk_ aA) k_ bB), (Kd.freshB (bk_ aB) k_ bB)⟩)) (below_size (bl_ HB))); replace aK := mk_ (Kd.R_below (by (with_reducible repeat (first | apply Kd.R_alloc | apply Kd.R_drewN | apply Kd.R_drew)); exact aK.out) hb); replace aH := mk_ (Kd.N_elder' (by (with_reducible repeat (first | apply Kd.N_alloc | apply Kd.N_drewN | apply Kd.N_drew)); exact aH.out) (by first | exact Kd.N_base ho47 | exact Kd.S_base ho47) hb); replace aA := bb_ aA hb
                  replace aB := bb_ aB hb; replace HB := bs_ HB hb; clear hb ho47; obtain ⟨fE, fF, eo48⟩ := Kd.N_slice aU.out
                  (first | subst eo48 | (injection eo48 with f1_ f2_ f3_; have f4_ := f1_.symm; have f5_ := f3_.symm; clear f1_ f2_ f3_; subst f4_; subst f5_))
                  refine hK.out _ _ ⟨bc_ aA 0, bc_ aA 1, bc_ aA 2, bc_ aA 3, bc_ aA 4, bc_ aA 5⟩ (fun hHeld => ?_); clear hK K; refine norm_ (a' := ?_) ?_ ?_; rotate_left
                  ·show Act.put _ (some 61) _ = _
                   simp only [Act.put, sa_, sb_, sc_, i64_w, i32_w]; rfl
                  refine pq_ 5 62 9 127 HT_ ?_
                  refine one_ (i := 7) (N := some 64) (mB 9 255) rfl rfl (one_of HT_.out (by kernel_rfl)) (by decide) (fun K hK => ?_); refine goes_ Try.func26 (by kernel_rfl) rfl #[.agg #[.int .u64 a0_0, .int .i64 0, .int .i64 0, .slice fE y420.length fF, .int .u64 0, .int .i64 0, .slice none 0 0], .string (rdOf ByteArray.empty l1 aJ)] (by rfl) rfl rfl (by (try simp only [List.map_toArray, List.map_cons, List.map_nil]); first | done | rfl | (simp only [List.length_drop, List.length_take]; rfl)) ?_; refine (rillmeterref15_Place.calls k2 a0_0 0 0 _ _ y420 0 0 _ _ ([] : List (List Int)) (rdOf ByteArray.empty l1 aJ) aG _ ?side1 ?side2 ?side3 ?side4 hX.out).mono ?_; (case side1 => repeat (first | exact (Kd.N_reads' aU.out).2.2 | (with_reducible refine Kd.C_alloc ?_ _) | (with_reducible refine Kd.C_drewN ?_ _) | (with_reducible refine Kd.C_drew ?_))); (case side2 => exact (Kd.N_reads' aU.out).2.1); (case side3 => exact Kd.C_nil _ _); (case side4 => exact Nat.le_refl _); rintro e hZ ⟨rfl, hb⟩; refine ⟨_, rfl, ?_⟩; replace aK := mk_ (Kd.R_below (by (with_reducible repeat (first | apply Kd.R_alloc | apply Kd.R_drewN | apply Kd.R_drew)); exact aK.out) hb); replace aH := mk_ (Kd.N_below (by (with_reducible repeat (first | apply Kd.N_alloc | apply Kd.N_drewN | apply Kd.N_drew)); exact aH.out) hb); replace aI := vs_ aI hb
                  replace aU := mk_ (Kd.N_below (by (with_reducible repeat (first | apply Kd.N_alloc | apply Kd.N_drewN | apply Kd.N_drew)); exact aU.out) hb); replace aA := bb_ aA hb; replace aB := bb_ aB hb; replace HB := bs_ HB hb; (try clear hb); refine hK.out _ _ ⟨bc_ aA 0, bc_ aA 1, bc_ aA 2, bc_ aA 3, bc_ aA 4, bc_ aA 5⟩ (fun hHeld => ?_); clear hK K; refine norm_ (a' := ?_) ?_ ?_; rotate_left
                  ·show Act.put _ (some 64) _ = _
                   simp only [Act.put, sa_, sb_, sc_, i64_w, i32_w]; rfl
                  refine pq_ 8 10 9 511 HT_ ?_
                  refine done_ (done_of HT_.out (by kernel_rfl)) ?_; obtain ⟨nI, cM, eo50⟩ := Kd.R_slice aK.out; subst eo50; have bO : 0 ≤ (aG : Int) := of_decide_eq_true (by first | (with_reducible assumption) | assumption); have bP : aG < (aL.length : Int) := of_decide_eq_true (by first | (with_reducible assumption) | assumption); obtain ⟨lN, e424, cU⟩ := Kd.at_int (Kd.R_reads' aK.out).2.2 aG bO bP
                  cases e424; replace bO := eq_true bO; replace bP := eq_true bP; have bH : 0 ≤ (aG : Int) := of_decide_eq_true (by first | (with_reducible assumption) | assumption); have bI : (aG : Int) < ((aL.length : Int) : Int) := of_decide_eq_true (by first | (with_reducible assumption) | assumption); obtain ⟨go41, lO, eo41, dC, gl41, cl41, HG41⟩ := Kd.R_form aK.out (by omega)
                  (first | cases eo41 | (injection eo41 with ea_ en_ ec_; (first | subst ea_ | (injection ea_ with ea_; subst ea_)); subst ec_; clear en_))
                  have GB41 := mk_ dC; have GG41 := mk_ HG41; clear dC gl41 HG41
                  (first | simp only [add_plain] at cU | skip)
                  obtain ⟨dS, hf41_0⟩ := Kd.R_celln 0 aK.out (aG : Int) bH bI; replace bH := eq_true bH; replace bI := eq_true bI; obtain ⟨hy51_, hz51_⟩ := Kd.R_celln 0 aK.out (aG : Int) (of_decide_eq_true (by first | (with_reducible assumption) | assumption)) (of_decide_eq_true (by first | (with_reducible assumption) | assumption)); have HP51 := Kd.R_putg aK.out (aG : Int) (wrap64 ((rd aL aG) + 1))
                  try go_wp2_with (first | ((with_reducible refine gate_store (t := 3) (p := 70) rfl ?_); refine store_event (t := 3) (p := 70) (v := ?vo_w52) (w1 := (hZ.setCell ⟨go41, (aG : Int).toNat, none⟩ (.int .i64 (wrap64 ((rd aL aG) + 1))))) ?hg ?ho ?hn ?hr ?_; (case ho => rfl); (case hg => rfl); (case hn => rfl); (case hr => first | (go_simp; done) | (go_simp; rfl)); intro dT hw; have hg : hZ.grownBy dT (some go41) := (by rw [hw]; exact HP51.2); have hp_ : Kd.R (Kd.int .i64) 3 dT w.heap.size (fun _ => True) (.slice (some ⟨go41, 0, none⟩) aL.length cM) y425 := (by rw [hw, dQ.out]; exact HP51.1); clear HP51; have n0_ := mk_ (hp_); have n1_ := mk_ (Kd.N_afterv (v := (.slice (some ⟨go41, 0, none⟩) aL.length cM)) (v1 := (.slice (some ⟨go41, 0, none⟩) aL.length cM)) (ok := (fun k_ => some k_ ≠ (.slice fE y420.length fF : Value).ownBlock ∧ k_ ≠ aC ∧ k_ ≠ aE)) (by (with_reducible repeat (first | apply Kd.N_alloc | apply Kd.N_drewN | apply Kd.N_drew)); exact Kd.N_mono aH.out (fun _ hk => ⟨⟨hk.2, ⟨hk.1.2.1, hk.1.2.2⟩⟩, hk.1.1⟩)) hg (.inl rfl)); have n2_ := mk_ (Kd.V_afterv (v := (.slice (some ⟨go41, 0, none⟩) aL.length cM)) (v1 := (.slice (some ⟨go41, 0, none⟩) aL.length cM)) (ok := (fun k_ => some k_ ≠ (.slice aO aF.length aP : Value).ownBlock ∧ some k_ ≠ (.slice fE y420.length fF : Value).ownBlock ∧ k_ ≠ aC ∧ k_ ≠ aE)) (vl_ (Kd.V_mono aI.out (fun _ hk => ⟨⟨hk.1.1, ⟨hk.2, ⟨hk.1.2.2.1, hk.1.2.2.2⟩⟩⟩, hk.1.2.1⟩))) hg (.inl rfl)); have n3_ := mk_ (blk_grown (bk_ aA) hg (Kd.R_ne aK.out aA.out (by decide))); have n4_ := mk_ (blk_grown (bk_ aB) hg (Kd.R_ne aK.out aB.out (by decide))); have n5_ := mk_ (Kd.N_afterv (v := (.slice (some ⟨go41, 0, none⟩) aL.length cM)) (v1 := (.slice (some ⟨go41, 0, none⟩) aL.length cM)) (ok := (fun k_ => some k_ ≠ (.slice aO aF.length aP : Value).ownBlock ∧ k_ ≠ aC ∧ k_ ≠ aE)) (by (with_reducible repeat (first | apply Kd.N_alloc | apply Kd.N_drewN | apply Kd.N_drew)); exact Kd.N_mono aU.out (fun _ hk => ⟨⟨hk.2.1, ⟨hk.2.2.1, hk.2.2.2⟩⟩, hk.1⟩)) hg (.inl rfl)); have n6_ := mk_ ((by rw [hw]; exact below_set (HB.out) GB41.out : Below w.heap.size w dT)); clear aK; clear aH; clear aI; clear aA; clear aB; clear aU; clear HB; have aK := n0_; have aH := n1_; have aI := n2_; have aA := n3_; have aB := n4_; have aU := n5_; have HB := n6_; clear n0_ n1_ n2_ n3_ n4_ n5_ n6_; clear hg hw hp_))
                  replace aK := mk_ (Kd.R_drew aK.out); replace aH := mk_ (Kd.N_drew aH.out); replace aI := mk_ (Kd.V_drew aI.out); replace aU := mk_ (Kd.N_drew aU.out); replace aA := bd_ aA; replace aB := bd_ aB; replace HB := mk_ (below_drew1 HB.out); have bQ : 0 ≤ (aG : Int) := of_decide_eq_true (by first | (with_reducible assumption) | assumption); have bR : aG < (y425.length : Int) := (by have h_ : (aG : Int) < ((aL.length : Int) : Int) := of_decide_eq_true (by first | (with_reducible assumption) | assumption); first | (have e_ := (Kd.R_reads' aK.out).1; omega) | simpa only [dQ.out, List.length_set] using h_); have ql426 : ((aG : Int) < ((aL.length : Int) : Int)) = True := eq_true (of_decide_eq_true (by first | (with_reducible assumption) | assumption)); obtain ⟨fG, e426, bF⟩ := Kd.at_int (Kd.R_reads' aK.out).2.2 aG bQ bR; obtain rfl : (⟨go41, 0, none⟩ : Addr) = fG := (by injection e426)
                  (first | simp only [add_plain] at bF | simp only [add_at] at bF | simp only [Addr.add, Nat.zero_add] at bF | skip)
                  replace bQ := eq_true bQ; replace bR := eq_true bR; refine start_ (n := 7) (S := fun w' => w'.cell? ⟨aC, 0, none⟩ = some (.int .u64 a0_0) ∧ w'.cell? ⟨aC, 1, none⟩ = some (.int .i64 a0_1) ∧ w'.cell? ⟨aC, 2, none⟩ = some (.int .i64 a0_2) ∧ w'.cell? ⟨aC, 3, none⟩ = some (.int .i64 a0_3) ∧ w'.cell? ⟨aC, 4, none⟩ = some (.int .i64 a0_4) ∧ w'.cell? ⟨aC, 5, none⟩ = some (.int .i64 a0_5) ∧ w'.cell? ⟨go41, (aG).toNat, none⟩ = some (.int .i64 (rd y425 aG))) (ds := []) (mB 7 0) (by kernel_rfl) rfl rfl ⟨bc_ aA 0, bc_ aA 1, bc_ aA 2, bc_ aA 3, bc_ aA 4, bc_ aA 5, bF⟩ (fun hHeld => ?_); generalize dT.drew = nJ at aK aH aI aU aA aB HB bF hHeld ⊢; refine pure_ (i := 0) (N := some 71) (v := ?_) (a' := ?_) (mB 7 1) rfl rfl (by kernel_rfl) (fun _ _ _ h => h) (Or.inl ⟨by rfl, ?_⟩) ?_ ?_; rotate_left
                  ·intro w'; go_simp; with_reducible rfl
                  rotate_left
                  ·simp only [Act.put, sa_, sb_, sc_, i64_w, i32_w]; rfl
                  refine pure_ (i := 1) (N := some 72) (v := ?_) (a' := ?_) (mB 7 3) rfl rfl (by kernel_rfl) (fun _ _ _ h => h) (Or.inl ⟨by rfl, ?_⟩) ?_ ?_; rotate_left
                  ·intro w'; go_simp; with_reducible rfl
                  rotate_left
                  ·simp only [Act.put, sa_, sb_, sc_, i64_w, i32_w]; rfl
                  refine pure_ (i := 2) (N := some 73) (v := ?_) (a' := ?_) (mB 7 7) rfl rfl (by kernel_rfl) (fun _ _ _ h => h) (Or.inl ⟨by rfl, ?_⟩) ?_ ?_; rotate_left
                  ·intro w'; go_simp; with_reducible rfl
                  rotate_left
                  ·simp only [Act.put, sa_, sb_, sc_, i64_w, i32_w]; rfl
                  refine pure_ (i := 4) (N := some 75) (v := ?_) (a' := ?_) (mB 7 23) rfl rfl (by kernel_rfl) (fun _ _ _ h => h) (Or.inl ⟨by rfl, ?_⟩) ?_ ?_; rotate_left
                  ·intro w'; go_simp; with_reducible rfl
                  rotate_left
                  ·simp only [Act.put, sa_, sb_, sc_, i64_w, i32_w]; rfl
                  refine take_ (i := 3) (N := some 74) (v := ?_) (a' := ?_) (mB 7 31) rfl rfl (by kernel_rfl) (fun _ _ _ h => h) (Or.inl ⟨by rfl, ?_⟩) hHeld ?_ ?_; rotate_left
                  ·rintro w' ⟨s0, s1, s2, s3, s4, s5, s6⟩; go_simp; with_reducible rfl
                  rotate_left
                  ·simp only [Act.put, sa_, sb_, sc_, i64_w, i32_w]; rfl
                  refine take_ (i := 5) (N := some 76) (v := ?_) (a' := ?_) (mB 7 63) rfl rfl (by kernel_rfl) (fun _ _ _ h => h) (Or.inl ⟨by rfl, ?_⟩) hHeld ?_ ?_; rotate_left
                  ·rintro w' ⟨s0, s1, s2, s3, s4, s5, s6⟩; go_simp; with_reducible rfl
                  rotate_left
                  ·simp only [Act.put, sa_, sb_, sc_, i64_w, i32_w]; rfl
                  refine pure_ (i := 6) (N := some 77) (v := ?_) (a' := ?_) (mB 7 127) rfl rfl (by kernel_rfl) (fun _ _ _ h => h) (Or.inl ⟨by rfl, ?_⟩) ?_ ?_; rotate_left
                  ·intro w'; go_simp; with_reducible rfl
                  rotate_left
                  ·simp only [Act.put, sa_, sb_, sc_, i64_w, i32_w]; rfl
                  refine done_ (by kernel_rfl) ?_
                  try go_wp2_with (first | ((with_reducible refine gate_callee (f := 10) rfl ?_); refine goesL_ (some 78) rfl rfl Try.func10 (by kernel_rfl) rfl #[] rfl (by (try simp only [List.map_toArray, List.map_cons, List.map_nil]); first | done | rfl | (simp only [List.length_drop, List.length_take]; rfl)) ?_; (with_reducible refine (rillmeterlaw15_awake.calls k2  bM _ lK.out).mono ?_); rintro e nK ⟨rfl, hb⟩; refine ⟨_, rfl, ?_⟩; have n0_ := mk_ (Kd.R_below (by (with_reducible repeat (first | apply Kd.R_alloc | apply Kd.R_drewN | apply Kd.R_drew)); exact aK.out) hb); have n1_ := mk_ (Kd.N_below (by (with_reducible repeat (first | apply Kd.N_alloc | apply Kd.N_drewN | apply Kd.N_drew)); exact aH.out) hb); have n2_ := vs_ aI hb; have n3_ := mk_ (Kd.N_below (by (with_reducible repeat (first | apply Kd.N_alloc | apply Kd.N_drewN | apply Kd.N_drew)); exact aU.out) hb); have n4_ := bb_ aA hb; have n5_ := bb_ aB hb; have n6_ := bs_ HB hb; clear aK; clear aH; clear aI; clear aU; clear aA; clear aB; clear HB; have aK := n0_; have aH := n1_; have aI := n2_; have aU := n3_; have aA := n4_; have aB := n5_; have HB := n6_; clear n0_ n1_ n2_ n3_ n4_ n5_ n6_; (try clear hb); (try clear hb2); (try clear hk); (try clear hi)))
                  go_ret; exact ⟨by first | rfl | (simp [errW_none, errW_some] <;> rfl) | (simp [*, errW_none, errW_some] <;> rfl), bl_ HB⟩
                 ·rw [if_neg bW] at H; have dR : decide (a0_2 < (rd y425 aG)) = false := decide_eq_false bW; clear bW; have H' := mk_ H; clear H; have bC : 0 ≤ (aJ : Int) := of_decide_eq_true (by first | (with_reducible assumption) | assumption); have bD : aJ < (l1.length : Int) := of_decide_eq_true (by first | (with_reducible assumption) | assumption); obtain ⟨cD, e417, bE⟩ := Kd.at_string HR1.out aJ bC bD
                  cases e417; (try replace bE := bt_ HB bE); replace bC := eq_true bC; replace bD := eq_true bD; obtain ⟨i055, hi055, _, hsz55, _⟩ := info_parts info9; obtain ⟨hcut55, hA55, hC55⟩ := print_take_of (P := Try.prog) Value.string (⟨#[]⟩ : ByteArray) 61 9 .i64 Try.underlying61 hi055 hsz55 (some cD) c1 l1 aJ (of_decide_eq_true (by first | (with_reducible assumption) | assumption)) (of_decide_eq_true (by first | (with_reducible assumption) | assumption)) HC1.out; have HR418 := mk_ (Kd.C_of_reads (h1 := fun _ => rfl) (hA55 _ (Kd.reads_of_C HR1.out))); have HC418 := mk_ hC55; clear hA55 hC55 hi055 hsz55
                  try go_wp2_with (first | ((with_reducible refine gate_callee (f := 24) rfl ?_); refine goesL_ (some 55) rfl rfl Try.func24 (by kernel_rfl) rfl #[.slice (some cD) (l1.take (aJ : Int).toNat).length c1, .string (rdOf ByteArray.empty l1 aJ)] rfl (by (try simp only [List.map_toArray, List.map_cons, List.map_nil]); first | done | (rw [show (l1.take (aJ : Int).toNat).length = aJ.toNat from (by rw [List.length_take]; have h_ : (aJ : Int) ≤ (l1.length : Int) := of_decide_eq_true (by first | (with_reducible assumption) | assumption); omega)] <;> rfl) | rfl | (simp only [List.length_drop, List.length_take]; rfl)) ?_; (with_reducible refine (rillmeterlaw15_many.calls k2 _ _ (l1.take (aJ : Int).toNat) (rdOf ByteArray.empty l1 aJ) bV _ ?side1 ?side2 fD.out).mono ?_); (case side1 => repeat (first | exact (Kd.C_below HR418.out HB.out) | (with_reducible refine Kd.C_alloc ?_ _) | (with_reducible refine Kd.C_drewN ?_ _) | (with_reducible refine Kd.C_drew ?_))); (case side2 => exact HC418.out); rintro e w' ⟨rfl, ⟨nd, rfl⟩⟩; refine ⟨_, rfl, ?_⟩; (try (rw [drewN_self wr]; generalize hq_ : World.drewN wr _ = wr; have n0_ : Aside0 (Kd.N k56 56 wr w.heap.size (fun k_ => some k_ ≠ (bJ : Value).ownBlock ∧ k_ ≠ aC ∧ k_ ≠ aE) (.slice aO aF.length aP) aF) := ⟨by rw [← hq_]; exact (by (with_reducible repeat (first | apply Kd.N_alloc | apply Kd.N_drewN | apply Kd.N_drew)); exact aH.out)⟩; have n1_ : Aside0 (Kd.V (Kd.slice 3 (Kd.int .i64)) 57 wr w.heap.size (fun k_ => some k_ ≠ (.slice aO aF.length aP : Value).ownBlock ∧ some k_ ≠ (bJ : Value).ownBlock ∧ k_ ≠ aC ∧ k_ ≠ aE) (.slice aX aD.length aV) aD) := ⟨by rw [← hq_]; exact (vl_ (Kd.V_mono aI.out (fun _ hk => ⟨hk.2.1, ⟨hk.1, ⟨hk.2.2.1, hk.2.2.2⟩⟩⟩)))⟩; have n2_ : Aside0 (Kd.R (Kd.int .i64) 3 wr w.heap.size (fun _ => True) bJ aL) := ⟨by rw [← hq_]; exact (by (with_reducible repeat (first | apply Kd.R_alloc | apply Kd.R_drewN | apply Kd.R_drew)); exact aK.out)⟩; have n3_ : Aside0 (wr.heap[aC]? = some (.cells #[.int .u64 a0_0, .int .i64 a0_1, .int .i64 a0_2, .int .i64 a0_3, .int .i64 a0_4, .int .i64 a0_5] 60 (0, 0))) := ⟨by rw [← hq_]; exact (bk_ aA)⟩; have n4_ : Aside0 (wr.heap[aE]? = some (.cells #[.int .u64 aM, .int .i64 aN, .int .i64 aQ, .slice aO aF.length aP, .int .u64 aR, .int .i64 aS, .slice aX aD.length aV] 28 (0, 0))) := ⟨by rw [← hq_]; exact (bk_ aB)⟩; have n5_ : Aside0 (Below w.heap.size w wr) := ⟨by rw [← hq_]; exact (bl_ HB)⟩; clear aH aI aK aA aB HB hq_; have aH := n0_; have aI := n1_; have aK := n2_; have aA := n3_; have aB := n4_; have HB := n5_; clear n0_ n1_ n2_ n3_ n4_ n5_))))
                  replace aK := mk_ (Kd.R_drew aK.out); replace aH := mk_ (Kd.N_drew aH.out); replace aI := mk_ (Kd.V_drew aI.out); replace aA := bd_ aA; replace aB := bd_ aB; replace HB := mk_ (below_drew1 HB.out); refine start_ (n := 9) (S := fun w' => w'.cell? ⟨aC, 0, none⟩ = some (.int .u64 a0_0) ∧ w'.cell? ⟨aC, 1, none⟩ = some (.int .i64 a0_1) ∧ w'.cell? ⟨aC, 2, none⟩ = some (.int .i64 a0_2) ∧ w'.cell? ⟨aC, 3, none⟩ = some (.int .i64 a0_3) ∧ w'.cell? ⟨aC, 4, none⟩ = some (.int .i64 a0_4) ∧ w'.cell? ⟨aC, 5, none⟩ = some (.int .i64 a0_5)) (ds := []) (mB 9 0) (by kernel_rfl) rfl rfl ⟨bc_ aA 0, bc_ aA 1, bc_ aA 2, bc_ aA 3, bc_ aA 4, bc_ aA 5⟩ (fun hHeld => ?_); refine with_tabW rillmeterlaw15_ElasticFew.tab9 rillmeterlaw15_ElasticFew.bits9 (fun HT_ HW_ => ?_); generalize wr.drew = lP at aK aH aI aA aB HB hHeld ⊢; refine pq_ 0 57 9 1 HT_ ?_
                  refine pq_ 2 59 9 5 HT_ ?_
                  refine pq_ 6 63 9 69 HT_ ?_
                  refine tq_ 1 58 9 71 HT_ HW_ hHeld ?_
                  refine tq_ 3 60 9 79 HT_ HW_ hHeld ?_
                  refine one_ (i := 4) (N := some 61) (mB 9 95) rfl rfl (one_of HT_.out (by kernel_rfl)) (by decide) (fun K hK => ?_); refine Kd.N_make_step k74 _ 74 (by rfl) (N' := 61) rfl 29 _ _ rfl a0_1 rfl rfl Try.underlying29 (.agg #[(.slice none 0 0), (.int .i64 0)]) 32 info74 rfl (by decide) (by omega) z74 (ok := fun k_ => lP.heap.size ≤ k_) (okp := fun _ => False) (k74_mkF _ _ z74 (Nat.le_refl _) (Kd.F_nil _ _ _)) (fun _ hk => hk.elim) (Nat.le_refl _) (of_decide_eq_true (by first | (with_reducible assumption) | assumption)) (Nat.le_trans (Nat.mul_le_mul_right _ (of_decide_eq_true (by first | (with_reducible assumption) | assumption) : a0_1.toNat ≤ 8796093022208)) (by omega)) (Below.refl _ _) (Nat.le_refl _) ?_; intro lM nL ho58 hb hg_ hnew_; clear hg_ hnew_
                  (first | rw [← dP.out] at ho58 | (simp only [Int.reduceToNat] at ho58; rw [← dP.out] at ho58))
                  replace aI := mk_ (Kd.V_elder' (vk_ aI) (by first | exact Kd.N_base ho58 | exact Kd.S_base ho58) hb); have aU := mk_ (Kd.N_lower (Kd.N_mono (ok' := fun k_ => some k_ ≠ (bJ : Value).ownBlock ∧ some k_ ≠ (.slice aO aF.length aP : Value).ownBlock ∧ k_ ≠ aC ∧ k_ ≠ aE) ho58 (fun k_ bB => ⟨(Kd.fresh' (Kd.R_lt (by (with_reducible repeat (first | apply Kd.R_alloc | apply Kd.R_drewN | apply Kd.R_drew)); exact aK.out)) k_ bB), (Kd.fresh' (Kd.N_lt (by (with_reducible repeat (first | apply Kd.N_alloc | apply Kd.N_drewN | apply Kd.N_drew)); exact aH.out)) k_ bB), (Kd.freshB (bk_ aA) k_ bB), (Kd.freshB (bk_ aB) k_ bB)⟩)) (below_size (bl_ HB))); replace aK := mk_ (Kd.R_below (by (with_reducible repeat (first | apply Kd.R_alloc | apply Kd.R_drewN | apply Kd.R_drew)); exact aK.out) hb); replace aH := mk_ (Kd.N_elder' (by (with_reducible repeat (first | apply Kd.N_alloc | apply Kd.N_drewN | apply Kd.N_drew)); exact aH.out) (by first | exact Kd.N_base ho58 | exact Kd.S_base ho58) hb); replace aA := bb_ aA hb
                  replace aB := bb_ aB hb; replace HB := bs_ HB hb; clear hb ho58; obtain ⟨fH, fI, eo59⟩ := Kd.N_slice aU.out
                  (first | subst eo59 | (injection eo59 with f1_ f2_ f3_; have f4_ := f1_.symm; have f5_ := f3_.symm; clear f1_ f2_ f3_; subst f4_; subst f5_))
                  refine hK.out _ _ ⟨bc_ aA 0, bc_ aA 1, bc_ aA 2, bc_ aA 3, bc_ aA 4, bc_ aA 5⟩ (fun hHeld => ?_); clear hK K; refine norm_ (a' := ?_) ?_ ?_; rotate_left
                  ·show Act.put _ (some 61) _ = _
                   simp only [Act.put, sa_, sb_, sc_, i64_w, i32_w]; rfl
                  refine pq_ 5 62 9 127 HT_ ?_
                  refine one_ (i := 7) (N := some 64) (mB 9 255) rfl rfl (one_of HT_.out (by kernel_rfl)) (by decide) (fun K hK => ?_); refine goes_ Try.func26 (by kernel_rfl) rfl #[.agg #[.int .u64 a0_0, .int .i64 0, .int .i64 0, .slice fH y420.length fI, .int .u64 0, .int .i64 0, .slice none 0 0], .string (rdOf ByteArray.empty l1 aJ)] (by rfl) rfl rfl (by (try simp only [List.map_toArray, List.map_cons, List.map_nil]); first | done | rfl | (simp only [List.length_drop, List.length_take]; rfl)) ?_; refine (rillmeterref15_Place.calls k2 a0_0 0 0 _ _ y420 0 0 _ _ ([] : List (List Int)) (rdOf ByteArray.empty l1 aJ) aG _ ?side1 ?side2 ?side3 ?side4 hX.out).mono ?_; (case side1 => repeat (first | exact (Kd.N_reads' aU.out).2.2 | (with_reducible refine Kd.C_alloc ?_ _) | (with_reducible refine Kd.C_drewN ?_ _) | (with_reducible refine Kd.C_drew ?_))); (case side2 => exact (Kd.N_reads' aU.out).2.1); (case side3 => exact Kd.C_nil _ _); (case side4 => exact Nat.le_refl _); rintro e iA ⟨rfl, hb⟩; refine ⟨_, rfl, ?_⟩; replace aK := mk_ (Kd.R_below (by (with_reducible repeat (first | apply Kd.R_alloc | apply Kd.R_drewN | apply Kd.R_drew)); exact aK.out) hb); replace aH := mk_ (Kd.N_below (by (with_reducible repeat (first | apply Kd.N_alloc | apply Kd.N_drewN | apply Kd.N_drew)); exact aH.out) hb); replace aI := vs_ aI hb
                  replace aU := mk_ (Kd.N_below (by (with_reducible repeat (first | apply Kd.N_alloc | apply Kd.N_drewN | apply Kd.N_drew)); exact aU.out) hb); replace aA := bb_ aA hb; replace aB := bb_ aB hb; replace HB := bs_ HB hb; (try clear hb); refine hK.out _ _ ⟨bc_ aA 0, bc_ aA 1, bc_ aA 2, bc_ aA 3, bc_ aA 4, bc_ aA 5⟩ (fun hHeld => ?_); clear hK K; refine norm_ (a' := ?_) ?_ ?_; rotate_left
                  ·show Act.put _ (some 64) _ = _
                   simp only [Act.put, sa_, sb_, sc_, i64_w, i32_w]; rfl
                  refine pq_ 8 10 9 511 HT_ ?_
                  refine done_ (done_of HT_.out (by kernel_rfl)) ?_; obtain ⟨nM, cN, eo61⟩ := Kd.R_slice aK.out; subst eo61; have bO : 0 ≤ (aG : Int) := of_decide_eq_true (by first | (with_reducible assumption) | assumption); have bP : aG < (aL.length : Int) := of_decide_eq_true (by first | (with_reducible assumption) | assumption); obtain ⟨lN, e424, cU⟩ := Kd.at_int (Kd.R_reads' aK.out).2.2 aG bO bP
                  cases e424; replace bO := eq_true bO; replace bP := eq_true bP; have bH : 0 ≤ (aG : Int) := of_decide_eq_true (by first | (with_reducible assumption) | assumption); have bI : (aG : Int) < ((aL.length : Int) : Int) := of_decide_eq_true (by first | (with_reducible assumption) | assumption); obtain ⟨go41, lO, eo41, dC, gl41, cl41, HG41⟩ := Kd.R_form aK.out (by omega)
                  (first | cases eo41 | (injection eo41 with ea_ en_ ec_; (first | subst ea_ | (injection ea_ with ea_; subst ea_)); subst ec_; clear en_))
                  have GB41 := mk_ dC; have GG41 := mk_ HG41; clear dC gl41 HG41
                  (first | simp only [add_plain] at cU | skip)
                  obtain ⟨dS, hf41_0⟩ := Kd.R_celln 0 aK.out (aG : Int) bH bI; replace bH := eq_true bH; replace bI := eq_true bI; obtain ⟨hy62_, hz62_⟩ := Kd.R_celln 0 aK.out (aG : Int) (of_decide_eq_true (by first | (with_reducible assumption) | assumption)) (of_decide_eq_true (by first | (with_reducible assumption) | assumption)); have HP62 := Kd.R_putg aK.out (aG : Int) (wrap64 ((rd aL aG) + 1))
                  try go_wp2_with (first | ((with_reducible refine gate_store (t := 3) (p := 70) rfl ?_); refine store_event (t := 3) (p := 70) (v := ?vo_w63) (w1 := (iA.setCell ⟨go41, (aG : Int).toNat, none⟩ (.int .i64 (wrap64 ((rd aL aG) + 1))))) ?hg ?ho ?hn ?hr ?_; (case ho => rfl); (case hg => rfl); (case hn => rfl); (case hr => first | (go_simp; done) | (go_simp; rfl)); intro dU hw; have hg : iA.grownBy dU (some go41) := (by rw [hw]; exact HP62.2); have hp_ : Kd.R (Kd.int .i64) 3 dU w.heap.size (fun _ => True) (.slice (some ⟨go41, 0, none⟩) aL.length cN) y425 := (by rw [hw, dQ.out]; exact HP62.1); clear HP62; have n0_ := mk_ (hp_); have n1_ := mk_ (Kd.N_afterv (v := (.slice (some ⟨go41, 0, none⟩) aL.length cN)) (v1 := (.slice (some ⟨go41, 0, none⟩) aL.length cN)) (ok := (fun k_ => some k_ ≠ (.slice fH y420.length fI : Value).ownBlock ∧ k_ ≠ aC ∧ k_ ≠ aE)) (by (with_reducible repeat (first | apply Kd.N_alloc | apply Kd.N_drewN | apply Kd.N_drew)); exact Kd.N_mono aH.out (fun _ hk => ⟨⟨hk.2, ⟨hk.1.2.1, hk.1.2.2⟩⟩, hk.1.1⟩)) hg (.inl rfl)); have n2_ := mk_ (Kd.V_afterv (v := (.slice (some ⟨go41, 0, none⟩) aL.length cN)) (v1 := (.slice (some ⟨go41, 0, none⟩) aL.length cN)) (ok := (fun k_ => some k_ ≠ (.slice aO aF.length aP : Value).ownBlock ∧ some k_ ≠ (.slice fH y420.length fI : Value).ownBlock ∧ k_ ≠ aC ∧ k_ ≠ aE)) (vl_ (Kd.V_mono aI.out (fun _ hk => ⟨⟨hk.1.1, ⟨hk.2, ⟨hk.1.2.2.1, hk.1.2.2.2⟩⟩⟩, hk.1.2.1⟩))) hg (.inl rfl)); have n3_ := mk_ (blk_grown (bk_ aA) hg (Kd.R_ne aK.out aA.out (by decide))); have n4_ := mk_ (blk_grown (bk_ aB) hg (Kd.R_ne aK.out aB.out (by decide))); have n5_ := mk_ (Kd.N_afterv (v := (.slice (some ⟨go41, 0, none⟩) aL.length cN)) (v1 := (.slice (some ⟨go41, 0, none⟩) aL.length cN)) (ok := (fun k_ => some k_ ≠ (.slice aO aF.length aP : Value).ownBlock ∧ k_ ≠ aC ∧ k_ ≠ aE)) (by (with_reducible repeat (first | apply Kd.N_alloc | apply Kd.N_drewN | apply Kd.N_drew)); exact Kd.N_mono aU.out (fun _ hk => ⟨⟨hk.2.1, ⟨hk.2.2.1, hk.2.2.2⟩⟩, hk.1⟩)) hg (.inl rfl)); have n6_ := mk_ ((by rw [hw]; exact below_set (HB.out) GB41.out : Below w.heap.size w dU)); clear aK; clear aH; clear aI; clear aA; clear aB; clear aU; clear HB; have aK := n0_; have aH := n1_; have aI := n2_; have aA := n3_; have aB := n4_; have aU := n5_; have HB := n6_; clear n0_ n1_ n2_ n3_ n4_ n5_ n6_; clear hg hw hp_))
                  replace aK := mk_ (Kd.R_drew aK.out); replace aH := mk_ (Kd.N_drew aH.out); replace aI := mk_ (Kd.V_drew aI.out); replace aU := mk_ (Kd.N_drew aU.out); replace aA := bd_ aA; replace aB := bd_ aB; replace HB := mk_ (below_drew1 HB.out); have bQ : 0 ≤ (aG : Int) := of_decide_eq_true (by first | (with_reducible assumption) | assumption); have bR : aG < (y425.length : Int) := (by have h_ : (aG : Int) < ((aL.length : Int) : Int) := of_decide_eq_true (by first | (with_reducible assumption) | assumption); first | (have e_ := (Kd.R_reads' aK.out).1; omega) | simpa only [dQ.out, List.length_set] using h_); have ql426 : ((aG : Int) < ((aL.length : Int) : Int)) = True := eq_true (of_decide_eq_true (by first | (with_reducible assumption) | assumption)); obtain ⟨fG, e426, bF⟩ := Kd.at_int (Kd.R_reads' aK.out).2.2 aG bQ bR; obtain rfl : (⟨go41, 0, none⟩ : Addr) = fG := (by injection e426)
                  (first | simp only [add_plain] at bF | simp only [add_at] at bF | simp only [Addr.add, Nat.zero_add] at bF | skip)
                  replace bQ := eq_true bQ; replace bR := eq_true bR; refine start_ (n := 7) (S := fun w' => w'.cell? ⟨aC, 0, none⟩ = some (.int .u64 a0_0) ∧ w'.cell? ⟨aC, 1, none⟩ = some (.int .i64 a0_1) ∧ w'.cell? ⟨aC, 2, none⟩ = some (.int .i64 a0_2) ∧ w'.cell? ⟨aC, 3, none⟩ = some (.int .i64 a0_3) ∧ w'.cell? ⟨aC, 4, none⟩ = some (.int .i64 a0_4) ∧ w'.cell? ⟨aC, 5, none⟩ = some (.int .i64 a0_5) ∧ w'.cell? ⟨go41, (aG).toNat, none⟩ = some (.int .i64 (rd y425 aG))) (ds := []) (mB 7 0) (by kernel_rfl) rfl rfl ⟨bc_ aA 0, bc_ aA 1, bc_ aA 2, bc_ aA 3, bc_ aA 4, bc_ aA 5, bF⟩ (fun hHeld => ?_); generalize dU.drew = nN at aK aH aI aU aA aB HB bF hHeld ⊢; refine pure_ (i := 0) (N := some 71) (v := ?_) (a' := ?_) (mB 7 1) rfl rfl (by kernel_rfl) (fun _ _ _ h => h) (Or.inl ⟨by rfl, ?_⟩) ?_ ?_; rotate_left
                  ·intro w'; go_simp; with_reducible rfl
                  rotate_left
                  ·simp only [Act.put, sa_, sb_, sc_, i64_w, i32_w]; rfl
                  refine pure_ (i := 1) (N := some 72) (v := ?_) (a' := ?_) (mB 7 3) rfl rfl (by kernel_rfl) (fun _ _ _ h => h) (Or.inl ⟨by rfl, ?_⟩) ?_ ?_; rotate_left
                  ·intro w'; go_simp; with_reducible rfl
                  rotate_left
                  ·simp only [Act.put, sa_, sb_, sc_, i64_w, i32_w]; rfl
                  refine pure_ (i := 2) (N := some 73) (v := ?_) (a' := ?_) (mB 7 7) rfl rfl (by kernel_rfl) (fun _ _ _ h => h) (Or.inl ⟨by rfl, ?_⟩) ?_ ?_; rotate_left
                  ·intro w'; go_simp; with_reducible rfl
                  rotate_left
                  ·simp only [Act.put, sa_, sb_, sc_, i64_w, i32_w]; rfl
                  refine pure_ (i := 4) (N := some 75) (v := ?_) (a' := ?_) (mB 7 23) rfl rfl (by kernel_rfl) (fun _ _ _ h => h) (Or.inl ⟨by rfl, ?_⟩) ?_ ?_; rotate_left
                  ·intro w'; go_simp; with_reducible rfl
                  rotate_left
                  ·simp only [Act.put, sa_, sb_, sc_, i64_w, i32_w]; rfl
                  refine take_ (i := 3) (N := some 74) (v := ?_) (a' := ?_) (mB 7 31) rfl rfl (by kernel_rfl) (fun _ _ _ h => h) (Or.inl ⟨by rfl, ?_⟩) hHeld ?_ ?_; rotate_left
                  ·rintro w' ⟨s0, s1, s2, s3, s4, s5, s6⟩; go_simp; with_reducible rfl
                  rotate_left
                  ·simp only [Act.put, sa_, sb_, sc_, i64_w, i32_w]; rfl
                  refine take_ (i := 5) (N := some 76) (v := ?_) (a' := ?_) (mB 7 63) rfl rfl (by kernel_rfl) (fun _ _ _ h => h) (Or.inl ⟨by rfl, ?_⟩) hHeld ?_ ?_; rotate_left
                  ·rintro w' ⟨s0, s1, s2, s3, s4, s5, s6⟩; go_simp; with_reducible rfl
                  rotate_left
                  ·simp only [Act.put, sa_, sb_, sc_, i64_w, i32_w]; rfl
                  refine pure_ (i := 6) (N := some 77) (v := ?_) (a' := ?_) (mB 7 127) rfl rfl (by kernel_rfl) (fun _ _ _ h => h) (Or.inl ⟨by rfl, ?_⟩) ?_ ?_; rotate_left
                  ·intro w'; go_simp; with_reducible rfl
                  rotate_left
                  ·simp only [Act.put, sa_, sb_, sc_, i64_w, i32_w]; rfl
                  refine done_ (by kernel_rfl) ?_
                  try go_wp2
                  go_roundg k2
                  case measure => have := HJ3.out; have := HK2.out; omega
                  case rel => exact ⟨(y425), (wrap64 (aJ + 1)), (by first | rfl | (simp; done) | (simp [*]; done)), H', ⟨by have := HJ3.out; have := HK2.out; omega⟩, ⟨by (with_reducible repeat (first | apply Kd.R_alloc | apply Kd.R_drewN | apply Kd.R_drew)); exact aK.out⟩, ⟨by (with_reducible repeat (first | apply Kd.N_alloc | apply Kd.N_drewN | apply Kd.N_drew)); exact Kd.N_mono aH.out (fun _ hk => ⟨hk.2, ⟨hk.1.2.1, hk.1.2.2⟩⟩)⟩, ⟨by (with_reducible repeat (first | apply Kd.V_alloc | apply Kd.V_drewN | apply Kd.V_drew)); exact Kd.V_mono aI.out (fun _ hk => ⟨hk.2, ⟨hk.1.1, ⟨hk.1.2.2.1, hk.1.2.2.2⟩⟩⟩)⟩, ⟨bk_ aA⟩, ⟨bk_ aB⟩, ⟨bl_ HB⟩⟩
                ·rw [if_neg cL] at H; exact absurd H (by simp)
               ·rw [if_neg cK] at H; exact absurd H (by simp)
              ·rw [if_neg cC] at H; exact absurd H (by simp)
             ·rw [if_neg cB] at H; exact absurd H (by simp)
            ·rw [if_neg bN] at H; have dN : (bV == 0) = false := beq_eq_false_iff_ne.mpr bN; have dO : (bV != 0) = true := bne_iff_ne.mpr bN; have H' := mk_ H; clear H; have bC : 0 ≤ (aJ : Int) := of_decide_eq_true (by first | (with_reducible assumption) | assumption); have bD : aJ < (l1.length : Int) := of_decide_eq_true (by first | (with_reducible assumption) | assumption); obtain ⟨cD, e417, bE⟩ := Kd.at_string HR1.out aJ bC bD
             cases e417; (try replace bE := bt_ HB bE); replace bC := eq_true bC; replace bD := eq_true bD; obtain ⟨i065, hi065, _, hsz65, _⟩ := info_parts info9; obtain ⟨hcut65, hA65, hC65⟩ := print_take_of (P := Try.prog) Value.string (⟨#[]⟩ : ByteArray) 61 9 .i64 Try.underlying61 hi065 hsz65 (some cD) c1 l1 aJ (of_decide_eq_true (by first | (with_reducible assumption) | assumption)) (of_decide_eq_true (by first | (with_reducible assumption) | assumption)) HC1.out; have HR418 := mk_ (Kd.C_of_reads (h1 := fun _ => rfl) (hA65 _ (Kd.reads_of_C HR1.out))); have HC418 := mk_ hC65; clear hA65 hC65 hi065 hsz65
             go_wp2_with (first | ((with_reducible refine gate_callee (f := 24) rfl ?_); refine goesL_ (some 55) rfl rfl Try.func24 (by kernel_rfl) rfl #[.slice (some cD) (l1.take (aJ : Int).toNat).length c1, .string (rdOf ByteArray.empty l1 aJ)] rfl (by (try simp only [List.map_toArray, List.map_cons, List.map_nil]); first | done | (rw [show (l1.take (aJ : Int).toNat).length = aJ.toNat from (by rw [List.length_take]; have h_ : (aJ : Int) ≤ (l1.length : Int) := of_decide_eq_true (by first | (with_reducible assumption) | assumption); omega)] <;> rfl) | rfl | (simp only [List.length_drop, List.length_take]; rfl)) ?_; (with_reducible refine (rillmeterlaw15_many.calls k2 _ _ (l1.take (aJ : Int).toNat) (rdOf ByteArray.empty l1 aJ) bV _ ?side1 ?side2 fD.out).mono ?_); (case side1 => repeat (first | exact (Kd.C_below HR418.out HB.out) | (with_reducible refine Kd.C_alloc ?_ _) | (with_reducible refine Kd.C_drewN ?_ _) | (with_reducible refine Kd.C_drew ?_))); (case side2 => exact HC418.out); rintro e w' ⟨rfl, ⟨nd, rfl⟩⟩; refine ⟨_, rfl, ?_⟩))
             go_roundg k2
             case measure => have := HJ3.out; have := HK2.out; omega
             case rel => exact ⟨(aL), (wrap64 (aJ + 1)), (by first | rfl | (simp; done) | (simp [*]; done)), H', ⟨by have := HJ3.out; have := HK2.out; omega⟩, ⟨by (with_reducible repeat (first | apply Kd.R_alloc | apply Kd.R_drewN | apply Kd.R_drew)); exact aK.out⟩, ⟨by (with_reducible repeat (first | apply Kd.N_alloc | apply Kd.N_drewN | apply Kd.N_drew)); exact aH.out⟩, ⟨by (with_reducible repeat (first | apply Kd.V_alloc | apply Kd.V_drewN | apply Kd.V_drew)); exact aI.out⟩, ⟨bk_ aA⟩, ⟨bk_ aB⟩, ⟨bl_ HB⟩⟩
           ·rw [if_neg cA] at H; exact absurd H (by simp)
          ·rw [if_neg cJ] at H; exact absurd H (by simp)
         ·rw [if_neg cI] at H; exact absurd H (by simp)
        ·rw [if_neg bU] at H; have dM : decide (aJ < (l1.length : Int)) = false := decide_eq_false bU; clear bU; have H' := mk_ H; clear H
         go_wp2
         go_loopg [82] k2 (fun kq lQ w' => ∃ (aW : Int), lQ = .int .i64 aW ∧ Aside0 (rillmeterlaw15_ElasticFew.l1 kq l1 l1 (l1.length : Int) aW aM aN aQ aF aR aS aD = some r) ∧ Aside0 (kq ≤ k2) ∧ Aside0 (Kd.N k56 56 w' w.heap.size (fun k_ => k_ ≠ aC ∧ k_ ≠ aE) (.slice aO aF.length aP) aF) ∧ Aside0 (Kd.V (Kd.slice 3 (Kd.int .i64)) 57 w' w.heap.size (fun k_ => some k_ ≠ ((.slice aO aF.length aP) : Value).ownBlock ∧ k_ ≠ aC ∧ k_ ≠ aE) (.slice aX aD.length aV) aD) ∧ Aside0 (w'.heap[aC]? = some (.cells #[.int .u64 a0_0, .int .i64 a0_1, .int .i64 a0_2, .int .i64 a0_3, .int .i64 a0_4, .int .i64 a0_5] 60 (0, 0))) ∧ Aside0 (w'.heap[aE]? = some (.cells #[.int .u64 aM, .int .i64 aN, .int .i64 aQ, (.slice aO aF.length aP), .int .u64 aR, .int .i64 aS, (.slice aX aD.length aV)] 28 (0, 0))) ∧ Aside0 (Below w.heap.size w w'))
         case atStart => exact ⟨(0), (by first | rfl | (simp; done) | (simp [*]; done)), H', ⟨Nat.le_refl _⟩, ⟨by (with_reducible repeat (first | apply Kd.N_alloc | apply Kd.N_drewN | apply Kd.N_drew)); exact Kd.N_mono aH.out (fun _ hk => ⟨hk.2.1, hk.2.2⟩)⟩, ⟨by (with_reducible repeat (first | apply Kd.V_alloc | apply Kd.V_drewN | apply Kd.V_drew)); exact Kd.V_mono aI.out (fun _ hk => ⟨hk.2.1, ⟨hk.2.2.1, hk.2.2.2⟩⟩)⟩, ⟨bk_ aA⟩, ⟨bk_ aB⟩, ⟨bl_ HB⟩⟩
         case round =>
          clear H'; (try clear c1); (try clear c2); (try clear p2); (try clear c3); (try clear c4); (try clear p4); (try clear q4); (try clear hx4); (try clear hf4); (try clear p6); (try clear fC); (try clear bT); (try clear iB); (try clear bU); (try clear dM); (try clear cI); (try clear cJ); (try clear cA); (try clear bN); (try clear dN); (try clear dO); (try clear cB); (try clear cC); (try clear cK); (try clear cL); (try clear bH); (try clear bI); (try clear hx41); (try clear hf41); (try clear bW); (try clear dR); (try clear dV); (try clear dW); (try clear hx42); (try clear dX); (try clear bE); (try clear dS); (try clear cU); (try clear bF); (try clear bH); (try clear bC); (try clear bO); (try clear bQ); (try clear bI); (try clear bD); (try clear bP); (try clear bR); obtain ⟨aW, rfl, HA, HK3, aH, aI, aA, aB, HB⟩ := hrel
          cases gk with
          | zero => exact absurd HA.out (by simp [rillmeterlaw15_ElasticFew.l1])
          | succ k3 =>
           have H := HA.out; clear HA; simp only [rillmeterlaw15_ElasticFew.l1] at H
           by_cases cE : aW < (l1.length : Int)
           ·rw [if_pos cE] at H; have fJ : decide (aW < (l1.length : Int)) = true := decide_eq_true cE; clear cE
            by_cases cV : 0 ≤ aW
            ·rw [if_pos cV] at H; have iC : decide (0 ≤ aW) = true := decide_eq_true cV; clear cV
             by_cases cW : aW < (l1.length : Int)
             ·rw [if_pos cW] at H; have iD : decide (aW < (l1.length : Int)) = true := decide_eq_true cW; clear cW; replace H := Option.bind_eq_some_iff.mp H; obtain ⟨⟨cF, cG, fK, dY⟩, iE, H⟩ := H; replace H : ((rillmeterlaw15_many.f k3 l1 (rdOf ByteArray.empty l1 aW)).bind fun bA => (if cF = bA then (if cG = bA then (if fK = true then (if dY = true then (some false) else (rillmeterlaw15_ElasticFew.l1 k3 l1 l1 (l1.length : Int) (wrap64 (aW + 1)) aM aN aQ aF aR aS aD)) else (some false)) else (some false)) else (some false))) = some r := H; have lR := mk_ iE; clear iE; replace H := Option.bind_eq_some_iff.mp H; obtain ⟨bA, iF, H⟩ := H; replace H : (if cF = bA then (if cG = bA then (if fK = true then (if dY = true then (some false) else (rillmeterlaw15_ElasticFew.l1 k3 l1 l1 (l1.length : Int) (wrap64 (aW + 1)) aM aN aQ aF aR aS aD)) else (some false)) else (some false)) else (some false)) = some r := H; have lS := mk_ iF; clear iF
              by_cases bX : cF = bA
              ·rw [if_pos bX] at H; have fL : (cF == bA) = true := beq_iff_eq.mpr bX; have fM : (cF != bA) = false := bne_eq_false_iff_eq.mpr bX; clear bX
               by_cases bY : cG = bA
               ·rw [if_pos bY] at H; have fN : (cG == bA) = true := beq_iff_eq.mpr bY; have fO : (cG != bA) = false := bne_eq_false_iff_eq.mpr bY; clear bY
                by_cases cX : fK = true
                ·subst cX
                 have H1 : (if dY = true then (some false) else (rillmeterlaw15_ElasticFew.l1 k3 l1 l1 (l1.length : Int) (wrap64 (aW + 1)) aM aN aQ aF aR aS aD)) = some r := by rw [if_pos rfl] at H; exact H
                 clear H; have H := H1; clear H1
                 by_cases cY : dY = true
                 ·subst cY
                  have H1 : (some false) = some r := by rw [if_pos rfl] at H; exact H
                  clear H; have H := H1; clear H1; exact absurd ((Option.some.inj H).trans hrt.out) (by decide)
                 ·replace cY := Bool.eq_false_iff.mpr cY; subst cY
                  have H1 : (rillmeterlaw15_ElasticFew.l1 k3 l1 l1 (l1.length : Int) (wrap64 (aW + 1)) aM aN aQ aF aR aS aD) = some r := by rw [if_neg (show ¬ (false = true) by decide)] at H; exact H
                  clear H; have H := H1; clear H1; have H' := mk_ H; clear H; have dD : 0 ≤ (aW : Int) := of_decide_eq_true (by first | (with_reducible assumption) | assumption); have dE : aW < (l1.length : Int) := of_decide_eq_true (by first | (with_reducible assumption) | assumption); obtain ⟨lT, e428, dF⟩ := Kd.at_string HR1.out aW dD dE
                  cases e428; (try replace dF := bt_ HB dF); replace dD := eq_true dD; replace dE := eq_true dE; have nO := cQ.out; have nP := bG.out; obtain ⟨iG, iH, iI, iJ, iK, iL, iM⟩ := cz7_ aB; obtain ⟨iN, iO, iP, iQ, iR, iS, iT⟩ := fz7_ aB
                  go_wp2_with (first | ((with_reducible refine gate_callee (f := 12) rfl ?_); refine goesL_ (some 89) rfl rfl Try.func12 (by kernel_rfl) rfl #[.agg #[.int .u64 aM, .int .i64 aN, .int .i64 aQ, .slice aO aF.length aP, .int .u64 aR, .int .i64 aS, .slice aX aD.length aV], .string (rdOf ByteArray.empty l1 aW)] rfl (by (try simp only [List.map_toArray, List.map_cons, List.map_nil]); first | done | rfl | (simp only [List.length_drop, List.length_take]; rfl)) ?_; (with_reducible refine (elastic_Get.calls k3 aM aN aQ _ _ aF aR aS _ _ aD (rdOf ByteArray.empty l1 aW) cF cG true false _ ?side1 ?side2 ?side3 ?side4 lR.out).mono ?_); (case side1 => repeat (first | exact (Kd.N_reads' aH.out).2.2 | (with_reducible refine Kd.C_alloc ?_ _) | (with_reducible refine Kd.C_drewN ?_ _) | (with_reducible refine Kd.C_drew ?_))); (case side2 => exact (Kd.N_reads' aH.out).2.1); (case side3 => repeat (first | exact (Kd.V_reads' aI.out).2.2 | (with_reducible refine Kd.C_alloc ?_ _) | (with_reducible refine Kd.C_drewN ?_ _) | (with_reducible refine Kd.C_drew ?_))); (case side4 => exact (Kd.V_reads' aI.out).2.1); rintro e nQ ⟨rfl, hb⟩; refine ⟨_, rfl, ?_⟩; have n0_ := mk_ (Kd.N_below (by (with_reducible repeat (first | apply Kd.N_alloc | apply Kd.N_drewN | apply Kd.N_drew)); exact aH.out) hb); have n1_ := vs_ aI hb; have n2_ := bb_ aA hb; have n3_ := bb_ aB hb; have n4_ := bs_ HB hb; clear aH; clear aI; clear aA; clear aB; clear HB; have aH := n0_; have aI := n1_; have aA := n2_; have aB := n3_; have HB := n4_; clear n0_ n1_ n2_ n3_ n4_; (try clear hb); (try clear hb2); (try clear hk); (try clear hi)) | ((with_reducible refine gate_callee (f := 24) rfl ?_); refine goesL_ (some 96) rfl rfl Try.func24 (by kernel_rfl) rfl #[.slice (some lT) l1.length c1, .string (rdOf ByteArray.empty l1 aW)] rfl (by (try simp only [List.map_toArray, List.map_cons, List.map_nil]); first | done | rfl | (simp only [List.length_drop, List.length_take]; rfl)) ?_; (with_reducible refine (rillmeterlaw15_many.calls k3 _ _ l1 (rdOf ByteArray.empty l1 aW) bA _ ?side1 ?side2 lS.out).mono ?_); (case side1 => repeat (first | exact (Kd.C_below HR1.out HB.out) | (with_reducible refine Kd.C_alloc ?_ _) | (with_reducible refine Kd.C_drewN ?_ _) | (with_reducible refine Kd.C_drew ?_))); (case side2 => exact HC1.out); rintro e w' ⟨rfl, ⟨nd, rfl⟩⟩; refine ⟨_, rfl, ?_⟩))
                  go_roundg k3
                  case measure => have := HJ3.out; have := HK2.out; have := HK3.out; omega
                  case rel => exact ⟨(wrap64 (aW + 1)), (by first | rfl | (simp; done) | (simp [*]; done)), H', ⟨by have := HJ3.out; have := HK2.out; have := HK3.out; omega⟩, ⟨by (with_reducible repeat (first | apply Kd.N_alloc | apply Kd.N_drewN | apply Kd.N_drew)); exact aH.out⟩, ⟨by (with_reducible repeat (first | apply Kd.V_alloc | apply Kd.V_drewN | apply Kd.V_drew)); exact aI.out⟩, ⟨bk_ aA⟩, ⟨bk_ aB⟩, ⟨bl_ HB⟩⟩
                ·replace cX := Bool.eq_false_iff.mpr cX; subst cX
                 have H1 : (some false) = some r := by rw [if_neg (show ¬ (false = true) by decide)] at H; exact H
                 clear H; have H := H1; clear H1; exact absurd ((Option.some.inj H).trans hrt.out) (by decide)
               ·rw [if_neg bY] at H; have fN : (cG == bA) = false := beq_eq_false_iff_ne.mpr bY; have fO : (cG != bA) = true := bne_iff_ne.mpr bY; exact absurd ((Option.some.inj H).trans hrt.out) (by decide)
              ·rw [if_neg bX] at H; have fL : (cF == bA) = false := beq_eq_false_iff_ne.mpr bX; have fM : (cF != bA) = true := bne_iff_ne.mpr bX; exact absurd ((Option.some.inj H).trans hrt.out) (by decide)
             ·rw [if_neg cW] at H; exact absurd H (by simp)
            ·rw [if_neg cV] at H; exact absurd H (by simp)
           ·rw [if_neg cE] at H; have fJ : decide (aW < (l1.length : Int)) = false := decide_eq_false cE; clear cE; have H' := mk_ H; clear H; have nR := cQ.out; have nS := bG.out; obtain ⟨iU, iV, iW, iX, iY, iZ, jA⟩ := cz7_ aB; obtain ⟨jB, jC, jD, jE, jF, jG, jH⟩ := fz7_ aB
            go_wp2
            go_loopg [117] k3 (fun kq lU w' => ∃ (aT : Int), lU = .int .i64 aT ∧ Aside0 (rillmeterlaw15_ElasticFew.l2 kq aD (aD.length : Int) aT = some r) ∧ Aside0 (kq ≤ k3) ∧ Aside0 (Kd.V (Kd.slice 3 (Kd.int .i64)) 57 w' w.heap.size (fun k_ => some k_ ≠ ((.slice aO aF.length aP) : Value).ownBlock ∧ k_ ≠ aC ∧ k_ ≠ aE) (.slice aX aD.length aV) aD) ∧ Aside0 (Kd.N k56 56 w' w.heap.size (fun k_ => k_ ≠ aC ∧ k_ ≠ aE) (.slice aO aF.length aP) aF) ∧ Aside0 (Kd.V (Kd.slice 3 (Kd.int .i64)) 57 w' w.heap.size (fun k_ => some k_ ≠ ((.slice aO aF.length aP) : Value).ownBlock ∧ k_ ≠ aC ∧ k_ ≠ aE) (.slice aX aD.length aV) aD) ∧ Aside0 (w'.heap[aC]? = some (.cells #[.int .u64 a0_0, .int .i64 a0_1, .int .i64 a0_2, .int .i64 a0_3, .int .i64 a0_4, .int .i64 a0_5] 60 (0, 0))) ∧ Aside0 (w'.heap[aE]? = some (.cells #[.int .u64 aM, .int .i64 aN, .int .i64 aQ, (.slice aO aF.length aP), .int .u64 aR, .int .i64 aS, (.slice aX aD.length aV)] 28 (0, 0))) ∧ Aside0 (Below w.heap.size w w'))
            case atStart => exact ⟨(0), (by first | rfl | (simp; done) | (simp [*]; done)), H', ⟨Nat.le_refl _⟩, ⟨by (with_reducible repeat (first | apply Kd.V_alloc | apply Kd.V_drewN | apply Kd.V_drew)); exact aI.out⟩, ⟨by (with_reducible repeat (first | apply Kd.N_alloc | apply Kd.N_drewN | apply Kd.N_drew)); exact aH.out⟩, ⟨by (with_reducible repeat (first | apply Kd.V_alloc | apply Kd.V_drewN | apply Kd.V_drew)); exact aI.out⟩, ⟨bk_ aA⟩, ⟨bk_ aB⟩, ⟨bl_ HB⟩⟩
            case round =>
             clear H'; (try clear c1); (try clear c2); (try clear p2); (try clear c3); (try clear c4); (try clear p4); (try clear q4); (try clear hx4); (try clear hf4); (try clear c6); (try clear p6); (try clear c7); (try clear fC); (try clear lV); (try clear bT); (try clear iB); (try clear bU); (try clear dM); (try clear cI); (try clear cJ); (try clear cA); (try clear bN); (try clear dN); (try clear dO); (try clear cB); (try clear cC); (try clear cK); (try clear cL); (try clear bH); (try clear bI); (try clear hx41); (try clear hf41); (try clear bW); (try clear dR); (try clear dV); (try clear dW); (try clear hx42); (try clear dX); (try clear cE); (try clear fJ); (try clear cV); (try clear iC); (try clear cW); (try clear iD); (try clear bX); (try clear fL); (try clear fM); (try clear bY); (try clear fN); (try clear fO); (try clear cX); (try clear cY); (try clear lW); (try clear lX); (try clear iG); (try clear iH); (try clear iI); (try clear iJ); (try clear iK); (try clear iL); (try clear iM); (try clear iU); (try clear iV); (try clear iW); (try clear iX); (try clear iY); (try clear iZ); (try clear jA); (try clear iN); (try clear iO); (try clear iP); (try clear iQ); (try clear iR); (try clear iS); (try clear iT); (try clear jB); (try clear jC); (try clear jD); (try clear jE)
             (try clear jF); (try clear jG); (try clear jH); (try clear bE); (try clear dS); (try clear cU); (try clear bF); (try clear dF); (try clear p2); (try clear p4); (try clear bH); (try clear bC); (try clear dV); (try clear bO); (try clear bQ); (try clear dD); (try clear p6); (try clear dX); (try clear q4); (try clear bI); (try clear bD); (try clear dW); (try clear bP); (try clear bR); (try clear dE); obtain ⟨aT, rfl, HA, HK4, bS, aH, aI, aA, aB, HB⟩ := hrel
             cases gk with
             | zero => exact absurd HA.out (by simp [rillmeterlaw15_ElasticFew.l2])
             | succ k4 =>
              have H := HA.out; clear HA; simp only [rillmeterlaw15_ElasticFew.l2] at H
              by_cases cO : aT < (aD.length : Int)
              ·rw [if_pos cO] at H; have jI : decide (aT < (aD.length : Int)) = true := decide_eq_true cO; clear cO
               by_cases dG : 0 ≤ aT
               ·rw [if_pos dG] at H; have lY : decide (0 ≤ aT) = true := decide_eq_true dG; clear dG
                by_cases dH : aT < (aD.length : Int)
                ·rw [if_pos dH] at H; have lZ : decide (aT < (aD.length : Int)) = true := decide_eq_true dH; clear dH; have H' := mk_ H; clear H; have dI : 0 ≤ (aT : Int) := of_decide_eq_true (by first | (with_reducible assumption) | assumption); have dJ : aT < (aD.length : Int) := of_decide_eq_true (by first | (with_reducible assumption) | assumption); obtain ⟨fP, A435_0, c435_0, e435, jJ, jK, hi435_0⟩ := at_L1 (Kd.V_reads' bS.out).2.2 aT dI dJ
                 cases e435; obtain ⟨ce435, hce435, hMe435, hcc435⟩ := Kd.V_get bS.out [] aT dI (by first | exact dJ | exact of_decide_eq_true (by first | (with_reducible assumption) | assumption) | (have e_ := (Kd.V_reads' bS.out).1; omega)); obtain ⟨ua435_0, uc435_0, rfl, ul435_0, ge435_0⟩ := Kd.FK_slice_open hMe435; have hv435_0 := hcc435 0 _ rfl; rw [Nat.add_zero, show ((Kd.slice 3 (Kd.int .i64))).sz = 1 from rfl, Nat.mul_one] at hv435_0; replace hv435_0 := Option.some.inj (hv435_0.symm.trans jJ)
                 injection hv435_0 with hva_ hvn_ hvc_
                 rw [hva_] at ge435_0; rw [hvc_] at ul435_0; have nT := mk_ (show Kd.V (Kd.int .i64) 3 _ w.heap.size _ _ (rd_L1 aD aT) from Kd.V_mk ul435_0 ge435_0); clear hva_ hvn_ hvc_ ge435_0 ul435_0; clear hcc435 hce435; have cZ := mk_ hi435_0; have nU := mk_ jK; clear hi435_0 jK; replace dI := eq_true dI; replace dJ := eq_true dJ
                 go_wp2
                 go_loopg [123] k4 (fun kq mA w' => ∃ (aY : Int), mA = .int .i64 aY ∧ Aside0 (rillmeterlaw15_ElasticFew.l3 kq aD (aD.length : Int) aT (rd_L1 aD aT) ((rd_L1 aD aT).length : Int) aY = some r) ∧ Aside0 (kq ≤ k4) ∧ Aside0 (Kd.V (Kd.slice 3 (Kd.int .i64)) 57 w' w.heap.size (fun k_ => some k_ ≠ ((.slice aO aF.length aP) : Value).ownBlock ∧ k_ ≠ aC ∧ k_ ≠ aE) (.slice (some fP) aD.length aV) aD) ∧ Aside0 (Kd.N k56 56 w' w.heap.size (fun k_ => k_ ≠ aC ∧ k_ ≠ aE) (.slice aO aF.length aP) aF) ∧ Aside0 (Kd.V (Kd.slice 3 (Kd.int .i64)) 57 w' w.heap.size (fun k_ => some k_ ≠ ((.slice aO aF.length aP) : Value).ownBlock ∧ k_ ≠ aC ∧ k_ ≠ aE) (.slice (some fP) aD.length aV) aD) ∧ Aside0 (w'.heap[aC]? = some (.cells #[.int .u64 a0_0, .int .i64 a0_1, .int .i64 a0_2, .int .i64 a0_3, .int .i64 a0_4, .int .i64 a0_5] 60 (0, 0))) ∧ Aside0 (w'.heap[aE]? = some (.cells #[.int .u64 aM, .int .i64 aN, .int .i64 aQ, (.slice aO aF.length aP), .int .u64 aR, .int .i64 aS, (.slice (some fP) aD.length aV)] 28 (0, 0))) ∧ Aside0 (Kd.C (Kd.int .i64) w' A435_0 (rd_L1 aD aT).length (rd_L1 aD aT)) ∧ Aside0 (Below w.heap.size w w'))
                 case atStart => exact ⟨(0), (by first | rfl | (simp; done) | (simp [*]; done)), H', ⟨Nat.le_refl _⟩, ⟨by (with_reducible repeat (first | apply Kd.V_alloc | apply Kd.V_drewN | apply Kd.V_drew)); exact bS.out⟩, ⟨by (with_reducible repeat (first | apply Kd.N_alloc | apply Kd.N_drewN | apply Kd.N_drew)); exact aH.out⟩, ⟨by (with_reducible repeat (first | apply Kd.V_alloc | apply Kd.V_drewN | apply Kd.V_drew)); exact aI.out⟩, ⟨bk_ aA⟩, ⟨bk_ aB⟩, ⟨by repeat (first | (with_reducible exact cZ.out) | (with_reducible refine Kd.C_alloc ?_ _) | (with_reducible refine Kd.C_drewN ?_ _) | (with_reducible refine Kd.C_drew ?_) | exact cZ.out)⟩, ⟨bl_ HB⟩⟩
                 case round =>
                  clear H'; (try clear c1); (try clear c2); (try clear p2); (try clear c3); (try clear c4); (try clear p4); (try clear q4); (try clear hx4); (try clear hf4); (try clear c6); (try clear p6); (try clear c7); (try clear c8); (try clear fC); (try clear lV); (try clear bT); (try clear iB); (try clear bU); (try clear dM); (try clear cI); (try clear cJ); (try clear cA); (try clear bN); (try clear dN); (try clear dO); (try clear cB); (try clear cC); (try clear cK); (try clear cL); (try clear bH); (try clear bI); (try clear hx41); (try clear hf41); (try clear bW); (try clear dR); (try clear dV); (try clear dW); (try clear hx42); (try clear nV); (try clear nW); (try clear nX); (try clear hx43); (try clear dX); (try clear cE); (try clear fJ); (try clear cV); (try clear iC); (try clear cW); (try clear iD); (try clear bX); (try clear fL); (try clear fM); (try clear bY); (try clear fN); (try clear fO); (try clear cX); (try clear cY); (try clear lW); (try clear lX); (try clear cO); (try clear jI); (try clear dG); (try clear lY); (try clear dH); (try clear lZ); (try clear iG); (try clear iH); (try clear iI); (try clear iJ); (try clear iK); (try clear iL); (try clear iM); (try clear iU); (try clear iV); (try clear iW); (try clear iX); (try clear iY); (try clear iZ); (try clear jA); (try clear iN)
                  (try clear iO); (try clear iP); (try clear iQ); (try clear iR); (try clear iS); (try clear iT); (try clear jB); (try clear jC); (try clear jD); (try clear jE); (try clear jF); (try clear jG); (try clear jH); (try clear bE); (try clear dS); (try clear cU); (try clear bF); (try clear dF); (try clear jJ); (try clear p2); (try clear p4); (try clear bH); (try clear bC); (try clear dV); (try clear bO); (try clear bQ); (try clear dD); (try clear dI); (try clear p6); (try clear dX); (try clear q4); (try clear bI); (try clear bD); (try clear dW); (try clear bP); (try clear bR); (try clear dE); (try clear dJ); obtain ⟨aY, rfl, HA, HK5, bS, aH, aI, aA, aB, cZ, HB⟩ := hrel
                  cases gk with
                  | zero => exact absurd HA.out (by simp [rillmeterlaw15_ElasticFew.l3])
                  | succ k5 =>
                   have H := HA.out; clear HA; simp only [rillmeterlaw15_ElasticFew.l3] at H
                   by_cases dA : aY < ((rd_L1 aD aT).length : Int)
                   ·rw [if_pos dA] at H; have mC : decide (aY < ((rd_L1 aD aT).length : Int)) = true := decide_eq_true dA; clear dA
                    by_cases dZ : 0 ≤ aY
                    ·rw [if_pos dZ] at H; have nY : decide (0 ≤ aY) = true := decide_eq_true dZ; clear dZ
                     by_cases fA : aY < ((rd_L1 aD aT).length : Int)
                     ·rw [if_pos fA] at H; have nZ : decide (aY < ((rd_L1 aD aT).length : Int)) = true := decide_eq_true fA; clear fA
                      by_cases cP : (rd (rd_L1 aD aT) aY) = 0
                      ·rw [if_pos cP] at H; have mD : ((rd (rd_L1 aD aT) aY) == 0) = true := beq_iff_eq.mpr cP; have mE : ((rd (rd_L1 aD aT) aY) != 0) = false := bne_eq_false_iff_eq.mpr cP; clear cP; have H' := mk_ H; clear H; have fQ : 0 ≤ (aY : Int) := of_decide_eq_true (by first | (with_reducible assumption) | assumption); have fR : aY < ((rd_L1 aD aT).length : Int) := of_decide_eq_true (by first | (with_reducible assumption) | assumption); obtain ⟨pA, e436, fS⟩ := Kd.at_int cZ.out aY fQ fR
                       cases e436; (try replace fS := bt_ HB fS); replace fQ := eq_true fQ; replace fR := eq_true fR
                       go_wp2
                       go_roundg k5
                       case measure => have := HJ3.out; have := HK2.out; have := HK3.out; have := HK4.out; have := HK5.out; omega
                       case rel => exact ⟨(wrap64 (aY + 1)), (by first | rfl | (simp; done) | (simp [*]; done)), H', ⟨by have := HJ3.out; have := HK2.out; have := HK3.out; have := HK4.out; have := HK5.out; omega⟩, ⟨by (with_reducible repeat (first | apply Kd.V_alloc | apply Kd.V_drewN | apply Kd.V_drew)); exact bS.out⟩, ⟨by (with_reducible repeat (first | apply Kd.N_alloc | apply Kd.N_drewN | apply Kd.N_drew)); exact aH.out⟩, ⟨by (with_reducible repeat (first | apply Kd.V_alloc | apply Kd.V_drewN | apply Kd.V_drew)); exact aI.out⟩, ⟨bk_ aA⟩, ⟨bk_ aB⟩, ⟨by repeat (first | (with_reducible exact cZ.out) | (with_reducible refine Kd.C_alloc ?_ _) | (with_reducible refine Kd.C_drewN ?_ _) | (with_reducible refine Kd.C_drew ?_) | exact cZ.out)⟩, ⟨bl_ HB⟩⟩
                      ·rw [if_neg cP] at H; have mD : ((rd (rd_L1 aD aT) aY) == 0) = false := beq_eq_false_iff_ne.mpr cP; have mE : ((rd (rd_L1 aD aT) aY) != 0) = true := bne_iff_ne.mpr cP; exact absurd ((Option.some.inj H).trans hrt.out) (by decide)
                     ·rw [if_neg fA] at H; exact absurd H (by simp)
                    ·rw [if_neg dZ] at H; exact absurd H (by simp)
                   ·rw [if_neg dA] at H; have mC : decide (aY < ((rd_L1 aD aT).length : Int)) = false := decide_eq_false dA; clear dA; have H' := mk_ H; clear H
                    go_wp2
                    go_roundg k5
                    case measure => have := HJ3.out; have := HK2.out; have := HK3.out; have := HK4.out; have := HK5.out; omega
                    case rel => exact ⟨(wrap64 (aT + 1)), (by first | rfl | (simp; done) | (simp [*]; done)), H', ⟨by have := HJ3.out; have := HK2.out; have := HK3.out; have := HK4.out; have := HK5.out; omega⟩, ⟨by (with_reducible repeat (first | apply Kd.V_alloc | apply Kd.V_drewN | apply Kd.V_drew)); exact bS.out⟩, ⟨by (with_reducible repeat (first | apply Kd.N_alloc | apply Kd.N_drewN | apply Kd.N_drew)); exact aH.out⟩, ⟨by (with_reducible repeat (first | apply Kd.V_alloc | apply Kd.V_drewN | apply Kd.V_drew)); exact aI.out⟩, ⟨bk_ aA⟩, ⟨bk_ aB⟩, ⟨bl_ HB⟩⟩
                ·rw [if_neg dH] at H; exact absurd H (by simp)
               ·rw [if_neg dG] at H; exact absurd H (by simp)
              ·rw [if_neg cO] at H; have jI : decide (aT < (aD.length : Int)) = false := decide_eq_false cO; clear cO; replace H := Option.bind_eq_some_iff.mp H; obtain ⟨jL, jM, H⟩ := H; replace H : (some jL) = some r := H; have mF := mk_ jM; clear jM; obtain rfl := Option.some.inj H
               go_wp2_with (first | ((with_reducible refine gate_callee (f := 10) rfl ?_); refine goesL_ (some 131) rfl rfl Try.func10 (by kernel_rfl) rfl #[] rfl (by (try simp only [List.map_toArray, List.map_cons, List.map_nil]); first | done | rfl | (simp only [List.length_drop, List.length_take]; rfl)) ?_; (with_reducible refine (rillmeterlaw15_awake.calls k4  jL _ mF.out).mono ?_); rintro e pB ⟨rfl, hb⟩; refine ⟨_, rfl, ?_⟩; have n0_ := vs_ bS hb; have n1_ := mk_ (Kd.N_below (by (with_reducible repeat (first | apply Kd.N_alloc | apply Kd.N_drewN | apply Kd.N_drew)); exact aH.out) hb); have n2_ := vs_ aI hb; have n3_ := bb_ aA hb; have n4_ := bb_ aB hb; have n5_ := bs_ HB hb; clear bS; clear aH; clear aI; clear aA; clear aB; clear HB; have bS := n0_; have aH := n1_; have aI := n2_; have aA := n3_; have aB := n4_; have HB := n5_; clear n0_ n1_ n2_ n3_ n4_ n5_; (try clear hb); (try clear hb2); (try clear hk); (try clear hi)))
               go_ret; exact ⟨by first | rfl | (simp [errW_none, errW_some] <;> rfl) | (simp [*, errW_none, errW_some] <;> rfl), bl_ HB⟩
     ·rw [if_neg bT] at H; exact absurd H (by simp)
    ·rw [if_neg cT] at H; exact absurd H (by simp)

end Go.Proofs.Ytljmjjeghebdpaa.PElasticFew
