/- The functions that a law uses, each as a plain function, with the proof that a call of the Go function comes to its answer. Condition of each: the arguments read as the data that it names, and the plain function has an answer. Written by a program of this session (standin.py). -/
import Derived.Test.YtljmjjeghebdpaaPElasticBoundsx0
import Derived.Test.YtljmjjeghebdpaaPElasticBoundsx8
import Derived.Test.YtljmjjeghebdpaaPElasticBoundsx10
import Derived.Test.YtljmjjeghebdpaaPElasticBoundsx11
import Derived.Test.YtljmjjeghebdpaaPElasticBoundsx12
import Derived.Test.YtljmjjeghebdpaaShort
import Derived.Lib.SliceRun
import Derived.Test.YtljmjjeghebdpaaPressMore
namespace Go.Proofs.Ytljmjjeghebdpaa.PElasticBounds
open Go.RowKit Go.Proofs.YtljmjjeghebdpaaW.PrintWords Go.Proofs.YtljmjjeghebdpaaW.PrintLast Go.Proofs.YtljmjjeghebdpaaW.PrintMore Go.Proofs.Ytljmjjeghebdpaa.Short Go.Proofs.Ytljmjjeghebdpaa.Press Go.Proofs.Ytljmjjeghebdpaa.PressMore
attribute [local go_sem] max2_int min2_int max_two min_two max_three min_three max_four min_four   -- for this text's walks alone
set_option linter.unusedVariables false
set_option linter.unusedSimpArgs false

/-! ### rillmeterlaw15_ElasticBounds: function 5 -/
mutual
def rillmeterlaw15_ElasticBounds.j0 : Nat → List ByteArray → ByteArray → Bool → Int → Int → Int → Int → Int → Int → Int → Int → Int → List (S56) → Int → Int → List (List Int) → Option (Bool)
  | 0, _, _, _, _, _, _, _, _, _, _, _, _, _, _, _, _ => none
  | k + 1, x1, x2, x30, x399000, x399001, x399002, x399003, x399004, x399005, x412000, x412001, x412002, x412003, x412004, x412005, x412006 => if x30 = true then ((rillmeterlaw15_awake.f k).bind fun t412 => (some t412)) else ((elastic_Get.f k x412000 x412001 x412002 x412003 x412004 x412005 x412006 x2).bind fun bt413 => ((rillmeterlaw15_many.f k x1 x2).bind fun t417 => (if bt413.1 > t417 then (rillmeterlaw15_ElasticBounds.j1 k x1 x2 bt413.2.1 bt413.2.2.2 t417 true x399000 x399001 x399002 x399003 x399004 x399005 x412000 x412001 x412002 x412003 x412004 x412005 x412006) else (if bt413.1 > bt413.2.1 then (rillmeterlaw15_ElasticBounds.j1 k x1 x2 bt413.2.1 bt413.2.2.2 t417 true x399000 x399001 x399002 x399003 x399004 x399005 x412000 x412001 x412002 x412003 x412004 x412005 x412006) else (if bt413.2.2.2 = true then (if bt413.2.2.1 = true then (rillmeterlaw15_ElasticBounds.j1 k x1 x2 bt413.2.1 bt413.2.2.2 t417 false x399000 x399001 x399002 x399003 x399004 x399005 x412000 x412001 x412002 x412003 x412004 x412005 x412006) else (rillmeterlaw15_ElasticBounds.j1 k x1 x2 bt413.2.1 bt413.2.2.2 t417 false x399000 x399001 x399002 x399003 x399004 x399005 x412000 x412001 x412002 x412003 x412004 x412005 x412006)) else (if bt413.2.1 < t417 then (rillmeterlaw15_ElasticBounds.j1 k x1 x2 bt413.2.1 bt413.2.2.2 t417 true x399000 x399001 x399002 x399003 x399004 x399005 x412000 x412001 x412002 x412003 x412004 x412005 x412006) else (if bt413.2.2.1 = true then (if bt413.1 = t417 then (rillmeterlaw15_ElasticBounds.j1 k x1 x2 bt413.2.1 bt413.2.2.2 t417 (bt413.2.1 != t417) x399000 x399001 x399002 x399003 x399004 x399005 x412000 x412001 x412002 x412003 x412004 x412005 x412006) else (rillmeterlaw15_ElasticBounds.j1 k x1 x2 bt413.2.1 bt413.2.2.2 t417 true x399000 x399001 x399002 x399003 x399004 x399005 x412000 x412001 x412002 x412003 x412004 x412005 x412006)) else (rillmeterlaw15_ElasticBounds.j1 k x1 x2 bt413.2.1 bt413.2.2.2 t417 false x399000 x399001 x399002 x399003 x399004 x399005 x412000 x412001 x412002 x412003 x412004 x412005 x412006))))))))
def rillmeterlaw15_ElasticBounds.j1 : Nat → List ByteArray → ByteArray → Int → Bool → Int → Bool → Int → Int → Int → Int → Int → Int → Int → Int → Int → List (S56) → Int → Int → List (List Int) → Option (Bool)
  | 0, _, _, _, _, _, _, _, _, _, _, _, _, _, _, _, _, _, _, _ => none
  | k + 1, x1, x2, x10, x12, x13, x76, x399000, x399001, x399002, x399003, x399004, x399005, x412000, x412001, x412002, x412003, x412004, x412005, x412006 => if x76 = true then (some false) else (rillmeterlaw15_ElasticBounds.l0 k x1 x2 x10 x12 x13 0 x399000 x399001 x399002 x399003 x399004 x399005 x412000 x412001 x412002 x412003 x412004 x412005 x412006)
def rillmeterlaw15_ElasticBounds.l0 : Nat → List ByteArray → ByteArray → Int → Bool → Int → Int → Int → Int → Int → Int → Int → Int → Int → Int → Int → List (S56) → Int → Int → List (List Int) → Option (Bool)
  | 0, _, _, _, _, _, _, _, _, _, _, _, _, _, _, _, _, _, _, _ => none
  | k + 1, x1, x2, x10, x12, x13, x14, x399000, x399001, x399002, x399003, x399004, x399005, x412000, x412001, x412002, x412003, x412004, x412005, x412006 => if x14 < x399004 then (rillmeterlaw15_ElasticBounds.l1 k x1 x2 x10 x12 x13 x14 0 x1 (x1.length : Int) 0 x399000 x399001 x399002 x399003 x399004 x399005 x412000 x412001 x412002 x412003 x412004 x412005 x412006) else ((rillmeterlaw15_awake.f k).bind fun t418 => (some t418))
def rillmeterlaw15_ElasticBounds.l1 : Nat → List ByteArray → ByteArray → Int → Bool → Int → Int → Int → List ByteArray → Int → Int → Int → Int → Int → Int → Int → Int → Int → Int → Int → List (S56) → Int → Int → List (List Int) → Option (Bool)
  | 0, _, _, _, _, _, _, _, _, _, _, _, _, _, _, _, _, _, _, _, _, _, _, _ => none
  | k + 1, x1, x2, x10, x12, x13, x14, x15, x83, x84, x85, x399000, x399001, x399002, x399003, x399004, x399005, x412000, x412001, x412002, x412003, x412004, x412005, x412006 => if x85 < x84 then (if 0 ≤ x85 then (if x85 < (x83.length : Int) then (if (rdOf ByteArray.empty x83 x85).toList = x2.toList then (rillmeterlaw15_ElasticBounds.l1 k x1 x2 x10 x12 x13 x14 x15 x83 x84 (wrap64 (x85 + 1)) x399000 x399001 x399002 x399003 x399004 x399005 x412000 x412001 x412002 x412003 x412004 x412005 x412006) else ((rillmeterref11_Cell.f k x412004 (rdOf ByteArray.empty x83 x85) x14 x399005).bind fun t420 => ((rillmeterref11_Cell.f k x412004 x2 x14 x399005).bind fun t421 => (if t420 = t421 then (rillmeterlaw15_ElasticBounds.l1 k x1 x2 x10 x12 x13 x14 (wrap64 (x15 + 1)) x83 x84 (wrap64 (x85 + 1)) x399000 x399001 x399002 x399003 x399004 x399005 x412000 x412001 x412002 x412003 x412004 x412005 x412006) else (rillmeterlaw15_ElasticBounds.l1 k x1 x2 x10 x12 x13 x14 x15 x83 x84 (wrap64 (x85 + 1)) x399000 x399001 x399002 x399003 x399004 x399005 x412000 x412001 x412002 x412003 x412004 x412005 x412006))))) else (none)) else (none)) else (if x12 = true then (rillmeterlaw15_ElasticBounds.l0 k x1 x2 x10 x12 x13 (wrap64 (x14 + 1)) x399000 x399001 x399002 x399003 x399004 x399005 x412000 x412001 x412002 x412003 x412004 x412005 x412006) else (if x10 > (wrap64 (x13 + x15)) then (some false) else (rillmeterlaw15_ElasticBounds.l0 k x1 x2 x10 x12 x13 (wrap64 (x14 + 1)) x399000 x399001 x399002 x399003 x399004 x399005 x412000 x412001 x412002 x412003 x412004 x412005 x412006)))
end
def rillmeterlaw15_ElasticBounds.f (k : Nat) (a0_0 : Int) (a0_1 : Int) (a0_2 : Int) (a0_3 : Int) (a0_4 : Int) (a0_5 : Int) (l1 : List ByteArray) (a2 : ByteArray) : Option (Bool) := (rillmeterlaw15_fed.f k a0_0 a0_1 a0_2 a0_3 a0_4 a0_5 l1).bind fun bt399 => (if bt399.2.2.2.2.2.2.2 = true then (rillmeterlaw15_ElasticBounds.j0 k l1 a2 (decide ((a2.size : Int) > 100)) a0_0 a0_1 a0_2 a0_3 a0_4 a0_5 bt399.1 bt399.2.1 bt399.2.2.1 bt399.2.2.2.1 bt399.2.2.2.2.1 bt399.2.2.2.2.2.1 bt399.2.2.2.2.2.2.1) else (rillmeterlaw15_ElasticBounds.j0 k l1 a2 true a0_0 a0_1 a0_2 a0_3 a0_4 a0_5 bt399.1 bt399.2.1 bt399.2.2.1 bt399.2.2.2.1 bt399.2.2.2.2.1 bt399.2.2.2.2.2.1 bt399.2.2.2.2.2.2.1))
theorem rillmeterlaw15_ElasticBounds.mono_l : ∀ k, (∀ y0 y1 y2 y3 y4 y5 y6 y7 y8 y9 y10 y11 y12 y13 y14 y15, LeO (rillmeterlaw15_ElasticBounds.j0 k y0 y1 y2 y3 y4 y5 y6 y7 y8 y9 y10 y11 y12 y13 y14 y15) (rillmeterlaw15_ElasticBounds.j0 (k + 1) y0 y1 y2 y3 y4 y5 y6 y7 y8 y9 y10 y11 y12 y13 y14 y15)) ∧ (∀ y0 y1 y2 y3 y4 y5 y6 y7 y8 y9 y10 y11 y12 y13 y14 y15 y16 y17 y18, LeO (rillmeterlaw15_ElasticBounds.j1 k y0 y1 y2 y3 y4 y5 y6 y7 y8 y9 y10 y11 y12 y13 y14 y15 y16 y17 y18) (rillmeterlaw15_ElasticBounds.j1 (k + 1) y0 y1 y2 y3 y4 y5 y6 y7 y8 y9 y10 y11 y12 y13 y14 y15 y16 y17 y18)) ∧ (∀ y0 y1 y2 y3 y4 y5 y6 y7 y8 y9 y10 y11 y12 y13 y14 y15 y16 y17 y18, LeO (rillmeterlaw15_ElasticBounds.l0 k y0 y1 y2 y3 y4 y5 y6 y7 y8 y9 y10 y11 y12 y13 y14 y15 y16 y17 y18) (rillmeterlaw15_ElasticBounds.l0 (k + 1) y0 y1 y2 y3 y4 y5 y6 y7 y8 y9 y10 y11 y12 y13 y14 y15 y16 y17 y18)) ∧ (∀ y0 y1 y2 y3 y4 y5 y6 y7 y8 y9 y10 y11 y12 y13 y14 y15 y16 y17 y18 y19 y20 y21 y22, LeO (rillmeterlaw15_ElasticBounds.l1 k y0 y1 y2 y3 y4 y5 y6 y7 y8 y9 y10 y11 y12 y13 y14 y15 y16 y17 y18 y19 y20 y21 y22) (rillmeterlaw15_ElasticBounds.l1 (k + 1) y0 y1 y2 y3 y4 y5 y6 y7 y8 y9 y10 y11 y12 y13 y14 y15 y16 y17 y18 y19 y20 y21 y22))
  | 0 => ⟨fun _ _ _ _ _ _ _ _ _ _ _ _ _ _ _ _ r h => by simp [rillmeterlaw15_ElasticBounds.j0] at h, fun _ _ _ _ _ _ _ _ _ _ _ _ _ _ _ _ _ _ _ r h => by simp [rillmeterlaw15_ElasticBounds.j1] at h, fun _ _ _ _ _ _ _ _ _ _ _ _ _ _ _ _ _ _ _ r h => by simp [rillmeterlaw15_ElasticBounds.l0] at h, fun _ _ _ _ _ _ _ _ _ _ _ _ _ _ _ _ _ _ _ _ _ _ _ r h => by simp [rillmeterlaw15_ElasticBounds.l1] at h⟩
  | k + 1 => by
    obtain ⟨ih0, ih1, ih2, ih3⟩ := rillmeterlaw15_ElasticBounds.mono_l k
    refine ⟨?_, ?_, ?_, ?_⟩
    · intro y0 y1 y2 y3 y4 y5 y6 y7 y8 y9 y10 y11 y12 y13 y14 y15
      unfold rillmeterlaw15_ElasticBounds.j0
      repeat' first
      | (with_reducible exact ih0 _ _ _ _ _ _ _ _ _ _ _ _ _ _ _ _)
      | (with_reducible exact ih1 _ _ _ _ _ _ _ _ _ _ _ _ _ _ _ _ _ _ _)
      | (with_reducible exact ih2 _ _ _ _ _ _ _ _ _ _ _ _ _ _ _ _ _ _ _)
      | (with_reducible exact ih3 _ _ _ _ _ _ _ _ _ _ _ _ _ _ _ _ _ _ _ _ _ _ _)
      | (with_reducible exact elastic_Get.mono _ _ _ _ _ _ _ _ _)
      | (with_reducible exact rillmeterlaw15_awake.mono _)
      | (with_reducible exact rillmeterlaw15_fed.mono _ _ _ _ _ _ _ _)
      | (with_reducible exact rillmeterlaw15_many.mono _ _ _)
      | (with_reducible exact rillmeterref11_Cell.mono _ _ _ _ _)
      | (with_reducible exact LeO.refl _)
      | (with_reducible exact LeO.none _)
      | (with_reducible refine LeO.ite ?_ ?_)
      | (with_reducible refine LeO.bind ?_ (fun _ => ?_))
      | exact ih0 _ _ _ _ _ _ _ _ _ _ _ _ _ _ _ _
      | exact ih1 _ _ _ _ _ _ _ _ _ _ _ _ _ _ _ _ _ _ _
      | exact ih2 _ _ _ _ _ _ _ _ _ _ _ _ _ _ _ _ _ _ _
      | exact ih3 _ _ _ _ _ _ _ _ _ _ _ _ _ _ _ _ _ _ _ _ _ _ _
      | exact elastic_Get.mono _ _ _ _ _ _ _ _ _
      | exact rillmeterlaw15_awake.mono _
      | exact rillmeterlaw15_fed.mono _ _ _ _ _ _ _ _
      | exact rillmeterlaw15_many.mono _ _ _
      | exact rillmeterref11_Cell.mono _ _ _ _ _
      | exact LeO.none _
      | refine LeO.ite ?_ ?_
      | refine LeO.bind ?_ (fun _ => ?_)
    · intro y0 y1 y2 y3 y4 y5 y6 y7 y8 y9 y10 y11 y12 y13 y14 y15 y16 y17 y18
      unfold rillmeterlaw15_ElasticBounds.j1
      repeat' first
      | (with_reducible exact ih0 _ _ _ _ _ _ _ _ _ _ _ _ _ _ _ _)
      | (with_reducible exact ih1 _ _ _ _ _ _ _ _ _ _ _ _ _ _ _ _ _ _ _)
      | (with_reducible exact ih2 _ _ _ _ _ _ _ _ _ _ _ _ _ _ _ _ _ _ _)
      | (with_reducible exact ih3 _ _ _ _ _ _ _ _ _ _ _ _ _ _ _ _ _ _ _ _ _ _ _)
      | (with_reducible exact elastic_Get.mono _ _ _ _ _ _ _ _ _)
      | (with_reducible exact rillmeterlaw15_awake.mono _)
      | (with_reducible exact rillmeterlaw15_fed.mono _ _ _ _ _ _ _ _)
      | (with_reducible exact rillmeterlaw15_many.mono _ _ _)
      | (with_reducible exact rillmeterref11_Cell.mono _ _ _ _ _)
      | (with_reducible exact LeO.refl _)
      | (with_reducible exact LeO.none _)
      | (with_reducible refine LeO.ite ?_ ?_)
      | (with_reducible refine LeO.bind ?_ (fun _ => ?_))
      | exact ih0 _ _ _ _ _ _ _ _ _ _ _ _ _ _ _ _
      | exact ih1 _ _ _ _ _ _ _ _ _ _ _ _ _ _ _ _ _ _ _
      | exact ih2 _ _ _ _ _ _ _ _ _ _ _ _ _ _ _ _ _ _ _
      | exact ih3 _ _ _ _ _ _ _ _ _ _ _ _ _ _ _ _ _ _ _ _ _ _ _
      | exact elastic_Get.mono _ _ _ _ _ _ _ _ _
      | exact rillmeterlaw15_awake.mono _
      | exact rillmeterlaw15_fed.mono _ _ _ _ _ _ _ _
      | exact rillmeterlaw15_many.mono _ _ _
      | exact rillmeterref11_Cell.mono _ _ _ _ _
      | exact LeO.none _
      | refine LeO.ite ?_ ?_
      | refine LeO.bind ?_ (fun _ => ?_)
    · intro y0 y1 y2 y3 y4 y5 y6 y7 y8 y9 y10 y11 y12 y13 y14 y15 y16 y17 y18
      unfold rillmeterlaw15_ElasticBounds.l0
      repeat' first
      | (with_reducible exact ih0 _ _ _ _ _ _ _ _ _ _ _ _ _ _ _ _)
      | (with_reducible exact ih1 _ _ _ _ _ _ _ _ _ _ _ _ _ _ _ _ _ _ _)
      | (with_reducible exact ih2 _ _ _ _ _ _ _ _ _ _ _ _ _ _ _ _ _ _ _)
      | (with_reducible exact ih3 _ _ _ _ _ _ _ _ _ _ _ _ _ _ _ _ _ _ _ _ _ _ _)
      | (with_reducible exact elastic_Get.mono _ _ _ _ _ _ _ _ _)
      | (with_reducible exact rillmeterlaw15_awake.mono _)
      | (with_reducible exact rillmeterlaw15_fed.mono _ _ _ _ _ _ _ _)
      | (with_reducible exact rillmeterlaw15_many.mono _ _ _)
      | (with_reducible exact rillmeterref11_Cell.mono _ _ _ _ _)
      | (with_reducible exact LeO.refl _)
      | (with_reducible exact LeO.none _)
      | (with_reducible refine LeO.ite ?_ ?_)
      | (with_reducible refine LeO.bind ?_ (fun _ => ?_))
      | exact ih0 _ _ _ _ _ _ _ _ _ _ _ _ _ _ _ _
      | exact ih1 _ _ _ _ _ _ _ _ _ _ _ _ _ _ _ _ _ _ _
      | exact ih2 _ _ _ _ _ _ _ _ _ _ _ _ _ _ _ _ _ _ _
      | exact ih3 _ _ _ _ _ _ _ _ _ _ _ _ _ _ _ _ _ _ _ _ _ _ _
      | exact elastic_Get.mono _ _ _ _ _ _ _ _ _
      | exact rillmeterlaw15_awake.mono _
      | exact rillmeterlaw15_fed.mono _ _ _ _ _ _ _ _
      | exact rillmeterlaw15_many.mono _ _ _
      | exact rillmeterref11_Cell.mono _ _ _ _ _
      | exact LeO.none _
      | refine LeO.ite ?_ ?_
      | refine LeO.bind ?_ (fun _ => ?_)
    · intro y0 y1 y2 y3 y4 y5 y6 y7 y8 y9 y10 y11 y12 y13 y14 y15 y16 y17 y18 y19 y20 y21 y22
      unfold rillmeterlaw15_ElasticBounds.l1
      repeat' first
      | (with_reducible exact ih0 _ _ _ _ _ _ _ _ _ _ _ _ _ _ _ _)
      | (with_reducible exact ih1 _ _ _ _ _ _ _ _ _ _ _ _ _ _ _ _ _ _ _)
      | (with_reducible exact ih2 _ _ _ _ _ _ _ _ _ _ _ _ _ _ _ _ _ _ _)
      | (with_reducible exact ih3 _ _ _ _ _ _ _ _ _ _ _ _ _ _ _ _ _ _ _ _ _ _ _)
      | (with_reducible exact elastic_Get.mono _ _ _ _ _ _ _ _ _)
      | (with_reducible exact rillmeterlaw15_awake.mono _)
      | (with_reducible exact rillmeterlaw15_fed.mono _ _ _ _ _ _ _ _)
      | (with_reducible exact rillmeterlaw15_many.mono _ _ _)
      | (with_reducible exact rillmeterref11_Cell.mono _ _ _ _ _)
      | (with_reducible exact LeO.refl _)
      | (with_reducible exact LeO.none _)
      | (with_reducible refine LeO.ite ?_ ?_)
      | (with_reducible refine LeO.bind ?_ (fun _ => ?_))
      | exact ih0 _ _ _ _ _ _ _ _ _ _ _ _ _ _ _ _
      | exact ih1 _ _ _ _ _ _ _ _ _ _ _ _ _ _ _ _ _ _ _
      | exact ih2 _ _ _ _ _ _ _ _ _ _ _ _ _ _ _ _ _ _ _
      | exact ih3 _ _ _ _ _ _ _ _ _ _ _ _ _ _ _ _ _ _ _ _ _ _ _
      | exact elastic_Get.mono _ _ _ _ _ _ _ _ _
      | exact rillmeterlaw15_awake.mono _
      | exact rillmeterlaw15_fed.mono _ _ _ _ _ _ _ _
      | exact rillmeterlaw15_many.mono _ _ _
      | exact rillmeterref11_Cell.mono _ _ _ _ _
      | exact LeO.none _
      | refine LeO.ite ?_ ?_
      | refine LeO.bind ?_ (fun _ => ?_)
theorem rillmeterlaw15_ElasticBounds.mono : ∀ a0 a1 a2 a3 a4 a5 a6 a7 k, LeO (rillmeterlaw15_ElasticBounds.f k a0 a1 a2 a3 a4 a5 a6 a7) (rillmeterlaw15_ElasticBounds.f (k + 1) a0 a1 a2 a3 a4 a5 a6 a7) := by
  intro a0 a1 a2 a3 a4 a5 a6 a7 k
  obtain ⟨ih0, ih1, ih2, ih3⟩ := rillmeterlaw15_ElasticBounds.mono_l k
  unfold rillmeterlaw15_ElasticBounds.f
  repeat' first
      | (with_reducible exact ih0 _ _ _ _ _ _ _ _ _ _ _ _ _ _ _ _)
      | (with_reducible exact ih1 _ _ _ _ _ _ _ _ _ _ _ _ _ _ _ _ _ _ _)
      | (with_reducible exact ih2 _ _ _ _ _ _ _ _ _ _ _ _ _ _ _ _ _ _ _)
      | (with_reducible exact ih3 _ _ _ _ _ _ _ _ _ _ _ _ _ _ _ _ _ _ _ _ _ _ _)
      | (with_reducible exact elastic_Get.mono _ _ _ _ _ _ _ _ _)
      | (with_reducible exact rillmeterlaw15_awake.mono _)
      | (with_reducible exact rillmeterlaw15_fed.mono _ _ _ _ _ _ _ _)
      | (with_reducible exact rillmeterlaw15_many.mono _ _ _)
      | (with_reducible exact rillmeterref11_Cell.mono _ _ _ _ _)
      | (with_reducible exact LeO.refl _)
      | (with_reducible exact LeO.none _)
      | (with_reducible refine LeO.ite ?_ ?_)
      | (with_reducible refine LeO.bind ?_ (fun _ => ?_))
      | exact ih0 _ _ _ _ _ _ _ _ _ _ _ _ _ _ _ _
      | exact ih1 _ _ _ _ _ _ _ _ _ _ _ _ _ _ _ _ _ _ _
      | exact ih2 _ _ _ _ _ _ _ _ _ _ _ _ _ _ _ _ _ _ _
      | exact ih3 _ _ _ _ _ _ _ _ _ _ _ _ _ _ _ _ _ _ _ _ _ _ _
      | exact elastic_Get.mono _ _ _ _ _ _ _ _ _
      | exact rillmeterlaw15_awake.mono _
      | exact rillmeterlaw15_fed.mono _ _ _ _ _ _ _ _
      | exact rillmeterlaw15_many.mono _ _ _
      | exact rillmeterref11_Cell.mono _ _ _ _ _
      | exact LeO.none _
      | refine LeO.ite ?_ ?_
      | refine LeO.bind ?_ (fun _ => ?_)
def rillmeterlaw15_ElasticBounds.T15 : Bool × List (List Nat × List Nat) := (true, [([], []), ([], []), ([0, 1], [0, 1]), ([2], [2]), ([3], [3]), ([4, 3], [3, 4]), ([5, 3], [3, 5]), ([3], [3]), ([3], [3]), ([3], [3]), ([9, 3], [3, 9]), ([6, 7, 8, 10, 3, 3], [3, 6, 7, 8, 10]), ([3], [3]), ([12, 3], [3, 12]), ([13, 3], [3, 13]), ([3], [3]), ([3], [3]), ([3], [3]), ([17, 3], [3, 17]), ([14, 15, 16, 18, 11, 3], [3, 14, 15, 16, 18]), ([11, 19, 3], [3, 11, 19]), ([3, 20], [3, 20])])
def rillmeterlaw15_ElasticBounds.B15 : List Nat := [0, 0, 3, 7, 15, 31, 63, 15, 15, 15, 527, 2047, 15, 4111, 12303, 15, 15, 15, 131087, 524287, 1048575, 2097151]
theorem rillmeterlaw15_ElasticBounds.tab15 : rtab .any (opsOf Try.f5 15) = rillmeterlaw15_ElasticBounds.T15 := by kernel_rfl
theorem rillmeterlaw15_ElasticBounds.bits15 : waitsOk rillmeterlaw15_ElasticBounds.T15.2 rillmeterlaw15_ElasticBounds.B15 = true := by kernel_rfl
set_option maxHeartbeats 80000000 in
set_option maxRecDepth 100000 in
theorem rillmeterlaw15_ElasticBounds.calls (k : Nat) (a0_0 : Int) (a0_1 : Int) (a0_2 : Int) (a0_3 : Int) (a0_4 : Int) (a0_5 : Int) (A1 : Option Addr) (c1 : Nat) (l1 : List ByteArray) (a2 : ByteArray) (r : Bool) (w : World) (hr1 : Kd.C Kd.string w A1 l1.length l1) (hc1 : l1.length ≤ c1) (h : rillmeterlaw15_ElasticBounds.f k a0_0 a0_1 a0_2 a0_3 a0_4 a0_5 l1 a2 = some r) (hrt : Aside0 (r = true)) :
    Calls Try.prog 5 #[.agg #[.int .u64 a0_0, .int .i64 a0_1, .int .i64 a0_2, .int .i64 a0_3, .int .i64 a0_4, .int .i64 a0_5], .slice A1 l1.length c1, .string a2] w fun e w' => e = .returned (.bool r) ∧ Below w.heap.size w w' := by
 have hu60 := Try.underlying60; have hu28 := Try.underlying28; have HR1 := mk_ hr1; have HC1 := mk_ hc1; clear hr1 hc1; have HB := mk_ (Below.refl w.heap.size w); have H : ((rillmeterlaw15_fed.f k a0_0 a0_1 a0_2 a0_3 a0_4 a0_5 l1).bind fun bt399 => (if bt399.2.2.2.2.2.2.2 = true then (rillmeterlaw15_ElasticBounds.j0 k l1 a2 (decide ((a2.size : Int) > 100)) a0_0 a0_1 a0_2 a0_3 a0_4 a0_5 bt399.1 bt399.2.1 bt399.2.2.1 bt399.2.2.2.1 bt399.2.2.2.2.1 bt399.2.2.2.2.2.1 bt399.2.2.2.2.2.2.1) else (rillmeterlaw15_ElasticBounds.j0 k l1 a2 true a0_0 a0_1 a0_2 a0_3 a0_4 a0_5 bt399.1 bt399.2.1 bt399.2.2.1 bt399.2.2.2.1 bt399.2.2.2.2.1 bt399.2.2.2.2.2.1 bt399.2.2.2.2.2.2.1))) = some r := h; clear h; replace H := Option.bind_eq_some_iff.mp H; obtain ⟨⟨aG, aH, aI, aC, aE, aK, aF, dL⟩, fC, H⟩ := H; replace H : (if dL = true then (rillmeterlaw15_ElasticBounds.j0 k l1 a2 (decide ((a2.size : Int) > 100)) a0_0 a0_1 a0_2 a0_3 a0_4 a0_5 aG aH aI aC aE aK aF) else (rillmeterlaw15_ElasticBounds.j0 k l1 a2 true a0_0 a0_1 a0_2 a0_3 a0_4 a0_5 aG aH aI aC aE aK aF)) = some r := H; have A4 := mk_ fC; clear fC; have HC5 := mk_ H; clear H
 go_enter Try.func5, Try.ntmps5
 go_upto_region 2 with (first | ((with_reducible refine gate_dst (N := 3) rfl ?_); (try (refine gate_guard (by rfl) ?_; dsimp only)); refine box_event ?hg (N := 3) ?hd (cs := #[.int .u64 a0_0, .int .i64 a0_1, .int .i64 a0_2, .int .i64 a0_3, .int .i64 a0_4, .int .i64 a0_5]) (t := 60) ?hr ?_; (case hd => rfl); (case hg => rfl); (case hr => first | (go_simp; done) | (go_simp; rfl)); intro aM hg w6 hbox hb; have n0_ := bs_ HB hb; have n1_ := mk_ (hbox); have n2_ := gx_ hg HB; have n3_ := gx_ hg HB; clear HB; have HB := n0_; have aA := n1_; have gU := n2_; have gV := n3_; clear n0_ n1_ n2_ n3_; clear hb hbox hg; obtain ⟨bZ, cA, cB, cC, cD, cE⟩ := cz6_ aA; obtain ⟨cF, cG, cH, cI, cJ, cK⟩ := fz6_ aA) | ((with_reducible refine gate_callee (f := 23) rfl ?_); refine goesL_ (some 21) rfl rfl Try.func23 (by kernel_rfl) rfl #[.agg #[.int .u64 a0_0, .int .i64 a0_1, .int .i64 a0_2, .int .i64 a0_3, .int .i64 a0_4, .int .i64 a0_5], .slice A1 l1.length c1] rfl (by (try simp only [List.map_toArray, List.map_cons, List.map_nil]); first | done | rfl | (simp only [List.length_drop, List.length_take]; rfl)) ?_; (with_reducible refine (rillmeterlaw15_fed.calls k a0_0 a0_1 a0_2 a0_3 a0_4 a0_5 _ _ l1 aG aH aI aC aE aK aF dL _ ?side1 ?side2 A4.out).mono ?_); (case side1 => repeat (first | exact (Kd.C_below HR1.out HB.out) | (with_reducible refine Kd.C_alloc ?_ _) | (with_reducible refine Kd.C_drewN ?_ _) | (with_reducible refine Kd.C_drew ?_))); (case side2 => exact HC1.out); rintro e w8 ⟨fS, gW, rfl, ho0, ho1, hb⟩; refine ⟨_, rfl, ?_⟩; have n0_ := mk_ (Kd.N_lower (Kd.N_mono (ok' := fun k_ => k_ ≠ aM) ho0 (fun k_ cL => (Kd.freshB (bk_ aA) k_ cL))) (below_size (bl_ HB))); have n1_ := mk_ (Kd.V_lower (Kd.V_mono (ok' := fun k_ => some k_ ≠ (fS : Value).ownBlock ∧ k_ ≠ aM) ho1 (fun k_ cL => ⟨cL.2, (Kd.freshB (bk_ aA) k_ cL.1)⟩)) (below_size (bl_ HB))); have n2_ := bb_ aA hb; have n3_ := bs_ HB hb; clear aA; clear HB; have bF := n0_; have bG := n1_; have aA := n2_; have HB := n3_; clear n0_ n1_ n2_ n3_; (try clear hb); (try clear hb2); (try clear hk); (try clear hi); (try clear ho0); (try clear ho1)) | ((with_reducible refine gate_dst (N := 7) rfl ?_); (try (refine gate_guard (by rfl) ?_; dsimp only)); refine box_event ?hg (N := 7) ?hd (cs := #[.int .u64 0, .int .i64 0, .int .i64 0, .slice none 0 0, .int .u64 0, .int .i64 0, .slice none 0 0]) (t := 28) ?hr ?_; (case hd => rfl); (case hg => rfl); (case hr => first | (go_simp; done) | (go_simp; rfl)); intro aJ hg w9 hbox hb; have n0_ := mk_ (Kd.N_below (Kd.N_elderB (by (with_reducible repeat (first | apply Kd.N_alloc | apply Kd.N_drewN | apply Kd.N_drew)); exact bF.out) aJ (Nat.le_of_eq hg.symm)) hb); have n1_ := mk_ (Kd.V_below (Kd.V_elderB (vk_ bG) aJ (Nat.le_of_eq hg.symm)) hb); have n2_ := bb_ aA hb; have n3_ := bs_ HB hb; have n4_ := mk_ (hbox); have n5_ := gx_ hg HB; have n6_ := gx_ hg HB; have n7_ := nx_ hg aA; have n8_ := ny_ hg aA; clear bF; clear bG; clear aA; clear HB; have bF := n0_; have bG := n1_; have aA := n2_; have HB := n3_; have aB := n4_; have gX := n5_; have gY := n6_; have aZ := n7_; have cM := n8_; clear n0_ n1_ n2_ n3_ n4_ n5_ n6_ n7_ n8_; clear hb hbox hg; have gZ := cM.out; have hA := aZ.out; obtain ⟨cN, cO, cP, cQ, cR, cS, cT⟩ := cz7_ aB; obtain ⟨cU, cV, cW, cX, cY, cZ, dA⟩ := fz7_ aB; obtain ⟨aS, aT, eo12⟩ := Kd.N_slice bF.out; subst eo12; obtain ⟨aW, aX, eo13⟩ := Kd.V_slice bG.out; subst eo13) | ((with_reducible refine gate_store (t := 28) (p := 7) rfl ?_); refine store_event (t := 28) (p := 7) (v := ?vo_w14) (w1 := (((((((w9.setCell ⟨aJ, 0, none⟩ (.int .u64 aG)).setCell ⟨aJ, 1, none⟩ (.int .i64 aH)).setCell ⟨aJ, 2, none⟩ (.int .i64 aI)).setCell ⟨aJ, 3, none⟩ (.slice aS aC.length aT)).setCell ⟨aJ, 4, none⟩ (.int .u64 aE)).setCell ⟨aJ, 5, none⟩ (.int .i64 aK)).setCell ⟨aJ, 6, none⟩ (.slice aW aF.length aX))) ?hg ?ho ?hn ?hr ?_; (case ho => rfl); (case hg => rfl); (case hn => rfl); (case hr => first | (go_simp; done) | (go_simp; rfl)); intro bY hw; have n0_ : Aside0 (Kd.N k56 56 bY w.heap.size (fun k_ => k_ ≠ aM ∧ k_ ≠ aJ) (.slice aS aC.length aT) aC) := ⟨(by rw [hw]; exact (by (with_reducible repeat (first | apply Kd.N_alloc | apply Kd.N_drewN | apply Kd.N_drew)); exact Kd.N_mono (Kd.N_far (p := ⟨aJ, 6, none⟩) (Kd.N_far (p := ⟨aJ, 5, none⟩) (Kd.N_far (p := ⟨aJ, 4, none⟩) (Kd.N_far (p := ⟨aJ, 3, none⟩) (Kd.N_far (p := ⟨aJ, 2, none⟩) (Kd.N_far (p := ⟨aJ, 1, none⟩) (Kd.N_far (p := ⟨aJ, 0, none⟩) (Kd.N_mono bF.out (fun k_ hk => (⟨hk, hk.2⟩ : _ ∧ k_ ≠ aJ))) (fun _ hk => hk.2) (.int .u64 aG)) (fun _ hk => hk.2) (.int .i64 aH)) (fun _ hk => hk.2) (.int .i64 aI)) (fun _ hk => hk.2) (.slice aS aC.length aT)) (fun _ hk => hk.2) (.int .u64 aE)) (fun _ hk => hk.2) (.int .i64 aK)) (fun _ hk => hk.2) (.slice aW aF.length aX)) (fun _ hk => ⟨hk.1.1, hk.1.2⟩)))⟩; have n1_ : Aside0 (Kd.V (Kd.slice 3 (Kd.int .i64)) 57 bY w.heap.size (fun k_ => some k_ ≠ (.slice aS aC.length aT : Value).ownBlock ∧ k_ ≠ aM ∧ k_ ≠ aJ) (.slice aW aF.length aX) aF) := ⟨(by rw [hw]; exact (vl_ (Kd.V_mono (Kd.V_far (p := ⟨aJ, 6, none⟩) (Kd.V_far (p := ⟨aJ, 5, none⟩) (Kd.V_far (p := ⟨aJ, 4, none⟩) (Kd.V_far (p := ⟨aJ, 3, none⟩) (Kd.V_far (p := ⟨aJ, 2, none⟩) (Kd.V_far (p := ⟨aJ, 1, none⟩) (Kd.V_far (p := ⟨aJ, 0, none⟩) (Kd.V_mono bG.out (fun k_ hk => (⟨hk, hk.2⟩ : _ ∧ k_ ≠ aJ))) (fun _ hk => hk.2) (.int .u64 aG)) (fun _ hk => hk.2) (.int .i64 aH)) (fun _ hk => hk.2) (.int .i64 aI)) (fun _ hk => hk.2) (.slice aS aC.length aT)) (fun _ hk => hk.2) (.int .u64 aE)) (fun _ hk => hk.2) (.int .i64 aK)) (fun _ hk => hk.2) (.slice aW aF.length aX)) (fun _ hk => ⟨hk.1.1.1, ⟨hk.1.1.2, hk.1.2⟩⟩))))⟩; have n2_ : Aside0 (bY.heap[aM]? = some (.cells #[.int .u64 a0_0, .int .i64 a0_1, .int .i64 a0_2, .int .i64 a0_3, .int .i64 a0_4, .int .i64 a0_5] 60 (0, 0))) := ⟨(by rw [hw]; exact fb_)⟩; have n3_ : Aside0 (bY.heap[aJ]? = some (.cells #[.int .u64 aG, .int .i64 aH, .int .i64 aI, .slice aS aC.length aT, .int .u64 aE, .int .i64 aK, .slice aW aF.length aX] 28 (0, 0))) := ⟨(by rw [hw]; exact (by (with_reducible repeat (first | refine blk_drewN ?_ _ | refine blk_drew ?_ | refine blk_alloc ?_ _)); refine blk_put (cs := #[.int .u64 aG, .int .i64 aH, .int .i64 aI, .slice aS aC.length aT, .int .u64 aE, .int .i64 aK, .slice none 0 0]) ?_ 6 _ rfl; (with_reducible repeat (first | refine blk_drewN ?_ _ | refine blk_drew ?_ | refine blk_alloc ?_ _)); refine blk_put (cs := #[.int .u64 aG, .int .i64 aH, .int .i64 aI, .slice aS aC.length aT, .int .u64 aE, .int .i64 0, .slice none 0 0]) ?_ 5 _ rfl; (with_reducible repeat (first | refine blk_drewN ?_ _ | refine blk_drew ?_ | refine blk_alloc ?_ _)); refine blk_put (cs := #[.int .u64 aG, .int .i64 aH, .int .i64 aI, .slice aS aC.length aT, .int .u64 0, .int .i64 0, .slice none 0 0]) ?_ 4 _ rfl; (with_reducible repeat (first | refine blk_drewN ?_ _ | refine blk_drew ?_ | refine blk_alloc ?_ _)); refine blk_put (cs := #[.int .u64 aG, .int .i64 aH, .int .i64 aI, .slice none 0 0, .int .u64 0, .int .i64 0, .slice none 0 0]) ?_ 3 _ rfl; (with_reducible repeat (first | refine blk_drewN ?_ _ | refine blk_drew ?_ | refine blk_alloc ?_ _)); refine blk_put (cs := #[.int .u64 aG, .int .i64 aH, .int .i64 0, .slice none 0 0, .int .u64 0, .int .i64 0, .slice none 0 0]) ?_ 2 _ rfl; (with_reducible repeat (first | refine blk_drewN ?_ _ | refine blk_drew ?_ | refine blk_alloc ?_ _)); refine blk_put (cs := #[.int .u64 aG, .int .i64 0, .int .i64 0, .slice none 0 0, .int .u64 0, .int .i64 0, .slice none 0 0]) ?_ 1 _ rfl; (with_reducible repeat (first | refine blk_drewN ?_ _ | refine blk_drew ?_ | refine blk_alloc ?_ _)); refine blk_put (cs := #[.int .u64 0, .int .i64 0, .int .i64 0, .slice none 0 0, .int .u64 0, .int .i64 0, .slice none 0 0]) ?_ 0 _ rfl; (with_reducible repeat (first | refine blk_drewN ?_ _ | refine blk_drew ?_ | refine blk_alloc ?_ _)); exact aB.out))⟩; have n4_ : Aside0 (Below w.heap.size w bY) := ⟨(by rw [hw]; exact (bl_ HB))⟩; clear hw; clear bF; clear bG; clear aA; clear aB; clear HB; have bF := n0_; have bG := n1_; have aA := n2_; have aB := n3_; have HB := n4_; clear n0_ n1_ n2_ n3_ n4_))
 (try simp only [Act.put, sa_, sb_, sc_])
 go_cut [30] (fun fT wc => ∃ (kq : Nat) (dB : Bool), fT = .bool dB ∧ Aside0 (rillmeterlaw15_ElasticBounds.j0 kq l1 a2 dB a0_0 a0_1 a0_2 a0_3 a0_4 a0_5 aG aH aI aC aE aK aF = some r) ∧ Aside0 (kq ≤ k) ∧ Aside0 (Kd.N k56 56 wc w.heap.size (fun k_ => k_ ≠ aM ∧ k_ ≠ aJ) (.slice aS aC.length aT) aC) ∧ Aside0 (Kd.V (Kd.slice 3 (Kd.int .i64)) 57 wc w.heap.size (fun k_ => some k_ ≠ ((.slice aS aC.length aT) : Value).ownBlock ∧ k_ ≠ aM ∧ k_ ≠ aJ) (.slice aW aF.length aX) aF) ∧ Aside0 (wc.heap[aM]? = some (.cells #[.int .u64 a0_0, .int .i64 a0_1, .int .i64 a0_2, .int .i64 a0_3, .int .i64 a0_4, .int .i64 a0_5] 60 (0, 0))) ∧ Aside0 (wc.heap[aJ]? = some (.cells #[.int .u64 aG, .int .i64 aH, .int .i64 aI, (.slice aS aC.length aT), .int .u64 aE, .int .i64 aK, (.slice aW aF.length aX)] 28 (0, 0))) ∧ Aside0 (Below w.heap.size w wc))
 case first =>
  have H := HC5.out; clear HC5
  by_cases bM : dL = true
  ·subst bM
   have H1 : (rillmeterlaw15_ElasticBounds.j0 k l1 a2 (decide ((a2.size : Int) > 100)) a0_0 a0_1 a0_2 a0_3 a0_4 a0_5 aG aH aI aC aE aK aF) = some r := by rw [if_pos rfl] at H; exact H
   clear H; have H := H1; clear H1; have H' := mk_ H; clear H
   go_wp2
   go_meet
   case rel => exact ⟨_, (decide ((a2.size : Int) > 100)), (by first | rfl | (simp; done) | (simp [*]; done)), H', ⟨by first | omega | exact Nat.le_refl _⟩, ⟨by (with_reducible repeat (first | apply Kd.N_alloc | apply Kd.N_drewN | apply Kd.N_drew)); exact bF.out⟩, ⟨by (with_reducible repeat (first | apply Kd.V_alloc | apply Kd.V_drewN | apply Kd.V_drew)); exact bG.out⟩, ⟨bk_ aA⟩, ⟨bk_ aB⟩, ⟨bl_ HB⟩⟩
  ·replace bM := Bool.eq_false_iff.mpr bM; subst bM
   have H1 : (rillmeterlaw15_ElasticBounds.j0 k l1 a2 true a0_0 a0_1 a0_2 a0_3 a0_4 a0_5 aG aH aI aC aE aK aF) = some r := by rw [if_neg (show ¬ (false = true) by decide)] at H; exact H
   clear H; have H := H1; clear H1; have H' := mk_ H; clear H
   go_wp2
   go_meet
   case rel => exact ⟨_, (true), (by first | rfl | (simp; done) | (simp [*]; done)), H', ⟨by first | omega | exact Nat.le_refl _⟩, ⟨by (with_reducible repeat (first | apply Kd.N_alloc | apply Kd.N_drewN | apply Kd.N_drew)); exact bF.out⟩, ⟨by (with_reducible repeat (first | apply Kd.V_alloc | apply Kd.V_drewN | apply Kd.V_drew)); exact bG.out⟩, ⟨bk_ aA⟩, ⟨bk_ aB⟩, ⟨bl_ HB⟩⟩
 case rest =>
  clear HC5; (try clear c1); (try clear c2); (try clear p2); (try clear c5); (try clear dM); (try clear bM); (try clear cN); (try clear cO); (try clear cP); (try clear cQ); (try clear cR); (try clear cS); (try clear cT); (try clear bZ); (try clear cA); (try clear cB); (try clear cC); (try clear cD); (try clear cE); (try clear cU); (try clear cV); (try clear cW); (try clear cX); (try clear cY); (try clear cZ); (try clear dA); (try clear cF); (try clear cG); (try clear cH); (try clear cI); (try clear cJ); (try clear cK); obtain ⟨kq, dB, rfl, HA, HJ4, aN, aO, aA, aB, HB⟩ := hcut
  cases kq with
  | zero => exact absurd HA.out (by simp [rillmeterlaw15_ElasticBounds.j0])
  | succ aP =>
   have H := HA.out; clear HA; simp only [rillmeterlaw15_ElasticBounds.j0] at H
   by_cases bO : dB = true
   ·subst bO
    have H1 : ((rillmeterlaw15_awake.f aP).bind fun dC => (some dC)) = some r := by rw [if_pos rfl] at H; exact H
    clear H; have H := H1; clear H1; replace H := Option.bind_eq_some_iff.mp H; obtain ⟨dC, fD, H⟩ := H; replace H : (some dC) = some r := H; have fU := mk_ fD; clear fD; obtain rfl := Option.some.inj H
    go_wp2_with (first | ((with_reducible refine gate_callee (f := 10) rfl ?_); refine goesL_ (some 31) rfl rfl Try.func10 (by kernel_rfl) rfl #[] rfl (by (try simp only [List.map_toArray, List.map_cons, List.map_nil]); first | done | rfl | (simp only [List.length_drop, List.length_take]; rfl)) ?_; (with_reducible refine (rillmeterlaw15_awake.calls aP  dC _ fU.out).mono ?_); rintro e hB ⟨rfl, hb⟩; refine ⟨_, rfl, ?_⟩; have n0_ := mk_ (Kd.N_below (by (with_reducible repeat (first | apply Kd.N_alloc | apply Kd.N_drewN | apply Kd.N_drew)); exact aN.out) hb); have n1_ := vs_ aO hb; have n2_ := bb_ aA hb; have n3_ := bb_ aB hb; have n4_ := bs_ HB hb; clear aN; clear aO; clear aA; clear aB; clear HB; have aN := n0_; have aO := n1_; have aA := n2_; have aB := n3_; have HB := n4_; clear n0_ n1_ n2_ n3_ n4_; (try clear hb); (try clear hb2); (try clear hk); (try clear hi)))
    go_ret; exact ⟨by first | rfl | (simp [errW_none, errW_some] <;> rfl) | (simp [*, errW_none, errW_some] <;> rfl), bl_ HB⟩
   ·replace bO := Bool.eq_false_iff.mpr bO; subst bO
    have H1 : ((elastic_Get.f aP aG aH aI aC aE aK aF a2).bind fun bt413 => ((rillmeterlaw15_many.f aP l1 a2).bind fun aD => (if bt413.1 > aD then (rillmeterlaw15_ElasticBounds.j1 aP l1 a2 bt413.2.1 bt413.2.2.2 aD true a0_0 a0_1 a0_2 a0_3 a0_4 a0_5 aG aH aI aC aE aK aF) else (if bt413.1 > bt413.2.1 then (rillmeterlaw15_ElasticBounds.j1 aP l1 a2 bt413.2.1 bt413.2.2.2 aD true a0_0 a0_1 a0_2 a0_3 a0_4 a0_5 aG aH aI aC aE aK aF) else (if bt413.2.2.2 = true then (if bt413.2.2.1 = true then (rillmeterlaw15_ElasticBounds.j1 aP l1 a2 bt413.2.1 bt413.2.2.2 aD false a0_0 a0_1 a0_2 a0_3 a0_4 a0_5 aG aH aI aC aE aK aF) else (rillmeterlaw15_ElasticBounds.j1 aP l1 a2 bt413.2.1 bt413.2.2.2 aD false a0_0 a0_1 a0_2 a0_3 a0_4 a0_5 aG aH aI aC aE aK aF)) else (if bt413.2.1 < aD then (rillmeterlaw15_ElasticBounds.j1 aP l1 a2 bt413.2.1 bt413.2.2.2 aD true a0_0 a0_1 a0_2 a0_3 a0_4 a0_5 aG aH aI aC aE aK aF) else (if bt413.2.2.1 = true then (if bt413.1 = aD then (rillmeterlaw15_ElasticBounds.j1 aP l1 a2 bt413.2.1 bt413.2.2.2 aD (bt413.2.1 != aD) a0_0 a0_1 a0_2 a0_3 a0_4 a0_5 aG aH aI aC aE aK aF) else (rillmeterlaw15_ElasticBounds.j1 aP l1 a2 bt413.2.1 bt413.2.2.2 aD true a0_0 a0_1 a0_2 a0_3 a0_4 a0_5 aG aH aI aC aE aK aF)) else (rillmeterlaw15_ElasticBounds.j1 aP l1 a2 bt413.2.1 bt413.2.2.2 aD false a0_0 a0_1 a0_2 a0_3 a0_4 a0_5 aG aH aI aC aE aK aF)))))))) = some r := by rw [if_neg (show ¬ (false = true) by decide)] at H; exact H
    clear H; have H := H1; clear H1; replace H := Option.bind_eq_some_iff.mp H; obtain ⟨⟨aV, aL, bH, aR⟩, fE, H⟩ := H; replace H : ((rillmeterlaw15_many.f aP l1 a2).bind fun aD => (if aV > aD then (rillmeterlaw15_ElasticBounds.j1 aP l1 a2 aL aR aD true a0_0 a0_1 a0_2 a0_3 a0_4 a0_5 aG aH aI aC aE aK aF) else (if aV > aL then (rillmeterlaw15_ElasticBounds.j1 aP l1 a2 aL aR aD true a0_0 a0_1 a0_2 a0_3 a0_4 a0_5 aG aH aI aC aE aK aF) else (if aR = true then (if bH = true then (rillmeterlaw15_ElasticBounds.j1 aP l1 a2 aL aR aD false a0_0 a0_1 a0_2 a0_3 a0_4 a0_5 aG aH aI aC aE aK aF) else (rillmeterlaw15_ElasticBounds.j1 aP l1 a2 aL aR aD false a0_0 a0_1 a0_2 a0_3 a0_4 a0_5 aG aH aI aC aE aK aF)) else (if aL < aD then (rillmeterlaw15_ElasticBounds.j1 aP l1 a2 aL aR aD true a0_0 a0_1 a0_2 a0_3 a0_4 a0_5 aG aH aI aC aE aK aF) else (if bH = true then (if aV = aD then (rillmeterlaw15_ElasticBounds.j1 aP l1 a2 aL aR aD (aL != aD) a0_0 a0_1 a0_2 a0_3 a0_4 a0_5 aG aH aI aC aE aK aF) else (rillmeterlaw15_ElasticBounds.j1 aP l1 a2 aL aR aD true a0_0 a0_1 a0_2 a0_3 a0_4 a0_5 aG aH aI aC aE aK aF)) else (rillmeterlaw15_ElasticBounds.j1 aP l1 a2 aL aR aD false a0_0 a0_1 a0_2 a0_3 a0_4 a0_5 aG aH aI aC aE aK aF))))))) = some r := H; have fV := mk_ fE; clear fE
    replace H := Option.bind_eq_some_iff.mp H; obtain ⟨aD, fF, H⟩ := H; replace H : (if aV > aD then (rillmeterlaw15_ElasticBounds.j1 aP l1 a2 aL aR aD true a0_0 a0_1 a0_2 a0_3 a0_4 a0_5 aG aH aI aC aE aK aF) else (if aV > aL then (rillmeterlaw15_ElasticBounds.j1 aP l1 a2 aL aR aD true a0_0 a0_1 a0_2 a0_3 a0_4 a0_5 aG aH aI aC aE aK aF) else (if aR = true then (if bH = true then (rillmeterlaw15_ElasticBounds.j1 aP l1 a2 aL aR aD false a0_0 a0_1 a0_2 a0_3 a0_4 a0_5 aG aH aI aC aE aK aF) else (rillmeterlaw15_ElasticBounds.j1 aP l1 a2 aL aR aD false a0_0 a0_1 a0_2 a0_3 a0_4 a0_5 aG aH aI aC aE aK aF)) else (if aL < aD then (rillmeterlaw15_ElasticBounds.j1 aP l1 a2 aL aR aD true a0_0 a0_1 a0_2 a0_3 a0_4 a0_5 aG aH aI aC aE aK aF) else (if bH = true then (if aV = aD then (rillmeterlaw15_ElasticBounds.j1 aP l1 a2 aL aR aD (aL != aD) a0_0 a0_1 a0_2 a0_3 a0_4 a0_5 aG aH aI aC aE aK aF) else (rillmeterlaw15_ElasticBounds.j1 aP l1 a2 aL aR aD true a0_0 a0_1 a0_2 a0_3 a0_4 a0_5 aG aH aI aC aE aK aF)) else (rillmeterlaw15_ElasticBounds.j1 aP l1 a2 aL aR aD false a0_0 a0_1 a0_2 a0_3 a0_4 a0_5 aG aH aI aC aE aK aF)))))) = some r := H; have fW := mk_ fF; clear fF; have HC21 := mk_ H; clear H; have hC := cM.out; have hD := aZ.out
    obtain ⟨dN, dO, dP, dQ, dR, dS, dT⟩ := cz7_ aB; obtain ⟨dU, dV, dW, dX, dY, dZ, fA⟩ := fz7_ aB
    go_upto_region 6 with (first | ((with_reducible refine gate_callee (f := 12) rfl ?_); refine goesL_ (some 35) rfl rfl Try.func12 (by kernel_rfl) rfl #[.agg #[.int .u64 aG, .int .i64 aH, .int .i64 aI, .slice aS aC.length aT, .int .u64 aE, .int .i64 aK, .slice aW aF.length aX], .string a2] rfl (by (try simp only [List.map_toArray, List.map_cons, List.map_nil]); first | done | rfl | (simp only [List.length_drop, List.length_take]; rfl)) ?_; (with_reducible refine (elastic_Get.calls aP aG aH aI _ _ aC aE aK _ _ aF a2 aV aL bH aR _ ?side1 ?side2 ?side3 ?side4 fV.out).mono ?_); (case side1 => repeat (first | exact (Kd.N_reads' aN.out).2.2 | (with_reducible refine Kd.C_alloc ?_ _) | (with_reducible refine Kd.C_drewN ?_ _) | (with_reducible refine Kd.C_drew ?_))); (case side2 => exact (Kd.N_reads' aN.out).2.1); (case side3 => repeat (first | exact (Kd.V_reads' aO.out).2.2 | (with_reducible refine Kd.C_alloc ?_ _) | (with_reducible refine Kd.C_drewN ?_ _) | (with_reducible refine Kd.C_drew ?_))); (case side4 => exact (Kd.V_reads' aO.out).2.1); rintro e hE ⟨rfl, hb⟩; refine ⟨_, rfl, ?_⟩; have n0_ := mk_ (Kd.N_below (by (with_reducible repeat (first | apply Kd.N_alloc | apply Kd.N_drewN | apply Kd.N_drew)); exact aN.out) hb); have n1_ := vs_ aO hb; have n2_ := bb_ aA hb; have n3_ := bb_ aB hb; have n4_ := bs_ HB hb; clear aN; clear aO; clear aA; clear aB; clear HB; have aN := n0_; have aO := n1_; have aA := n2_; have aB := n3_; have HB := n4_; clear n0_ n1_ n2_ n3_ n4_; (try clear hb); (try clear hb2); (try clear hk); (try clear hi)) | ((with_reducible refine gate_callee (f := 24) rfl ?_); refine goesL_ (some 42) rfl rfl Try.func24 (by kernel_rfl) rfl #[.slice A1 l1.length c1, .string a2] rfl (by (try simp only [List.map_toArray, List.map_cons, List.map_nil]); first | done | rfl | (simp only [List.length_drop, List.length_take]; rfl)) ?_; (with_reducible refine (rillmeterlaw15_many.calls aP _ _ l1 a2 aD _ ?side1 ?side2 fW.out).mono ?_); (case side1 => repeat (first | exact (Kd.C_below HR1.out HB.out) | (with_reducible refine Kd.C_alloc ?_ _) | (with_reducible refine Kd.C_drewN ?_ _) | (with_reducible refine Kd.C_drew ?_))); (case side2 => exact HC1.out); rintro e w' ⟨rfl, ⟨nd, rfl⟩⟩; refine ⟨_, rfl, ?_⟩))
    (try simp only [Act.put, sa_, sb_, sc_])
    go_cut [76] (fun fX wc => ∃ (kq : Nat) (dD : Bool), fX = .bool dD ∧ Aside0 (rillmeterlaw15_ElasticBounds.j1 kq l1 a2 aL aR aD dD a0_0 a0_1 a0_2 a0_3 a0_4 a0_5 aG aH aI aC aE aK aF = some r) ∧ Aside0 (kq ≤ aP) ∧ Aside0 (Kd.N k56 56 wc w.heap.size (fun k_ => k_ ≠ aM ∧ k_ ≠ aJ) (.slice aS aC.length aT) aC) ∧ Aside0 (Kd.V (Kd.slice 3 (Kd.int .i64)) 57 wc w.heap.size (fun k_ => some k_ ≠ ((.slice aS aC.length aT) : Value).ownBlock ∧ k_ ≠ aM ∧ k_ ≠ aJ) (.slice aW aF.length aX) aF) ∧ Aside0 (wc.heap[aM]? = some (.cells #[.int .u64 a0_0, .int .i64 a0_1, .int .i64 a0_2, .int .i64 a0_3, .int .i64 a0_4, .int .i64 a0_5] 60 (0, 0))) ∧ Aside0 (wc.heap[aJ]? = some (.cells #[.int .u64 aG, .int .i64 aH, .int .i64 aI, (.slice aS aC.length aT), .int .u64 aE, .int .i64 aK, (.slice aW aF.length aX)] 28 (0, 0))) ∧ Aside0 (Below w.heap.size w wc))
    case first =>
     have H := HC21.out; clear HC21
     by_cases bI : aV > aD
     ·rw [if_pos bI] at H; have bN : decide (aD < aV) = true := decide_eq_true bI; clear bI
      (first | rw [bN] | (simp only [i64_w, i32_w]; rw [bN]) | skip)
      have H' := mk_ H; clear H
      go_wp2
      go_meet
      case rel => exact ⟨_, (true), (by first | rfl | (simp; done) | (simp [*]; done)), H', ⟨by have := HJ4.out; first | omega | exact Nat.le_refl _⟩, ⟨by (with_reducible repeat (first | apply Kd.N_alloc | apply Kd.N_drewN | apply Kd.N_drew)); exact aN.out⟩, ⟨by (with_reducible repeat (first | apply Kd.V_alloc | apply Kd.V_drewN | apply Kd.V_drew)); exact aO.out⟩, ⟨bk_ aA⟩, ⟨bk_ aB⟩, ⟨bl_ HB⟩⟩
     ·rw [if_neg bI] at H; have bN : decide (aD < aV) = false := decide_eq_false bI; clear bI
      (first | rw [bN] | (simp only [i64_w, i32_w]; rw [bN]) | skip)
      by_cases bJ : aV > aL
      ·rw [if_pos bJ] at H; have dE : decide (aL < aV) = true := decide_eq_true bJ; clear bJ; have H' := mk_ H; clear H
       go_wp2
       go_meet
       case rel => exact ⟨_, (true), (by first | rfl | (simp; done) | (simp [*]; done)), H', ⟨by have := HJ4.out; first | omega | exact Nat.le_refl _⟩, ⟨by (with_reducible repeat (first | apply Kd.N_alloc | apply Kd.N_drewN | apply Kd.N_drew)); exact aN.out⟩, ⟨by (with_reducible repeat (first | apply Kd.V_alloc | apply Kd.V_drewN | apply Kd.V_drew)); exact aO.out⟩, ⟨bk_ aA⟩, ⟨bk_ aB⟩, ⟨bl_ HB⟩⟩
      ·rw [if_neg bJ] at H; have dE : decide (aL < aV) = false := decide_eq_false bJ; clear bJ
       by_cases bP : aR = true
       ·subst bP
        have H1 : (if bH = true then (rillmeterlaw15_ElasticBounds.j1 aP l1 a2 aL true aD false a0_0 a0_1 a0_2 a0_3 a0_4 a0_5 aG aH aI aC aE aK aF) else (rillmeterlaw15_ElasticBounds.j1 aP l1 a2 aL true aD false a0_0 a0_1 a0_2 a0_3 a0_4 a0_5 aG aH aI aC aE aK aF)) = some r := by rw [if_pos rfl] at H; exact H
        clear H; have H := H1; clear H1
        by_cases bQ : bH = true
        ·subst bQ
         have H1 : (rillmeterlaw15_ElasticBounds.j1 aP l1 a2 aL true aD false a0_0 a0_1 a0_2 a0_3 a0_4 a0_5 aG aH aI aC aE aK aF) = some r := by rw [if_pos rfl] at H; exact H
         clear H; have H := H1; clear H1; have H' := mk_ H; clear H
         go_wp2
         go_meet
         case rel => exact ⟨_, (false), (by first | rfl | (simp; done) | (simp [*]; done)), H', ⟨by have := HJ4.out; first | omega | exact Nat.le_refl _⟩, ⟨by (with_reducible repeat (first | apply Kd.N_alloc | apply Kd.N_drewN | apply Kd.N_drew)); exact aN.out⟩, ⟨by (with_reducible repeat (first | apply Kd.V_alloc | apply Kd.V_drewN | apply Kd.V_drew)); exact aO.out⟩, ⟨bk_ aA⟩, ⟨bk_ aB⟩, ⟨bl_ HB⟩⟩
        ·replace bQ := Bool.eq_false_iff.mpr bQ; subst bQ
         have H1 : (rillmeterlaw15_ElasticBounds.j1 aP l1 a2 aL true aD false a0_0 a0_1 a0_2 a0_3 a0_4 a0_5 aG aH aI aC aE aK aF) = some r := by rw [if_neg (show ¬ (false = true) by decide)] at H; exact H
         clear H; have H := H1; clear H1; have H' := mk_ H; clear H
         go_wp2
         go_meet
         case rel => exact ⟨_, (false), (by first | rfl | (simp; done) | (simp [*]; done)), H', ⟨by have := HJ4.out; first | omega | exact Nat.le_refl _⟩, ⟨by (with_reducible repeat (first | apply Kd.N_alloc | apply Kd.N_drewN | apply Kd.N_drew)); exact aN.out⟩, ⟨by (with_reducible repeat (first | apply Kd.V_alloc | apply Kd.V_drewN | apply Kd.V_drew)); exact aO.out⟩, ⟨bk_ aA⟩, ⟨bk_ aB⟩, ⟨bl_ HB⟩⟩
       ·replace bP := Bool.eq_false_iff.mpr bP; subst bP
        have H1 : (if aL < aD then (rillmeterlaw15_ElasticBounds.j1 aP l1 a2 aL false aD true a0_0 a0_1 a0_2 a0_3 a0_4 a0_5 aG aH aI aC aE aK aF) else (if bH = true then (if aV = aD then (rillmeterlaw15_ElasticBounds.j1 aP l1 a2 aL false aD (aL != aD) a0_0 a0_1 a0_2 a0_3 a0_4 a0_5 aG aH aI aC aE aK aF) else (rillmeterlaw15_ElasticBounds.j1 aP l1 a2 aL false aD true a0_0 a0_1 a0_2 a0_3 a0_4 a0_5 aG aH aI aC aE aK aF)) else (rillmeterlaw15_ElasticBounds.j1 aP l1 a2 aL false aD false a0_0 a0_1 a0_2 a0_3 a0_4 a0_5 aG aH aI aC aE aK aF))) = some r := by rw [if_neg (show ¬ (false = true) by decide)] at H; exact H
        clear H; have H := H1; clear H1
        by_cases bK : aL < aD
        ·rw [if_pos bK] at H; have dF : decide (aL < aD) = true := decide_eq_true bK; clear bK; have H' := mk_ H; clear H
         go_wp2
         go_meet
         case rel => exact ⟨_, (true), (by first | rfl | (simp; done) | (simp [*]; done)), H', ⟨by have := HJ4.out; first | omega | exact Nat.le_refl _⟩, ⟨by (with_reducible repeat (first | apply Kd.N_alloc | apply Kd.N_drewN | apply Kd.N_drew)); exact aN.out⟩, ⟨by (with_reducible repeat (first | apply Kd.V_alloc | apply Kd.V_drewN | apply Kd.V_drew)); exact aO.out⟩, ⟨bk_ aA⟩, ⟨bk_ aB⟩, ⟨bl_ HB⟩⟩
        ·rw [if_neg bK] at H; have dF : decide (aL < aD) = false := decide_eq_false bK; clear bK
         by_cases bR : bH = true
         ·subst bR
          have H1 : (if aV = aD then (rillmeterlaw15_ElasticBounds.j1 aP l1 a2 aL false aD (aL != aD) a0_0 a0_1 a0_2 a0_3 a0_4 a0_5 aG aH aI aC aE aK aF) else (rillmeterlaw15_ElasticBounds.j1 aP l1 a2 aL false aD true a0_0 a0_1 a0_2 a0_3 a0_4 a0_5 aG aH aI aC aE aK aF)) = some r := by rw [if_pos rfl] at H; exact H
          clear H; have H := H1; clear H1
          by_cases bD : aV = aD
          ·rw [if_pos bD] at H; have dG : (aV == aD) = true := beq_iff_eq.mpr bD; have dH : (aV != aD) = false := bne_eq_false_iff_eq.mpr bD; clear bD; have H' := mk_ H; clear H
           go_wp2
           go_meet
           case rel => exact ⟨_, ((aL != aD)), (by first | rfl | (simp; done) | (simp [*]; done)), H', ⟨by have := HJ4.out; first | omega | exact Nat.le_refl _⟩, ⟨by (with_reducible repeat (first | apply Kd.N_alloc | apply Kd.N_drewN | apply Kd.N_drew)); exact aN.out⟩, ⟨by (with_reducible repeat (first | apply Kd.V_alloc | apply Kd.V_drewN | apply Kd.V_drew)); exact aO.out⟩, ⟨bk_ aA⟩, ⟨bk_ aB⟩, ⟨bl_ HB⟩⟩
          ·rw [if_neg bD] at H; have dG : (aV == aD) = false := beq_eq_false_iff_ne.mpr bD; have dH : (aV != aD) = true := bne_iff_ne.mpr bD; have H' := mk_ H; clear H
           go_wp2
           go_meet
           case rel => exact ⟨_, (true), (by first | rfl | (simp; done) | (simp [*]; done)), H', ⟨by have := HJ4.out; first | omega | exact Nat.le_refl _⟩, ⟨by (with_reducible repeat (first | apply Kd.N_alloc | apply Kd.N_drewN | apply Kd.N_drew)); exact aN.out⟩, ⟨by (with_reducible repeat (first | apply Kd.V_alloc | apply Kd.V_drewN | apply Kd.V_drew)); exact aO.out⟩, ⟨bk_ aA⟩, ⟨bk_ aB⟩, ⟨bl_ HB⟩⟩
         ·replace bR := Bool.eq_false_iff.mpr bR; subst bR
          have H1 : (rillmeterlaw15_ElasticBounds.j1 aP l1 a2 aL false aD false a0_0 a0_1 a0_2 a0_3 a0_4 a0_5 aG aH aI aC aE aK aF) = some r := by rw [if_neg (show ¬ (false = true) by decide)] at H; exact H
          clear H; have H := H1; clear H1; have H' := mk_ H; clear H
          go_wp2
          go_meet
          case rel => exact ⟨_, (false), (by first | rfl | (simp; done) | (simp [*]; done)), H', ⟨by have := HJ4.out; first | omega | exact Nat.le_refl _⟩, ⟨by (with_reducible repeat (first | apply Kd.N_alloc | apply Kd.N_drewN | apply Kd.N_drew)); exact aN.out⟩, ⟨by (with_reducible repeat (first | apply Kd.V_alloc | apply Kd.V_drewN | apply Kd.V_drew)); exact aO.out⟩, ⟨bk_ aA⟩, ⟨bk_ aB⟩, ⟨bl_ HB⟩⟩
    case rest =>
     clear HC21; (try clear c1); (try clear c2); (try clear p2); (try clear c3); (try clear c5); (try clear dM); (try clear fG); (try clear bM); (try clear bO); (try clear fH); (try clear fI); (try clear fJ); (try clear bI); (try clear bN); (try clear bJ); (try clear dE); (try clear bP); (try clear bQ); (try clear bK); (try clear dF); (try clear bR); (try clear bD); (try clear dG); (try clear dH); (try clear cN); (try clear cO); (try clear cP); (try clear cQ); (try clear cR); (try clear cS); (try clear cT); (try clear dN); (try clear dO); (try clear dP); (try clear dQ); (try clear dR); (try clear dS); (try clear dT); (try clear bZ); (try clear cA); (try clear cB); (try clear cC); (try clear cD); (try clear cE); (try clear cU); (try clear cV); (try clear cW); (try clear cX); (try clear cY); (try clear cZ); (try clear dA); (try clear dU); (try clear dV); (try clear dW); (try clear dX); (try clear dY); (try clear dZ); (try clear fA); (try clear cF); (try clear cG); (try clear cH); (try clear cI); (try clear cJ); (try clear cK); (try clear p2); obtain ⟨kq, dD, rfl, HA, HJ20, aN, aO, aA, aB, HB⟩ := hcut
     cases kq with
     | zero => exact absurd HA.out (by simp [rillmeterlaw15_ElasticBounds.j1])
     | succ fB =>
      have H := HA.out; clear HA; simp only [rillmeterlaw15_ElasticBounds.j1] at H
      by_cases bV : dD = true
      ·subst bV
       have H1 : (some false) = some r := by rw [if_pos rfl] at H; exact H
       clear H; have H := H1; clear H1; exact absurd ((Option.some.inj H).trans hrt.out) (by decide)
      ·replace bV := Bool.eq_false_iff.mpr bV; subst bV
       have H1 : (rillmeterlaw15_ElasticBounds.l0 fB l1 a2 aL aR aD 0 a0_0 a0_1 a0_2 a0_3 a0_4 a0_5 aG aH aI aC aE aK aF) = some r := by rw [if_neg (show ¬ (false = true) by decide)] at H; exact H
       clear H; have H := H1; clear H1; have H' := mk_ H; clear H
       go_wp2
       go_loopg [14] fB (fun kq fY w' => ∃ (aU : Int), fY = .int .i64 aU ∧ Aside0 (rillmeterlaw15_ElasticBounds.l0 kq l1 a2 aL aR aD aU a0_0 a0_1 a0_2 a0_3 a0_4 a0_5 aG aH aI aC aE aK aF = some r) ∧ Aside0 (kq ≤ fB) ∧ Aside0 (Kd.N k56 56 w' w.heap.size (fun k_ => k_ ≠ aM ∧ k_ ≠ aJ) (.slice aS aC.length aT) aC) ∧ Aside0 (Kd.V (Kd.slice 3 (Kd.int .i64)) 57 w' w.heap.size (fun k_ => some k_ ≠ ((.slice aS aC.length aT) : Value).ownBlock ∧ k_ ≠ aM ∧ k_ ≠ aJ) (.slice aW aF.length aX) aF) ∧ Aside0 (w'.heap[aM]? = some (.cells #[.int .u64 a0_0, .int .i64 a0_1, .int .i64 a0_2, .int .i64 a0_3, .int .i64 a0_4, .int .i64 a0_5] 60 (0, 0))) ∧ Aside0 (w'.heap[aJ]? = some (.cells #[.int .u64 aG, .int .i64 aH, .int .i64 aI, (.slice aS aC.length aT), .int .u64 aE, .int .i64 aK, (.slice aW aF.length aX)] 28 (0, 0))) ∧ Aside0 (Below w.heap.size w w'))
       case atStart => exact ⟨(0), (by first | rfl | (simp; done) | (simp [*]; done)), H', ⟨Nat.le_refl _⟩, ⟨by (with_reducible repeat (first | apply Kd.N_alloc | apply Kd.N_drewN | apply Kd.N_drew)); exact aN.out⟩, ⟨by (with_reducible repeat (first | apply Kd.V_alloc | apply Kd.V_drewN | apply Kd.V_drew)); exact aO.out⟩, ⟨bk_ aA⟩, ⟨bk_ aB⟩, ⟨bl_ HB⟩⟩
       case round =>
        clear H'; (try clear c1); (try clear c2); (try clear p2); (try clear c3); (try clear c5); (try clear dM); (try clear fG); (try clear bM); (try clear bO); (try clear fH); (try clear fI); (try clear fJ); (try clear bI); (try clear bN); (try clear bJ); (try clear dE); (try clear bP); (try clear bQ); (try clear bK); (try clear dF); (try clear bR); (try clear bD); (try clear dG); (try clear dH); (try clear bV); (try clear cN); (try clear cO); (try clear cP); (try clear cQ); (try clear cR); (try clear cS); (try clear cT); (try clear dN); (try clear dO); (try clear dP); (try clear dQ); (try clear dR); (try clear dS); (try clear dT); (try clear bZ); (try clear cA); (try clear cB); (try clear cC); (try clear cD); (try clear cE); (try clear cU); (try clear cV); (try clear cW); (try clear cX); (try clear cY); (try clear cZ); (try clear dA); (try clear dU); (try clear dV); (try clear dW); (try clear dX); (try clear dY); (try clear dZ); (try clear fA); (try clear cF); (try clear cG); (try clear cH); (try clear cI); (try clear cJ); (try clear cK); (try clear p2); obtain ⟨aU, rfl, HA, HK3, aN, aO, aA, aB, HB⟩ := hrel
        cases gk with
        | zero => exact absurd HA.out (by simp [rillmeterlaw15_ElasticBounds.l0])
        | succ k3 =>
         have H := HA.out; clear HA; simp only [rillmeterlaw15_ElasticBounds.l0] at H
         by_cases bS : aU < a0_4
         ·rw [if_pos bS] at H; have fK : decide (aU < a0_4) = true := decide_eq_true bS; clear bS; have H' := mk_ H; clear H; have hF := aZ.out; have hG := cM.out; obtain ⟨fZ, gA, gB, gC, gD, gE⟩ := cz6_ aA; obtain ⟨gF, gG, gH, gI, gJ, gK⟩ := fz6_ aA
          go_wp2
          go_loopg [15, 85] k3 (fun kq gL gM w' => ∃ (aY : Int) (aQ : Int), gL = .int .i64 aY ∧ gM = .int .i64 aQ ∧ Aside0 (rillmeterlaw15_ElasticBounds.l1 kq l1 a2 aL aR aD aU aY l1 (l1.length : Int) aQ a0_0 a0_1 a0_2 a0_3 a0_4 a0_5 aG aH aI aC aE aK aF = some r) ∧ Aside0 (kq ≤ k3) ∧ Aside0 (Kd.N k56 56 w' w.heap.size (fun k_ => k_ ≠ aM ∧ k_ ≠ aJ) (.slice aS aC.length aT) aC) ∧ Aside0 (Kd.V (Kd.slice 3 (Kd.int .i64)) 57 w' w.heap.size (fun k_ => some k_ ≠ ((.slice aS aC.length aT) : Value).ownBlock ∧ k_ ≠ aM ∧ k_ ≠ aJ) (.slice aW aF.length aX) aF) ∧ Aside0 (w'.heap[aM]? = some (.cells #[.int .u64 a0_0, .int .i64 a0_1, .int .i64 a0_2, .int .i64 a0_3, .int .i64 a0_4, .int .i64 a0_5] 60 (0, 0))) ∧ Aside0 (w'.heap[aJ]? = some (.cells #[.int .u64 aG, .int .i64 aH, .int .i64 aI, (.slice aS aC.length aT), .int .u64 aE, .int .i64 aK, (.slice aW aF.length aX)] 28 (0, 0))) ∧ Aside0 (Below w.heap.size w w'))
          case atStart => exact ⟨(0), (0), (by first | rfl | (simp; done) | (simp [*]; done)), (by first | rfl | (simp; done) | (simp [*]; done)), H', ⟨Nat.le_refl _⟩, ⟨by (with_reducible repeat (first | apply Kd.N_alloc | apply Kd.N_drewN | apply Kd.N_drew)); exact aN.out⟩, ⟨by (with_reducible repeat (first | apply Kd.V_alloc | apply Kd.V_drewN | apply Kd.V_drew)); exact aO.out⟩, ⟨bk_ aA⟩, ⟨bk_ aB⟩, ⟨bl_ HB⟩⟩
          case round =>
           clear H'; (try clear c1); (try clear c2); (try clear p2); (try clear c3); (try clear c5); (try clear dM); (try clear fG); (try clear bM); (try clear bO); (try clear fH); (try clear fI); (try clear fJ); (try clear bI); (try clear bN); (try clear bJ); (try clear dE); (try clear bP); (try clear bQ); (try clear bK); (try clear dF); (try clear bR); (try clear bD); (try clear dG); (try clear dH); (try clear bV); (try clear bS); (try clear fK); (try clear hH); (try clear cN); (try clear cO); (try clear cP); (try clear cQ); (try clear cR); (try clear cS); (try clear cT); (try clear dN); (try clear dO); (try clear dP); (try clear dQ); (try clear dR); (try clear dS); (try clear dT); (try clear fZ); (try clear gA); (try clear gB); (try clear gC); (try clear gD); (try clear gE); (try clear bZ); (try clear cA); (try clear cB); (try clear cC); (try clear cD); (try clear cE); (try clear cU); (try clear cV); (try clear cW); (try clear cX); (try clear cY); (try clear cZ); (try clear dA); (try clear dU); (try clear dV); (try clear dW); (try clear dX); (try clear dY); (try clear dZ); (try clear fA); (try clear gF); (try clear gG); (try clear gH); (try clear gI); (try clear gJ); (try clear gK); (try clear cF)
           (try clear cG); (try clear cH); (try clear cI); (try clear cJ); (try clear cK); (try clear p2); obtain ⟨aY, aQ, rfl, rfl, HA, HK4, aN, aO, aA, aB, HB⟩ := hrel
           cases gk with
           | zero => exact absurd HA.out (by simp [rillmeterlaw15_ElasticBounds.l1])
           | succ k4 =>
            have H := HA.out; clear HA; simp only [rillmeterlaw15_ElasticBounds.l1] at H
            by_cases bW : aQ < (l1.length : Int)
            ·rw [if_pos bW] at H; have gN : decide (aQ < (l1.length : Int)) = true := decide_eq_true bW; clear bW
             by_cases dI : 0 ≤ aQ
             ·rw [if_pos dI] at H; have hI : decide (0 ≤ aQ) = true := decide_eq_true dI; clear dI
              by_cases dJ : aQ < (l1.length : Int)
              ·rw [if_pos dJ] at H; have hJ : decide (aQ < (l1.length : Int)) = true := decide_eq_true dJ; clear dJ
               by_cases bT : (rdOf ByteArray.empty l1 aQ).toList = a2.toList
               ·rw [if_pos bT] at H; have gO : ((rdOf ByteArray.empty l1 aQ).toList == a2.toList) = true := beq_iff_eq.mpr bT; have gP : ((rdOf ByteArray.empty l1 aQ).toList != a2.toList) = false := bne_eq_false_iff_eq.mpr bT; clear bT; have H' := mk_ H; clear H; have bA : 0 ≤ (aQ : Int) := of_decide_eq_true (by first | (with_reducible assumption) | assumption); have bB : aQ < (l1.length : Int) := of_decide_eq_true (by first | (with_reducible assumption) | assumption); obtain ⟨fL, e419, bC⟩ := Kd.at_string HR1.out aQ bA bB
                cases e419; (try replace bC := bt_ HB bC); replace bA := eq_true bA; replace bB := eq_true bB
                try go_wp2
                replace aN := mk_ (Kd.N_drew aN.out); replace aO := mk_ (Kd.V_drew aO.out); replace aA := bd_ aA; replace aB := bd_ aB; replace HB := mk_ (below_drew1 HB.out); refine start_ (n := 22) (S := fun w' => True) (ds := []) (mB 22 0) (by kernel_rfl) rfl rfl trivial (fun hHeld => ?_); refine with_tabW rillmeterlaw15_ElasticBounds.tab15 rillmeterlaw15_ElasticBounds.bits15 (fun HT_ HW_ => ?_); generalize wr.drew = hL at aN aO aA aB HB hHeld ⊢; refine pq_ 0 89 22 1 HT_ ?_
                refine pq_ 1 90 22 3 HT_ ?_
                refine pq_ 2 91 22 7 HT_ ?_
                refine pq_ 3 92 22 15 HT_ ?_
                refine un_ [(4, 93), (5, 94), (6, 95), (7, 96), (8, 97), (9, 98), (10, 99), (11, 100), (12, 101), (13, 102), (14, 103), (15, 104), (16, 105), (17, 106), (18, 107), (19, 108), (20, 109)] (fuel := 1) (a' := ?_) (mB 22 2097151) rfl HT_ (by kernel_rfl) (by kernel_rfl) (fun _ _ _ _ h => h) ?_ ?_; rotate_left
                ·simp only [unwA, Act.put, sa_, sb_, sc_, i64_w, i32_w]; rfl
                refine pq_ 21 110 22 4194303 HT_ ?_
                refine done_ (done_of HT_.out (by kernel_rfl)) ?_
                try go_wp2
                go_roundg k4
                case measure => have := HJ4.out; have := HJ20.out; have := HK3.out; have := HK4.out; omega
                case rel => exact ⟨(aY), (wrap64 (aQ + 1)), (by first | rfl | (simp; done) | (simp [*]; done)), (by first | rfl | (simp; done) | (simp [*]; done)), H', ⟨by have := HJ4.out; have := HJ20.out; have := HK3.out; have := HK4.out; omega⟩, ⟨by (with_reducible repeat (first | apply Kd.N_alloc | apply Kd.N_drewN | apply Kd.N_drew)); exact aN.out⟩, ⟨by (with_reducible repeat (first | apply Kd.V_alloc | apply Kd.V_drewN | apply Kd.V_drew)); exact aO.out⟩, ⟨bk_ aA⟩, ⟨bk_ aB⟩, ⟨bl_ HB⟩⟩
               ·rw [if_neg bT] at H; have gO : ((rdOf ByteArray.empty l1 aQ).toList == a2.toList) = false := beq_eq_false_iff_ne.mpr bT; have gP : ((rdOf ByteArray.empty l1 aQ).toList != a2.toList) = true := bne_iff_ne.mpr bT; replace H := Option.bind_eq_some_iff.mp H; obtain ⟨bL, fM, H⟩ := H; replace H : ((rillmeterref11_Cell.f k4 aE a2 aU a0_5).bind fun bE => (if bL = bE then (rillmeterlaw15_ElasticBounds.l1 k4 l1 a2 aL aR aD aU (wrap64 (aY + 1)) l1 (l1.length : Int) (wrap64 (aQ + 1)) a0_0 a0_1 a0_2 a0_3 a0_4 a0_5 aG aH aI aC aE aK aF) else (rillmeterlaw15_ElasticBounds.l1 k4 l1 a2 aL aR aD aU aY l1 (l1.length : Int) (wrap64 (aQ + 1)) a0_0 a0_1 a0_2 a0_3 a0_4 a0_5 aG aH aI aC aE aK aF))) = some r := H; have fN := mk_ fM; clear fM; replace H := Option.bind_eq_some_iff.mp H; obtain ⟨bE, fO, H⟩ := H; replace H : (if bL = bE then (rillmeterlaw15_ElasticBounds.l1 k4 l1 a2 aL aR aD aU (wrap64 (aY + 1)) l1 (l1.length : Int) (wrap64 (aQ + 1)) a0_0 a0_1 a0_2 a0_3 a0_4 a0_5 aG aH aI aC aE aK aF) else (rillmeterlaw15_ElasticBounds.l1 k4 l1 a2 aL aR aD aU aY l1 (l1.length : Int) (wrap64 (aQ + 1)) a0_0 a0_1 a0_2 a0_3 a0_4 a0_5 aG aH aI aC aE aK aF)) = some r := H; have fP := mk_ fO; clear fO
                by_cases bU : bL = bE
                ·rw [if_pos bU] at H; have gQ : (bL == bE) = true := beq_iff_eq.mpr bU; have gR : (bL != bE) = false := bne_eq_false_iff_eq.mpr bU; clear bU; have H' := mk_ H; clear H; have bA : 0 ≤ (aQ : Int) := of_decide_eq_true (by first | (with_reducible assumption) | assumption); have bB : aQ < (l1.length : Int) := of_decide_eq_true (by first | (with_reducible assumption) | assumption); obtain ⟨fL, e419, bC⟩ := Kd.at_string HR1.out aQ bA bB
                 cases e419; (try replace bC := bt_ HB bC); replace bA := eq_true bA; replace bB := eq_true bB
                 try go_wp2
                 replace aN := mk_ (Kd.N_drew aN.out); replace aO := mk_ (Kd.V_drew aO.out); replace aA := bd_ aA; replace aB := bd_ aB; replace HB := mk_ (below_drew1 HB.out)
                 refine start_ (n := 22) (S := fun w' => w'.cell? ⟨aJ, 0, none⟩ = some (.int .u64 aG) ∧ w'.cell? ⟨aJ, 1, none⟩ = some (.int .i64 aH) ∧ w'.cell? ⟨aJ, 2, none⟩ = some (.int .i64 aI) ∧ w'.cell? ⟨aJ, 3, none⟩ = some (.slice aS aC.length aT) ∧ w'.cell? ⟨aJ, 4, none⟩ = some (.int .u64 aE) ∧ w'.cell? ⟨aJ, 5, none⟩ = some (.int .i64 aK) ∧ w'.cell? ⟨aJ, 6, none⟩ = some (.slice aW aF.length aX) ∧ w'.cell? ⟨aM, 0, none⟩ = some (.int .u64 a0_0) ∧ w'.cell? ⟨aM, 1, none⟩ = some (.int .i64 a0_1) ∧ w'.cell? ⟨aM, 2, none⟩ = some (.int .i64 a0_2) ∧ w'.cell? ⟨aM, 3, none⟩ = some (.int .i64 a0_3) ∧ w'.cell? ⟨aM, 4, none⟩ = some (.int .i64 a0_4) ∧ w'.cell? ⟨aM, 5, none⟩ = some (.int .i64 a0_5)) (ds := []) (mB 22 0) (by kernel_rfl) rfl rfl ⟨bc_ aB 0, bc_ aB 1, bc_ aB 2, bc_ aB 3, bc_ aB 4, bc_ aB 5, bc_ aB 6, bc_ aA 0, bc_ aA 1, bc_ aA 2, bc_ aA 3, bc_ aA 4, bc_ aA 5⟩ (fun hHeld => ?_); refine with_tabW rillmeterlaw15_ElasticBounds.tab15 rillmeterlaw15_ElasticBounds.bits15 (fun HT_ HW_ => ?_); generalize wr.drew = hM at aN aO aA aB HB hHeld ⊢
                 refine pq_ 0 89 22 1 HT_ ?_
                 refine pq_ 1 90 22 3 HT_ ?_
                 refine pq_ 2 91 22 7 HT_ ?_
                 refine pq_ 3 92 22 15 HT_ ?_
                 refine pq_ 4 93 22 31 HT_ ?_
                 refine pq_ 5 94 22 63 HT_ ?_
                 refine pq_ 7 96 22 191 HT_ ?_
                 refine pq_ 8 97 22 447 HT_ ?_
                 refine pq_ 9 98 22 959 HT_ ?_
                 refine pq_ 12 101 22 5055 HT_ ?_
                 refine pq_ 13 102 22 13247 HT_ ?_
                 refine pq_ 15 104 22 46015 HT_ ?_
                 refine pq_ 16 105 22 111551 HT_ ?_
                 refine pq_ 17 106 22 242623 HT_ ?_
                 refine tq_ 6 95 22 242687 HT_ HW_ hHeld ?_
                 refine tq_ 10 99 22 243711 HT_ HW_ hHeld ?_
                 refine tq_ 14 103 22 260095 HT_ HW_ hHeld ?_
                 refine tq_ 18 107 22 522239 HT_ HW_ hHeld ?_
                 refine one_ (i := 11) (N := some 100) (mB 22 524287) rfl rfl (one_of HT_.out (by kernel_rfl)) (by decide) (fun K hK => ?_); refine goes_ Try.func25 (by kernel_rfl) rfl #[.int .u64 aE, .string (rdOf ByteArray.empty l1 aQ), .int .i64 aU, .int .i64 a0_5] (by rfl) rfl rfl (by (try simp only [List.map_toArray, List.map_cons, List.map_nil]); first | done | rfl | (simp only [List.length_drop, List.length_take]; rfl)) ?_; with_reducible refine (rillmeterref11_Cell.calls k4 aE (rdOf ByteArray.empty l1 aQ) aU a0_5 bL _ fN.out).mono ?_
                 rintro e hN ⟨rfl, hb⟩; refine ⟨_, rfl, ?_⟩; replace aN := mk_ (Kd.N_below (by (with_reducible repeat (first | apply Kd.N_alloc | apply Kd.N_drewN | apply Kd.N_drew)); exact aN.out) hb); replace aO := vs_ aO hb; replace aA := bb_ aA hb; replace aB := bb_ aB hb; replace HB := bs_ HB hb; (try clear hb); refine hK.out _ _ ⟨bc_ aB 0, bc_ aB 1, bc_ aB 2, bc_ aB 3, bc_ aB 4, bc_ aB 5, bc_ aB 6, bc_ aA 0, bc_ aA 1, bc_ aA 2, bc_ aA 3, bc_ aA 4, bc_ aA 5⟩ (fun hHeld => ?_); clear hK K; refine norm_ (a' := ?_) ?_ ?_; rotate_left
                 ·show Act.put _ (some 100) _ = _
                  simp only [Act.put, sa_, sb_, sc_, i64_w, i32_w]; rfl
                 refine one_ (i := 19) (N := some 108) (mB 22 1048575) rfl rfl (one_of HT_.out (by kernel_rfl)) (by decide) (fun K hK => ?_); refine goes_ Try.func25 (by kernel_rfl) rfl #[.int .u64 aE, .string a2, .int .i64 aU, .int .i64 a0_5] (by rfl) rfl rfl (by (try simp only [List.map_toArray, List.map_cons, List.map_nil]); first | done | rfl | (simp only [List.length_drop, List.length_take]; rfl)) ?_; with_reducible refine (rillmeterref11_Cell.calls k4 aE a2 aU a0_5 bE _ fP.out).mono ?_
                 rintro e hO ⟨rfl, hb⟩; refine ⟨_, rfl, ?_⟩; replace aN := mk_ (Kd.N_below (by (with_reducible repeat (first | apply Kd.N_alloc | apply Kd.N_drewN | apply Kd.N_drew)); exact aN.out) hb); replace aO := vs_ aO hb; replace aA := bb_ aA hb; replace aB := bb_ aB hb; replace HB := bs_ HB hb; (try clear hb); refine hK.out _ _ ⟨bc_ aB 0, bc_ aB 1, bc_ aB 2, bc_ aB 3, bc_ aB 4, bc_ aB 5, bc_ aB 6, bc_ aA 0, bc_ aA 1, bc_ aA 2, bc_ aA 3, bc_ aA 4, bc_ aA 5⟩ (fun hHeld => ?_); clear hK K; refine norm_ (a' := ?_) ?_ ?_; rotate_left
                 ·show Act.put _ (some 108) _ = _
                  simp only [Act.put, sa_, sb_, sc_, i64_w, i32_w]; rfl
                 refine pq_ 20 109 22 2097151 HT_ ?_
                 refine pq_ 21 110 22 4194303 HT_ ?_
                 refine done_ (done_of HT_.out (by kernel_rfl)) ?_
                 try go_wp2
                 go_roundg k4
                 case measure => have := HJ4.out; have := HJ20.out; have := HK3.out; have := HK4.out; omega
                 case rel => exact ⟨(wrap64 (aY + 1)), (wrap64 (aQ + 1)), (by first | rfl | (simp; done) | (simp [*]; done)), (by first | rfl | (simp; done) | (simp [*]; done)), H', ⟨by have := HJ4.out; have := HJ20.out; have := HK3.out; have := HK4.out; omega⟩, ⟨by (with_reducible repeat (first | apply Kd.N_alloc | apply Kd.N_drewN | apply Kd.N_drew)); exact aN.out⟩, ⟨by (with_reducible repeat (first | apply Kd.V_alloc | apply Kd.V_drewN | apply Kd.V_drew)); exact aO.out⟩, ⟨bk_ aA⟩, ⟨bk_ aB⟩, ⟨bl_ HB⟩⟩
                ·rw [if_neg bU] at H; have gQ : (bL == bE) = false := beq_eq_false_iff_ne.mpr bU; have gR : (bL != bE) = true := bne_iff_ne.mpr bU; have H' := mk_ H; clear H; have bA : 0 ≤ (aQ : Int) := of_decide_eq_true (by first | (with_reducible assumption) | assumption); have bB : aQ < (l1.length : Int) := of_decide_eq_true (by first | (with_reducible assumption) | assumption); obtain ⟨fL, e419, bC⟩ := Kd.at_string HR1.out aQ bA bB
                 cases e419; (try replace bC := bt_ HB bC); replace bA := eq_true bA; replace bB := eq_true bB
                 try go_wp2
                 replace aN := mk_ (Kd.N_drew aN.out); replace aO := mk_ (Kd.V_drew aO.out); replace aA := bd_ aA; replace aB := bd_ aB; replace HB := mk_ (below_drew1 HB.out)
                 refine start_ (n := 22) (S := fun w' => w'.cell? ⟨aJ, 0, none⟩ = some (.int .u64 aG) ∧ w'.cell? ⟨aJ, 1, none⟩ = some (.int .i64 aH) ∧ w'.cell? ⟨aJ, 2, none⟩ = some (.int .i64 aI) ∧ w'.cell? ⟨aJ, 3, none⟩ = some (.slice aS aC.length aT) ∧ w'.cell? ⟨aJ, 4, none⟩ = some (.int .u64 aE) ∧ w'.cell? ⟨aJ, 5, none⟩ = some (.int .i64 aK) ∧ w'.cell? ⟨aJ, 6, none⟩ = some (.slice aW aF.length aX) ∧ w'.cell? ⟨aM, 0, none⟩ = some (.int .u64 a0_0) ∧ w'.cell? ⟨aM, 1, none⟩ = some (.int .i64 a0_1) ∧ w'.cell? ⟨aM, 2, none⟩ = some (.int .i64 a0_2) ∧ w'.cell? ⟨aM, 3, none⟩ = some (.int .i64 a0_3) ∧ w'.cell? ⟨aM, 4, none⟩ = some (.int .i64 a0_4) ∧ w'.cell? ⟨aM, 5, none⟩ = some (.int .i64 a0_5)) (ds := []) (mB 22 0) (by kernel_rfl) rfl rfl ⟨bc_ aB 0, bc_ aB 1, bc_ aB 2, bc_ aB 3, bc_ aB 4, bc_ aB 5, bc_ aB 6, bc_ aA 0, bc_ aA 1, bc_ aA 2, bc_ aA 3, bc_ aA 4, bc_ aA 5⟩ (fun hHeld => ?_); refine with_tabW rillmeterlaw15_ElasticBounds.tab15 rillmeterlaw15_ElasticBounds.bits15 (fun HT_ HW_ => ?_); generalize wr.drew = hP at aN aO aA aB HB hHeld ⊢
                 refine pq_ 0 89 22 1 HT_ ?_
                 refine pq_ 1 90 22 3 HT_ ?_
                 refine pq_ 2 91 22 7 HT_ ?_
                 refine pq_ 3 92 22 15 HT_ ?_
                 refine pq_ 4 93 22 31 HT_ ?_
                 refine pq_ 5 94 22 63 HT_ ?_
                 refine pq_ 7 96 22 191 HT_ ?_
                 refine pq_ 8 97 22 447 HT_ ?_
                 refine pq_ 9 98 22 959 HT_ ?_
                 refine pq_ 12 101 22 5055 HT_ ?_
                 refine pq_ 13 102 22 13247 HT_ ?_
                 refine pq_ 15 104 22 46015 HT_ ?_
                 refine pq_ 16 105 22 111551 HT_ ?_
                 refine pq_ 17 106 22 242623 HT_ ?_
                 refine tq_ 6 95 22 242687 HT_ HW_ hHeld ?_
                 refine tq_ 10 99 22 243711 HT_ HW_ hHeld ?_
                 refine tq_ 14 103 22 260095 HT_ HW_ hHeld ?_
                 refine tq_ 18 107 22 522239 HT_ HW_ hHeld ?_
                 refine one_ (i := 11) (N := some 100) (mB 22 524287) rfl rfl (one_of HT_.out (by kernel_rfl)) (by decide) (fun K hK => ?_); refine goes_ Try.func25 (by kernel_rfl) rfl #[.int .u64 aE, .string (rdOf ByteArray.empty l1 aQ), .int .i64 aU, .int .i64 a0_5] (by rfl) rfl rfl (by (try simp only [List.map_toArray, List.map_cons, List.map_nil]); first | done | rfl | (simp only [List.length_drop, List.length_take]; rfl)) ?_; with_reducible refine (rillmeterref11_Cell.calls k4 aE (rdOf ByteArray.empty l1 aQ) aU a0_5 bL _ fN.out).mono ?_
                 rintro e hQ ⟨rfl, hb⟩; refine ⟨_, rfl, ?_⟩; replace aN := mk_ (Kd.N_below (by (with_reducible repeat (first | apply Kd.N_alloc | apply Kd.N_drewN | apply Kd.N_drew)); exact aN.out) hb); replace aO := vs_ aO hb; replace aA := bb_ aA hb; replace aB := bb_ aB hb; replace HB := bs_ HB hb; (try clear hb); refine hK.out _ _ ⟨bc_ aB 0, bc_ aB 1, bc_ aB 2, bc_ aB 3, bc_ aB 4, bc_ aB 5, bc_ aB 6, bc_ aA 0, bc_ aA 1, bc_ aA 2, bc_ aA 3, bc_ aA 4, bc_ aA 5⟩ (fun hHeld => ?_); clear hK K; refine norm_ (a' := ?_) ?_ ?_; rotate_left
                 ·show Act.put _ (some 100) _ = _
                  simp only [Act.put, sa_, sb_, sc_, i64_w, i32_w]; rfl
                 refine one_ (i := 19) (N := some 108) (mB 22 1048575) rfl rfl (one_of HT_.out (by kernel_rfl)) (by decide) (fun K hK => ?_); refine goes_ Try.func25 (by kernel_rfl) rfl #[.int .u64 aE, .string a2, .int .i64 aU, .int .i64 a0_5] (by rfl) rfl rfl (by (try simp only [List.map_toArray, List.map_cons, List.map_nil]); first | done | rfl | (simp only [List.length_drop, List.length_take]; rfl)) ?_; with_reducible refine (rillmeterref11_Cell.calls k4 aE a2 aU a0_5 bE _ fP.out).mono ?_
                 rintro e hR ⟨rfl, hb⟩; refine ⟨_, rfl, ?_⟩; replace aN := mk_ (Kd.N_below (by (with_reducible repeat (first | apply Kd.N_alloc | apply Kd.N_drewN | apply Kd.N_drew)); exact aN.out) hb); replace aO := vs_ aO hb; replace aA := bb_ aA hb; replace aB := bb_ aB hb; replace HB := bs_ HB hb; (try clear hb); refine hK.out _ _ ⟨bc_ aB 0, bc_ aB 1, bc_ aB 2, bc_ aB 3, bc_ aB 4, bc_ aB 5, bc_ aB 6, bc_ aA 0, bc_ aA 1, bc_ aA 2, bc_ aA 3, bc_ aA 4, bc_ aA 5⟩ (fun hHeld => ?_); clear hK K; refine norm_ (a' := ?_) ?_ ?_; rotate_left
                 ·show Act.put _ (some 108) _ = _
                  simp only [Act.put, sa_, sb_, sc_, i64_w, i32_w]; rfl
                 refine pq_ 20 109 22 2097151 HT_ ?_
                 refine pq_ 21 110 22 4194303 HT_ ?_
                 refine done_ (done_of HT_.out (by kernel_rfl)) ?_
                 try go_wp2
                 go_roundg k4
                 case measure => have := HJ4.out; have := HJ20.out; have := HK3.out; have := HK4.out; omega
                 case rel => exact ⟨(aY), (wrap64 (aQ + 1)), (by first | rfl | (simp; done) | (simp [*]; done)), (by first | rfl | (simp; done) | (simp [*]; done)), H', ⟨by have := HJ4.out; have := HJ20.out; have := HK3.out; have := HK4.out; omega⟩, ⟨by (with_reducible repeat (first | apply Kd.N_alloc | apply Kd.N_drewN | apply Kd.N_drew)); exact aN.out⟩, ⟨by (with_reducible repeat (first | apply Kd.V_alloc | apply Kd.V_drewN | apply Kd.V_drew)); exact aO.out⟩, ⟨bk_ aA⟩, ⟨bk_ aB⟩, ⟨bl_ HB⟩⟩
              ·rw [if_neg dJ] at H; exact absurd H (by simp)
             ·rw [if_neg dI] at H; exact absurd H (by simp)
            ·rw [if_neg bW] at H; have gN : decide (aQ < (l1.length : Int)) = false := decide_eq_false bW; clear bW
             by_cases dK : aR = true
             ·subst dK
              have H1 : (rillmeterlaw15_ElasticBounds.l0 k4 l1 a2 aL true aD (wrap64 (aU + 1)) a0_0 a0_1 a0_2 a0_3 a0_4 a0_5 aG aH aI aC aE aK aF) = some r := by rw [if_pos rfl] at H; exact H
              clear H; have H := H1; clear H1; have H' := mk_ H; clear H
              go_wp2
              go_roundg k4
              case measure => have := HJ4.out; have := HJ20.out; have := HK3.out; have := HK4.out; omega
              case rel => exact ⟨(wrap64 (aU + 1)), (by first | rfl | (simp; done) | (simp [*]; done)), H', ⟨by have := HJ4.out; have := HJ20.out; have := HK3.out; have := HK4.out; omega⟩, ⟨by (with_reducible repeat (first | apply Kd.N_alloc | apply Kd.N_drewN | apply Kd.N_drew)); exact aN.out⟩, ⟨by (with_reducible repeat (first | apply Kd.V_alloc | apply Kd.V_drewN | apply Kd.V_drew)); exact aO.out⟩, ⟨bk_ aA⟩, ⟨bk_ aB⟩, ⟨bl_ HB⟩⟩
             ·replace dK := Bool.eq_false_iff.mpr dK; subst dK
              have H1 : (if aL > (wrap64 (aD + aY)) then (some false) else (rillmeterlaw15_ElasticBounds.l0 k4 l1 a2 aL false aD (wrap64 (aU + 1)) a0_0 a0_1 a0_2 a0_3 a0_4 a0_5 aG aH aI aC aE aK aF)) = some r := by rw [if_neg (show ¬ (false = true) by decide)] at H; exact H
              clear H; have H := H1; clear H1
              by_cases bX : aL > (wrap64 (aD + aY))
              ·rw [if_pos bX] at H; have gS : decide ((wrap64 (aD + aY)) < aL) = true := decide_eq_true bX; clear bX; exact absurd ((Option.some.inj H).trans hrt.out) (by decide)
              ·rw [if_neg bX] at H; have gS : decide ((wrap64 (aD + aY)) < aL) = false := decide_eq_false bX; clear bX; have H' := mk_ H; clear H
               go_wp2
               go_roundg k4
               case measure => have := HJ4.out; have := HJ20.out; have := HK3.out; have := HK4.out; omega
               case rel => exact ⟨(wrap64 (aU + 1)), (by first | rfl | (simp; done) | (simp [*]; done)), H', ⟨by have := HJ4.out; have := HJ20.out; have := HK3.out; have := HK4.out; omega⟩, ⟨by (with_reducible repeat (first | apply Kd.N_alloc | apply Kd.N_drewN | apply Kd.N_drew)); exact aN.out⟩, ⟨by (with_reducible repeat (first | apply Kd.V_alloc | apply Kd.V_drewN | apply Kd.V_drew)); exact aO.out⟩, ⟨bk_ aA⟩, ⟨bk_ aB⟩, ⟨bl_ HB⟩⟩
         ·rw [if_neg bS] at H; have fK : decide (aU < a0_4) = false := decide_eq_false bS; clear bS; replace H := Option.bind_eq_some_iff.mp H; obtain ⟨fQ, fR, H⟩ := H; replace H : (some fQ) = some r := H; have gT := mk_ fR; clear fR; obtain rfl := Option.some.inj H; have hS := aZ.out; have hT := cM.out; obtain ⟨hU, hV, hW, hX, hY, hZ⟩ := cz6_ aA; obtain ⟨iA, iB, iC, iD, iE, iF⟩ := fz6_ aA
          go_wp2_with (first | ((with_reducible refine gate_callee (f := 10) rfl ?_); refine goesL_ (some 123) rfl rfl Try.func10 (by kernel_rfl) rfl #[] rfl (by (try simp only [List.map_toArray, List.map_cons, List.map_nil]); first | done | rfl | (simp only [List.length_drop, List.length_take]; rfl)) ?_; (with_reducible refine (rillmeterlaw15_awake.calls k3  fQ _ gT.out).mono ?_); rintro e iG ⟨rfl, hb⟩; refine ⟨_, rfl, ?_⟩; have n0_ := mk_ (Kd.N_below (by (with_reducible repeat (first | apply Kd.N_alloc | apply Kd.N_drewN | apply Kd.N_drew)); exact aN.out) hb); have n1_ := vs_ aO hb; have n2_ := bb_ aA hb; have n3_ := bb_ aB hb; have n4_ := bs_ HB hb; clear aN; clear aO; clear aA; clear aB; clear HB; have aN := n0_; have aO := n1_; have aA := n2_; have aB := n3_; have HB := n4_; clear n0_ n1_ n2_ n3_ n4_; (try clear hb); (try clear hb2); (try clear hk); (try clear hi)))
          go_ret; exact ⟨by first | rfl | (simp [errW_none, errW_some] <;> rfl) | (simp [*, errW_none, errW_some] <;> rfl), bl_ HB⟩

end Go.Proofs.Ytljmjjeghebdpaa.PElasticBounds
