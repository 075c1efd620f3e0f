/- The functions that a law uses, each as a plain function, with the proof that a call of the Go function comes to its answer. Condition of each: the arguments read as the data that it names, and the plain function has an answer. Written by a program of this session (standin.py). -/
import Derived.Test.YteendbdmkijpkaaPLeastBoundsx0
import Derived.Test.YteendbdmkijpkaaPLeastBoundsx1
import Derived.Test.YteendbdmkijpkaaPLeastBoundsx4
import Derived.Test.YteendbdmkijpkaaPLeastBoundsx5
import Derived.Lib.SliceRun
namespace Go.Proofs.Yteendbdmkijpkaa.PLeastBounds
open Go.RowKit Go.Proofs.YteendbdmkijpkaaW.PrintWords Go.Proofs.YteendbdmkijpkaaW.PrintLast Go.Proofs.YteendbdmkijpkaaW.PrintMore
attribute [local go_sem] max2_int min2_int max_two min_two max_three min_three max_four min_four   -- for this text's walks alone
set_option linter.unusedVariables false
set_option linter.unusedSimpArgs false

/-! ### rillmeterlaw11_LeastBounds: function 5 -/
mutual
def rillmeterlaw11_LeastBounds.j0 : Nat → Int → Int → Int → Int → List (S48) → ByteArray → Bool → Int → Int → List (List Int) → Option (Bool)
  | 0, _, _, _, _, _, _, _, _, _, _ => none
  | k + 1, x0, x1, x2, x3, x4, x5, x43, x247000, x247001, x247002 => if x43 = true then ((rillmeterlaw11_awake.f k).bind fun t248 => (some t248)) else ((rillmeterlaw11_adds.f k x247000 x247001 x247002 x4).bind fun bt249 => ((least_Get.f k bt249.1 bt249.2.1 bt249.2.2 x5).bind fun bt254 => (rillmeterlaw11_LeastBounds.l0 k x0 x1 x2 x3 x4 x5 bt254.1 bt254.2 0 x4 (x4.length : Int) 0)))
def rillmeterlaw11_LeastBounds.l0 : Nat → Int → Int → Int → Int → List (S48) → ByteArray → Int → Bool → Int → List (S48) → Int → Int → Option (Bool)
  | 0, _, _, _, _, _, _, _, _, _, _, _, _ => none
  | k + 1, x0, x1, x2, x3, x4, x5, x15, x16, x17, x54, x55, x56 => if x56 < x55 then (if 0 ≤ x56 then (if x56 < (x54.length : Int) then (if ((rd_T48 x54 x56).f0).toList = x5.toList then (rillmeterlaw11_LeastBounds.l0 k x0 x1 x2 x3 x4 x5 x15 x16 (wrap64 (x17 + ((rd_T48 x54 x56).f1))) x54 x55 (wrap64 (x56 + 1))) else (rillmeterlaw11_LeastBounds.l0 k x0 x1 x2 x3 x4 x5 x15 x16 x17 x54 x55 (wrap64 (x56 + 1)))) else (none)) else (none)) else (if x16 = true then (if x15 < x17 then (rillmeterlaw11_LeastBounds.j2 k x0 x1 x2 x4 x5 x15 true) else (if x15 > x3 then (rillmeterlaw11_LeastBounds.j2 k x0 x1 x2 x4 x5 x15 true) else (rillmeterlaw11_LeastBounds.j2 k x0 x1 x2 x4 x5 x15 false))) else (if x15 > x3 then (rillmeterlaw11_LeastBounds.j2 k x0 x1 x2 x4 x5 x15 true) else (rillmeterlaw11_LeastBounds.j2 k x0 x1 x2 x4 x5 x15 (x15 != x3))))
def rillmeterlaw11_LeastBounds.j2 : Nat → Int → Int → Int → List (S48) → ByteArray → Int → Bool → Option (Bool)
  | 0, _, _, _, _, _, _, _ => none
  | k + 1, x0, x1, x2, x4, x5, x15, x88 => if x88 = true then (some false) else (rillmeterlaw11_LeastBounds.l1 k x0 x1 x2 x4 x5 x15 0)
def rillmeterlaw11_LeastBounds.l1 : Nat → Int → Int → Int → List (S48) → ByteArray → Int → Int → Option (Bool)
  | 0, _, _, _, _, _, _, _ => none
  | k + 1, x0, x1, x2, x4, x5, x15, x20 => if x20 < x1 then (rillmeterlaw11_LeastBounds.l2 k x0 x1 x2 x4 x5 x15 x20 0 x4 (x4.length : Int) 0) else ((rillmeterlaw11_awake.f k).bind fun t258 => (some t258))
def rillmeterlaw11_LeastBounds.l2 : Nat → Int → Int → Int → List (S48) → ByteArray → Int → Int → Int → List (S48) → Int → Int → Option (Bool)
  | 0, _, _, _, _, _, _, _, _, _, _, _ => none
  | k + 1, x0, x1, x2, x4, x5, x15, x20, x21, x94, x95, x96 => if x96 < x95 then (if 0 ≤ x96 then (if x96 < (x94.length : Int) then ((rillmeterref11_Cell.f k x0 ((rd_T48 x94 x96).f0) x20 x2).bind fun t261 => ((rillmeterref11_Cell.f k x0 x5 x20 x2).bind fun t262 => (if t261 = t262 then (rillmeterlaw11_LeastBounds.l2 k x0 x1 x2 x4 x5 x15 x20 (wrap64 (x21 + ((rd_T48 x94 x96).f1))) x94 x95 (wrap64 (x96 + 1))) else (rillmeterlaw11_LeastBounds.l2 k x0 x1 x2 x4 x5 x15 x20 x21 x94 x95 (wrap64 (x96 + 1)))))) else (none)) else (none)) else (if x15 > x21 then (some false) else (rillmeterlaw11_LeastBounds.l1 k x0 x1 x2 x4 x5 x15 (wrap64 (x20 + 1))))
end
def rillmeterlaw11_LeastBounds.f (k : Nat) (a0 : Int) (a1 : Int) (a2 : Int) (a3 : Int) (l4 : List (S48)) (a5 : ByteArray) : Option (Bool) := (least_New.f k a0 a1 a2 a3).bind fun bt240 => (if bt240.2.2.2 = 0 then ((rillmeterlaw11_few.f k l4).bind fun t247 => (if t247 = true then (rillmeterlaw11_LeastBounds.j0 k a0 a1 a2 a3 l4 a5 (decide ((a5.size : Int) > 100)) bt240.1 bt240.2.1 bt240.2.2.1) else (rillmeterlaw11_LeastBounds.j0 k a0 a1 a2 a3 l4 a5 true bt240.1 bt240.2.1 bt240.2.2.1))) else (rillmeterlaw11_LeastBounds.j0 k a0 a1 a2 a3 l4 a5 true bt240.1 bt240.2.1 bt240.2.2.1))
theorem rillmeterlaw11_LeastBounds.mono_l : ∀ k, (∀ y0 y1 y2 y3 y4 y5 y6 y7 y8 y9, LeO (rillmeterlaw11_LeastBounds.j0 k y0 y1 y2 y3 y4 y5 y6 y7 y8 y9) (rillmeterlaw11_LeastBounds.j0 (k + 1) y0 y1 y2 y3 y4 y5 y6 y7 y8 y9)) ∧ (∀ y0 y1 y2 y3 y4 y5 y6 y7 y8 y9 y10 y11, LeO (rillmeterlaw11_LeastBounds.l0 k y0 y1 y2 y3 y4 y5 y6 y7 y8 y9 y10 y11) (rillmeterlaw11_LeastBounds.l0 (k + 1) y0 y1 y2 y3 y4 y5 y6 y7 y8 y9 y10 y11)) ∧ (∀ y0 y1 y2 y3 y4 y5 y6, LeO (rillmeterlaw11_LeastBounds.j2 k y0 y1 y2 y3 y4 y5 y6) (rillmeterlaw11_LeastBounds.j2 (k + 1) y0 y1 y2 y3 y4 y5 y6)) ∧ (∀ y0 y1 y2 y3 y4 y5 y6, LeO (rillmeterlaw11_LeastBounds.l1 k y0 y1 y2 y3 y4 y5 y6) (rillmeterlaw11_LeastBounds.l1 (k + 1) y0 y1 y2 y3 y4 y5 y6)) ∧ (∀ y0 y1 y2 y3 y4 y5 y6 y7 y8 y9 y10, LeO (rillmeterlaw11_LeastBounds.l2 k y0 y1 y2 y3 y4 y5 y6 y7 y8 y9 y10) (rillmeterlaw11_LeastBounds.l2 (k + 1) y0 y1 y2 y3 y4 y5 y6 y7 y8 y9 y10))
  | 0 => ⟨fun _ _ _ _ _ _ _ _ _ _ r h => by simp [rillmeterlaw11_LeastBounds.j0] at h, fun _ _ _ _ _ _ _ _ _ _ _ _ r h => by simp [rillmeterlaw11_LeastBounds.l0] at h, fun _ _ _ _ _ _ _ r h => by simp [rillmeterlaw11_LeastBounds.j2] at h, fun _ _ _ _ _ _ _ r h => by simp [rillmeterlaw11_LeastBounds.l1] at h, fun _ _ _ _ _ _ _ _ _ _ _ r h => by simp [rillmeterlaw11_LeastBounds.l2] at h⟩
  | k + 1 => by
    obtain ⟨ih0, ih1, ih2, ih3, ih4⟩ := rillmeterlaw11_LeastBounds.mono_l k
    refine ⟨?_, ?_, ?_, ?_, ?_⟩
    · intro y0 y1 y2 y3 y4 y5 y6 y7 y8 y9
      unfold rillmeterlaw11_LeastBounds.j0
      repeat' first
      | (with_reducible exact ih0 _ _ _ _ _ _ _ _ _ _)
      | (with_reducible exact ih1 _ _ _ _ _ _ _ _ _ _ _ _)
      | (with_reducible exact ih2 _ _ _ _ _ _ _)
      | (with_reducible exact ih3 _ _ _ _ _ _ _)
      | (with_reducible exact ih4 _ _ _ _ _ _ _ _ _ _ _)
      | (with_reducible exact least_Get.mono _ _ _ _ _)
      | (with_reducible exact least_New.mono _ _ _ _ _)
      | (with_reducible exact rillmeterlaw11_adds.mono _ _ _ _ _)
      | (with_reducible exact rillmeterlaw11_awake.mono _)
      | (with_reducible exact rillmeterlaw11_few.mono _ _)
      | (with_reducible exact rillmeterref11_Cell.mono _ _ _ _ _)
      | (with_reducible exact LeO.refl _)
      | (with_reducible exact LeO.none _)
      | (with_reducible refine LeO.ite ?_ ?_)
      | (with_reducible refine LeO.bind ?_ (fun _ => ?_))
      | exact ih0 _ _ _ _ _ _ _ _ _ _
      | exact ih1 _ _ _ _ _ _ _ _ _ _ _ _
      | exact ih2 _ _ _ _ _ _ _
      | exact ih3 _ _ _ _ _ _ _
      | exact ih4 _ _ _ _ _ _ _ _ _ _ _
      | exact least_Get.mono _ _ _ _ _
      | exact least_New.mono _ _ _ _ _
      | exact rillmeterlaw11_adds.mono _ _ _ _ _
      | exact rillmeterlaw11_awake.mono _
      | exact rillmeterlaw11_few.mono _ _
      | exact rillmeterref11_Cell.mono _ _ _ _ _
      | exact LeO.none _
      | refine LeO.ite ?_ ?_
      | refine LeO.bind ?_ (fun _ => ?_)
    · intro y0 y1 y2 y3 y4 y5 y6 y7 y8 y9 y10 y11
      unfold rillmeterlaw11_LeastBounds.l0
      repeat' first
      | (with_reducible exact ih0 _ _ _ _ _ _ _ _ _ _)
      | (with_reducible exact ih1 _ _ _ _ _ _ _ _ _ _ _ _)
      | (with_reducible exact ih2 _ _ _ _ _ _ _)
      | (with_reducible exact ih3 _ _ _ _ _ _ _)
      | (with_reducible exact ih4 _ _ _ _ _ _ _ _ _ _ _)
      | (with_reducible exact least_Get.mono _ _ _ _ _)
      | (with_reducible exact least_New.mono _ _ _ _ _)
      | (with_reducible exact rillmeterlaw11_adds.mono _ _ _ _ _)
      | (with_reducible exact rillmeterlaw11_awake.mono _)
      | (with_reducible exact rillmeterlaw11_few.mono _ _)
      | (with_reducible exact rillmeterref11_Cell.mono _ _ _ _ _)
      | (with_reducible exact LeO.refl _)
      | (with_reducible exact LeO.none _)
      | (with_reducible refine LeO.ite ?_ ?_)
      | (with_reducible refine LeO.bind ?_ (fun _ => ?_))
      | exact ih0 _ _ _ _ _ _ _ _ _ _
      | exact ih1 _ _ _ _ _ _ _ _ _ _ _ _
      | exact ih2 _ _ _ _ _ _ _
      | exact ih3 _ _ _ _ _ _ _
      | exact ih4 _ _ _ _ _ _ _ _ _ _ _
      | exact least_Get.mono _ _ _ _ _
      | exact least_New.mono _ _ _ _ _
      | exact rillmeterlaw11_adds.mono _ _ _ _ _
      | exact rillmeterlaw11_awake.mono _
      | exact rillmeterlaw11_few.mono _ _
      | exact rillmeterref11_Cell.mono _ _ _ _ _
      | exact LeO.none _
      | refine LeO.ite ?_ ?_
      | refine LeO.bind ?_ (fun _ => ?_)
    · intro y0 y1 y2 y3 y4 y5 y6
      unfold rillmeterlaw11_LeastBounds.j2
      repeat' first
      | (with_reducible exact ih0 _ _ _ _ _ _ _ _ _ _)
      | (with_reducible exact ih1 _ _ _ _ _ _ _ _ _ _ _ _)
      | (with_reducible exact ih2 _ _ _ _ _ _ _)
      | (with_reducible exact ih3 _ _ _ _ _ _ _)
      | (with_reducible exact ih4 _ _ _ _ _ _ _ _ _ _ _)
      | (with_reducible exact least_Get.mono _ _ _ _ _)
      | (with_reducible exact least_New.mono _ _ _ _ _)
      | (with_reducible exact rillmeterlaw11_adds.mono _ _ _ _ _)
      | (with_reducible exact rillmeterlaw11_awake.mono _)
      | (with_reducible exact rillmeterlaw11_few.mono _ _)
      | (with_reducible exact rillmeterref11_Cell.mono _ _ _ _ _)
      | (with_reducible exact LeO.refl _)
      | (with_reducible exact LeO.none _)
      | (with_reducible refine LeO.ite ?_ ?_)
      | (with_reducible refine LeO.bind ?_ (fun _ => ?_))
      | exact ih0 _ _ _ _ _ _ _ _ _ _
      | exact ih1 _ _ _ _ _ _ _ _ _ _ _ _
      | exact ih2 _ _ _ _ _ _ _
      | exact ih3 _ _ _ _ _ _ _
      | exact ih4 _ _ _ _ _ _ _ _ _ _ _
      | exact least_Get.mono _ _ _ _ _
      | exact least_New.mono _ _ _ _ _
      | exact rillmeterlaw11_adds.mono _ _ _ _ _
      | exact rillmeterlaw11_awake.mono _
      | exact rillmeterlaw11_few.mono _ _
      | exact rillmeterref11_Cell.mono _ _ _ _ _
      | exact LeO.none _
      | refine LeO.ite ?_ ?_
      | refine LeO.bind ?_ (fun _ => ?_)
    · intro y0 y1 y2 y3 y4 y5 y6
      unfold rillmeterlaw11_LeastBounds.l1
      repeat' first
      | (with_reducible exact ih0 _ _ _ _ _ _ _ _ _ _)
      | (with_reducible exact ih1 _ _ _ _ _ _ _ _ _ _ _ _)
      | (with_reducible exact ih2 _ _ _ _ _ _ _)
      | (with_reducible exact ih3 _ _ _ _ _ _ _)
      | (with_reducible exact ih4 _ _ _ _ _ _ _ _ _ _ _)
      | (with_reducible exact least_Get.mono _ _ _ _ _)
      | (with_reducible exact least_New.mono _ _ _ _ _)
      | (with_reducible exact rillmeterlaw11_adds.mono _ _ _ _ _)
      | (with_reducible exact rillmeterlaw11_awake.mono _)
      | (with_reducible exact rillmeterlaw11_few.mono _ _)
      | (with_reducible exact rillmeterref11_Cell.mono _ _ _ _ _)
      | (with_reducible exact LeO.refl _)
      | (with_reducible exact LeO.none _)
      | (with_reducible refine LeO.ite ?_ ?_)
      | (with_reducible refine LeO.bind ?_ (fun _ => ?_))
      | exact ih0 _ _ _ _ _ _ _ _ _ _
      | exact ih1 _ _ _ _ _ _ _ _ _ _ _ _
      | exact ih2 _ _ _ _ _ _ _
      | exact ih3 _ _ _ _ _ _ _
      | exact ih4 _ _ _ _ _ _ _ _ _ _ _
      | exact least_Get.mono _ _ _ _ _
      | exact least_New.mono _ _ _ _ _
      | exact rillmeterlaw11_adds.mono _ _ _ _ _
      | exact rillmeterlaw11_awake.mono _
      | exact rillmeterlaw11_few.mono _ _
      | exact rillmeterref11_Cell.mono _ _ _ _ _
      | exact LeO.none _
      | refine LeO.ite ?_ ?_
      | refine LeO.bind ?_ (fun _ => ?_)
    · intro y0 y1 y2 y3 y4 y5 y6 y7 y8 y9 y10
      unfold rillmeterlaw11_LeastBounds.l2
      repeat' first
      | (with_reducible exact ih0 _ _ _ _ _ _ _ _ _ _)
      | (with_reducible exact ih1 _ _ _ _ _ _ _ _ _ _ _ _)
      | (with_reducible exact ih2 _ _ _ _ _ _ _)
      | (with_reducible exact ih3 _ _ _ _ _ _ _)
      | (with_reducible exact ih4 _ _ _ _ _ _ _ _ _ _ _)
      | (with_reducible exact least_Get.mono _ _ _ _ _)
      | (with_reducible exact least_New.mono _ _ _ _ _)
      | (with_reducible exact rillmeterlaw11_adds.mono _ _ _ _ _)
      | (with_reducible exact rillmeterlaw11_awake.mono _)
      | (with_reducible exact rillmeterlaw11_few.mono _ _)
      | (with_reducible exact rillmeterref11_Cell.mono _ _ _ _ _)
      | (with_reducible exact LeO.refl _)
      | (with_reducible exact LeO.none _)
      | (with_reducible refine LeO.ite ?_ ?_)
      | (with_reducible refine LeO.bind ?_ (fun _ => ?_))
      | exact ih0 _ _ _ _ _ _ _ _ _ _
      | exact ih1 _ _ _ _ _ _ _ _ _ _ _ _
      | exact ih2 _ _ _ _ _ _ _
      | exact ih3 _ _ _ _ _ _ _
      | exact ih4 _ _ _ _ _ _ _ _ _ _ _
      | exact least_Get.mono _ _ _ _ _
      | exact least_New.mono _ _ _ _ _
      | exact rillmeterlaw11_adds.mono _ _ _ _ _
      | exact rillmeterlaw11_awake.mono _
      | exact rillmeterlaw11_few.mono _ _
      | exact rillmeterref11_Cell.mono _ _ _ _ _
      | exact LeO.none _
      | refine LeO.ite ?_ ?_
      | refine LeO.bind ?_ (fun _ => ?_)
theorem rillmeterlaw11_LeastBounds.mono : ∀ a0 a1 a2 a3 a4 a5 k, LeO (rillmeterlaw11_LeastBounds.f k a0 a1 a2 a3 a4 a5) (rillmeterlaw11_LeastBounds.f (k + 1) a0 a1 a2 a3 a4 a5) := by
  intro a0 a1 a2 a3 a4 a5 k
  obtain ⟨ih0, ih1, ih2, ih3, ih4⟩ := rillmeterlaw11_LeastBounds.mono_l k
  unfold rillmeterlaw11_LeastBounds.f
  repeat' first
      | (with_reducible exact ih0 _ _ _ _ _ _ _ _ _ _)
      | (with_reducible exact ih1 _ _ _ _ _ _ _ _ _ _ _ _)
      | (with_reducible exact ih2 _ _ _ _ _ _ _)
      | (with_reducible exact ih3 _ _ _ _ _ _ _)
      | (with_reducible exact ih4 _ _ _ _ _ _ _ _ _ _ _)
      | (with_reducible exact least_Get.mono _ _ _ _ _)
      | (with_reducible exact least_New.mono _ _ _ _ _)
      | (with_reducible exact rillmeterlaw11_adds.mono _ _ _ _ _)
      | (with_reducible exact rillmeterlaw11_awake.mono _)
      | (with_reducible exact rillmeterlaw11_few.mono _ _)
      | (with_reducible exact rillmeterref11_Cell.mono _ _ _ _ _)
      | (with_reducible exact LeO.refl _)
      | (with_reducible exact LeO.none _)
      | (with_reducible refine LeO.ite ?_ ?_)
      | (with_reducible refine LeO.bind ?_ (fun _ => ?_))
      | exact ih0 _ _ _ _ _ _ _ _ _ _
      | exact ih1 _ _ _ _ _ _ _ _ _ _ _ _
      | exact ih2 _ _ _ _ _ _ _
      | exact ih3 _ _ _ _ _ _ _
      | exact ih4 _ _ _ _ _ _ _ _ _ _ _
      | exact least_Get.mono _ _ _ _ _
      | exact least_New.mono _ _ _ _ _
      | exact rillmeterlaw11_adds.mono _ _ _ _ _
      | exact rillmeterlaw11_awake.mono _
      | exact rillmeterlaw11_few.mono _ _
      | exact rillmeterref11_Cell.mono _ _ _ _ _
      | exact LeO.none _
      | refine LeO.ite ?_ ?_
      | refine LeO.bind ?_ (fun _ => ?_)
set_option maxHeartbeats 8000000 in
set_option maxRecDepth 100000 in
theorem rillmeterlaw11_LeastBounds.calls (k : Nat) (a0 : Int) (a1 : Int) (a2 : Int) (a3 : Int) (A4 : Option Addr) (c4 : Nat) (l4 : List (S48)) (a5 : ByteArray) (r : Bool) (w : World) (hr4 : Kd.C k48 w A4 l4.length l4) (hc4 : l4.length ≤ c4) (h : rillmeterlaw11_LeastBounds.f k a0 a1 a2 a3 l4 a5 = some r) (hrt : Aside0 (r = true)) :
    Calls Try.prog 5 #[.int .u64 a0, .int .i64 a1, .int .i64 a2, .int .i64 a3, .slice A4 l4.length c4, .string a5] w fun e w' => e = .returned (.bool r) ∧ Below w.heap.size w w' := by
  have hu25 := Try.underlying25
  have hu48 := Try.underlying48
  have HR4 := Aside0.mk hr4
  have HC4 := Aside0.mk hc4
  clear hr4 hc4
  have HB := Aside0.mk (Below.refl w.heap.size w)
  have H : ((least_New.f k a0 a1 a2 a3).bind fun bt240 => (if bt240.2.2.2 = 0 then ((rillmeterlaw11_few.f k l4).bind fun t247 => (if t247 = true then (rillmeterlaw11_LeastBounds.j0 k a0 a1 a2 a3 l4 a5 (decide ((a5.size : Int) > 100)) bt240.1 bt240.2.1 bt240.2.2.1) else (rillmeterlaw11_LeastBounds.j0 k a0 a1 a2 a3 l4 a5 true bt240.1 bt240.2.1 bt240.2.2.1))) else (rillmeterlaw11_LeastBounds.j0 k a0 a1 a2 a3 l4 a5 true bt240.1 bt240.2.1 bt240.2.2.1))) = some r := h
  clear h
  replace H := Option.bind_eq_some_iff.mp H
  obtain ⟨⟨t240, t241, t242, t245⟩, A70, H⟩ := H
  replace H : (if t245 = 0 then ((rillmeterlaw11_few.f k l4).bind fun t247 => (if t247 = true then (rillmeterlaw11_LeastBounds.j0 k a0 a1 a2 a3 l4 a5 (decide ((a5.size : Int) > 100)) t240 t241 t242) else (rillmeterlaw11_LeastBounds.j0 k a0 a1 a2 a3 l4 a5 true t240 t241 t242))) else (rillmeterlaw11_LeastBounds.j0 k a0 a1 a2 a3 l4 a5 true t240 t241 t242)) = some r := H
  have A7 := Aside0.mk A70
  clear A70
  have HC8 := Aside0.mk H
  clear H
  go_enter Try.func5, Try.ntmps5
  go_upto_region 2 with (first | ((with_reducible refine gate_callee (f := 9) rfl ?_); refine goesL_ (some 29) rfl rfl Try.func9 (by kernel_rfl) rfl #[.int .u64 a0, .int .i64 a1, .int .i64 a2, .int .i64 a3] rfl (by (try simp only [List.map_toArray, List.map_cons, List.map_nil]); first | done | rfl | (simp only [List.length_drop, List.length_take]; rfl)) ?_; (with_reducible refine (least_New.calls k a0 a1 a2 a3 t240 t241 t242 t245 _ A7.out).mono ?_); rintro e w9 ⟨v243, rfl, ho0, hb⟩; refine ⟨_, rfl, ?_⟩; have n0_ := Aside0.mk (Kd.S_lower ho0 (below_size (by repeat (first | (with_reducible first | exact HB.out | apply below_alloc | apply pw_below_drewN | apply below_drew1) | exact HB.out)))); have n1_ := Aside0.mk (below_step (by repeat (first | (with_reducible first | exact HB.out | apply below_alloc | apply pw_below_drewN | apply below_drew1) | exact HB.out)) hb); clear HB; have HO244 := n0_; have HB := n1_; clear n0_ n1_; (try clear hb); (try clear hb2); (try clear hk); (try clear hi); (try clear ho0)) | ((with_reducible refine gate_dst (N := 13) rfl ?_); (try (refine gate_guard (by rfl) ?_; dsimp only)); refine box_event ?hg (N := 13) ?hd (cs := #[.int .u64 0, .int .i64 0, .slice none 0 0]) (t := 25) ?hr ?_; (case hd => rfl); (case hg => rfl); (case hr => first | (go_simp; done) | (go_simp; rfl)); intro gb246 hg w10 hbox hb; have n0_ := Aside0.mk (Kd.S_below (by (with_reducible repeat (first | apply Kd.S_alloc | apply Kd.S_drewN | apply Kd.S_drew)); exact HO244.out) hb); have n1_ := Aside0.mk (below_step (by repeat (first | (with_reducible first | exact HB.out | apply below_alloc | apply pw_below_drewN | apply below_drew1) | exact HB.out)) hb); have n2_ := Aside0.mk (hbox); have n3_ := Aside0.mk ((by rw [hg]; exact (below_size (by repeat (first | (with_reducible first | exact HB.out | apply below_alloc | apply pw_below_drewN | apply below_drew1) | exact HB.out))) : w.heap.size ≤ gb246)); have n4_ := Aside0.mk ((by rw [hg]; exact (below_size (by repeat (first | (with_reducible first | exact HB.out | apply below_alloc | apply pw_below_drewN | apply below_drew1) | exact HB.out))) : w.heap.size ≤ gb246)); clear HO244; clear HB; have HO244 := n0_; have HB := n1_; have BK246 := n2_; have GW246 := n3_; have GE246 := n4_; clear n0_ n1_ n2_ n3_ n4_; clear hb hbox hg; have hcz11_0 : w10.cell? ⟨gb246, 0, none⟩ = some (.int .u64 0) := (blk_cell BK246.out 0).trans rfl; have hcz11_1 : w10.cell? ⟨gb246, 1, none⟩ = some (.int .i64 0) := (blk_cell BK246.out 1).trans rfl; have hcz11_2 : w10.cell? ⟨gb246, 2, none⟩ = some (.slice none 0 0) := (blk_cell BK246.out 2).trans rfl; have hfz11_0 := blk_frozen BK246.out 0; have hfz11_1 := blk_frozen BK246.out 1; have hfz11_2 := blk_frozen BK246.out 2; obtain ⟨Ao12, co12, eo12⟩ := Kd.S_slice HO244.out; subst eo12))
  (try simp only [Act.put, List.setIfInBounds_toArray, List.set_cons_zero, List.set_cons_succ])
  go_cut [43] (fun v43 wc => ∃ (kq : Nat) (x43_7 : Bool), v43 = .bool x43_7 ∧ Aside0 (rillmeterlaw11_LeastBounds.j0 kq a0 a1 a2 a3 l4 a5 x43_7 t240 t241 t242 = some r) ∧ Aside0 (kq ≤ k) ∧ Aside0 (Kd.S (Kd.slice 3 (Kd.int .i64)) 33 wc w.heap.size (fun _ => True) (.slice Ao12 t242.length co12) t242) ∧ Aside0 (wc.heap[gb246]? = some (.cells #[.int .u64 t240, .int .i64 t241, (.slice Ao12 t242.length co12)] 25 (0, 0))) ∧ Aside0 (Below w.heap.size w wc))
  case first =>
    have H := HC8.out
    clear HC8
    by_cases c13 : t245 = 0
    · rw [if_pos c13] at H
      have c13b0 : (t245 == 0) = true := beq_iff_eq.mpr c13
      have c13b1 : (t245 != 0) = false := bne_eq_false_iff_eq.mpr c13
      clear c13
      (first | rw [c13b0] | (simp only [i64_w, i32_w]; rw [c13b0]) | skip)
      replace H := Option.bind_eq_some_iff.mp H
      obtain ⟨t247, A140, H⟩ := H
      replace H : (if t247 = true then (rillmeterlaw11_LeastBounds.j0 k a0 a1 a2 a3 l4 a5 (decide ((a5.size : Int) > 100)) t240 t241 t242) else (rillmeterlaw11_LeastBounds.j0 k a0 a1 a2 a3 l4 a5 true t240 t241 t242)) = some r := H
      have A14 := Aside0.mk A140
      clear A140
      by_cases c15 : t247 = true
      · subst c15
        have H1 : (rillmeterlaw11_LeastBounds.j0 k a0 a1 a2 a3 l4 a5 (decide ((a5.size : Int) > 100)) t240 t241 t242) = some r := by rw [if_pos rfl] at H; exact H
        clear H
        have H := H1
        clear H1
        have H' := Aside0.mk H
        clear H
        go_wp2_with (first | (go_at_call 20; (with_reducible refine (rillmeterlaw11_few.calls k _ _ l4 true _ ?side1 ?side2 A14.out).mono ?_); (case side1 => exact Kd.C_below HR4.out (by repeat (first | (with_reducible first | exact HB.out | apply below_alloc | apply pw_below_drewN | apply below_drew1 | refine below_set ?_ GE246.out) | exact HB.out))); (case side2 => exact HC4.out); rintro e w' ⟨rfl, ⟨nd, rfl⟩⟩))
        go_meet
        case rel => exact ⟨_, (decide ((a5.size : Int) > 100)), (by first | rfl | (simp; done) | (simp [*]; done)), H', ⟨by first | omega | exact Nat.le_refl _⟩, ⟨by (with_reducible repeat (first | apply Kd.S_alloc | apply Kd.S_drewN | apply Kd.S_drew)); exact Kd.S_mono (Kd.S_far (p := ⟨gb246, 2, none⟩) (Kd.S_far (p := ⟨gb246, 1, none⟩) (Kd.S_far (p := ⟨gb246, 0, none⟩) (Kd.S_types HO244.out BK246.out (by decide)) (fun _ hk => hk.2) (.int .u64 t240)) (fun _ hk => hk.2) (.int .i64 t241)) (fun _ hk => hk.2) (.slice Ao12 t242.length co12)) (fun _ hk => trivial)⟩, ⟨by (with_reducible repeat (first | refine blk_drewN ?_ _ | refine blk_drew ?_ | refine blk_alloc ?_ _)); refine blk_put (cs := #[.int .u64 t240, .int .i64 t241, .slice none 0 0]) ?_ 2 _ rfl; (with_reducible repeat (first | refine blk_drewN ?_ _ | refine blk_drew ?_ | refine blk_alloc ?_ _)); refine blk_put (cs := #[.int .u64 t240, .int .i64 0, .slice none 0 0]) ?_ 1 _ rfl; (with_reducible repeat (first | refine blk_drewN ?_ _ | refine blk_drew ?_ | refine blk_alloc ?_ _)); refine blk_put (cs := #[.int .u64 0, .int .i64 0, .slice none 0 0]) ?_ 0 _ rfl; (with_reducible repeat (first | refine blk_drewN ?_ _ | refine blk_drew ?_ | refine blk_alloc ?_ _)); exact BK246.out⟩, ⟨by repeat (first | (with_reducible first | exact HB.out | apply below_alloc | apply pw_below_drewN | apply below_drew1 | refine below_set ?_ GE246.out) | exact HB.out)⟩⟩
      · replace c15 := Bool.eq_false_iff.mpr c15
        subst c15
        have H1 : (rillmeterlaw11_LeastBounds.j0 k a0 a1 a2 a3 l4 a5 true t240 t241 t242) = some r := by rw [if_neg (show ¬ (false = true) by decide)] at H; exact H
        clear H
        have H := H1
        clear H1
        have H' := Aside0.mk H
        clear H
        go_wp2_with (first | (go_at_call 20; (with_reducible refine (rillmeterlaw11_few.calls k _ _ l4 false _ ?side1 ?side2 A14.out).mono ?_); (case side1 => exact Kd.C_below HR4.out (by repeat (first | (with_reducible first | exact HB.out | apply below_alloc | apply pw_below_drewN | apply below_drew1 | refine below_set ?_ GE246.out) | exact HB.out))); (case side2 => exact HC4.out); rintro e w' ⟨rfl, ⟨nd, rfl⟩⟩))
        go_meet
        case rel => exact ⟨_, (true), (by first | rfl | (simp; done) | (simp [*]; done)), H', ⟨by first | omega | exact Nat.le_refl _⟩, ⟨by (with_reducible repeat (first | apply Kd.S_alloc | apply Kd.S_drewN | apply Kd.S_drew)); exact Kd.S_mono (Kd.S_far (p := ⟨gb246, 2, none⟩) (Kd.S_far (p := ⟨gb246, 1, none⟩) (Kd.S_far (p := ⟨gb246, 0, none⟩) (Kd.S_types HO244.out BK246.out (by decide)) (fun _ hk => hk.2) (.int .u64 t240)) (fun _ hk => hk.2) (.int .i64 t241)) (fun _ hk => hk.2) (.slice Ao12 t242.length co12)) (fun _ hk => trivial)⟩, ⟨by (with_reducible repeat (first | refine blk_drewN ?_ _ | refine blk_drew ?_ | refine blk_alloc ?_ _)); refine blk_put (cs := #[.int .u64 t240, .int .i64 t241, .slice none 0 0]) ?_ 2 _ rfl; (with_reducible repeat (first | refine blk_drewN ?_ _ | refine blk_drew ?_ | refine blk_alloc ?_ _)); refine blk_put (cs := #[.int .u64 t240, .int .i64 0, .slice none 0 0]) ?_ 1 _ rfl; (with_reducible repeat (first | refine blk_drewN ?_ _ | refine blk_drew ?_ | refine blk_alloc ?_ _)); refine blk_put (cs := #[.int .u64 0, .int .i64 0, .slice none 0 0]) ?_ 0 _ rfl; (with_reducible repeat (first | refine blk_drewN ?_ _ | refine blk_drew ?_ | refine blk_alloc ?_ _)); exact BK246.out⟩, ⟨by repeat (first | (with_reducible first | exact HB.out | apply below_alloc | apply pw_below_drewN | apply below_drew1 | refine below_set ?_ GE246.out) | exact HB.out)⟩⟩
    · rw [if_neg c13] at H
      have c13b0 : (t245 == 0) = false := beq_eq_false_iff_ne.mpr c13
      have c13b1 : (t245 != 0) = true := bne_iff_ne.mpr c13
      (first | rw [c13b0] | (simp only [i64_w, i32_w]; rw [c13b0]) | skip)
      have H' := Aside0.mk H
      clear H
      go_wp2
      go_meet
      case rel => exact ⟨_, (true), (by first | rfl | (simp; done) | (simp [*]; done)), H', ⟨by first | omega | exact Nat.le_refl _⟩, ⟨by (with_reducible repeat (first | apply Kd.S_alloc | apply Kd.S_drewN | apply Kd.S_drew)); exact Kd.S_mono (Kd.S_far (p := ⟨gb246, 2, none⟩) (Kd.S_far (p := ⟨gb246, 1, none⟩) (Kd.S_far (p := ⟨gb246, 0, none⟩) (Kd.S_types HO244.out BK246.out (by decide)) (fun _ hk => hk.2) (.int .u64 t240)) (fun _ hk => hk.2) (.int .i64 t241)) (fun _ hk => hk.2) (.slice Ao12 t242.length co12)) (fun _ hk => trivial)⟩, ⟨by (with_reducible repeat (first | refine blk_drewN ?_ _ | refine blk_drew ?_ | refine blk_alloc ?_ _)); refine blk_put (cs := #[.int .u64 t240, .int .i64 t241, .slice none 0 0]) ?_ 2 _ rfl; (with_reducible repeat (first | refine blk_drewN ?_ _ | refine blk_drew ?_ | refine blk_alloc ?_ _)); refine blk_put (cs := #[.int .u64 t240, .int .i64 0, .slice none 0 0]) ?_ 1 _ rfl; (with_reducible repeat (first | refine blk_drewN ?_ _ | refine blk_drew ?_ | refine blk_alloc ?_ _)); refine blk_put (cs := #[.int .u64 0, .int .i64 0, .slice none 0 0]) ?_ 0 _ rfl; (with_reducible repeat (first | refine blk_drewN ?_ _ | refine blk_drew ?_ | refine blk_alloc ?_ _)); exact BK246.out⟩, ⟨by repeat (first | (with_reducible first | exact HB.out | apply below_alloc | apply pw_below_drewN | apply below_drew1 | refine below_set ?_ GE246.out) | exact HB.out)⟩⟩
  case rest =>
    clear HC8
    try clear c1
    try clear p2
    try clear c4
    try clear c5
    try clear c9
    try clear c13
    try clear c13b0
    try clear c13b1
    try clear c15
    try clear hcz11_0
    try clear hcz11_1
    try clear hcz11_2
    try clear hfz11_0
    try clear hfz11_1
    try clear hfz11_2
    obtain ⟨kq, x43_7, rfl, HA, HJ7, HO_247002, BK246, HB⟩ := hcut
    cases kq with
    | zero => exact absurd HA.out (by simp [rillmeterlaw11_LeastBounds.j0])
    | succ kj7 =>
      have H := HA.out
      clear HA
      simp only [rillmeterlaw11_LeastBounds.j0] at H
      by_cases c16 : x43_7 = true
      · subst c16
        have H1 : ((rillmeterlaw11_awake.f kj7).bind fun t248 => (some t248)) = some r := by rw [if_pos rfl] at H; exact H
        clear H
        have H := H1
        clear H1
        replace H := Option.bind_eq_some_iff.mp H
        obtain ⟨t248, A170, H⟩ := H
        replace H : (some t248) = some r := H
        have A17 := Aside0.mk A170
        clear A170
        obtain rfl := Option.some.inj H
        go_wp2_with (first | ((with_reducible refine gate_callee (f := 12) rfl ?_); refine goesL_ (some 44) rfl rfl Try.func12 (by kernel_rfl) rfl #[] rfl (by (try simp only [List.map_toArray, List.map_cons, List.map_nil]); first | done | rfl | (simp only [List.length_drop, List.length_take]; rfl)) ?_; (with_reducible refine (rillmeterlaw11_awake.calls kj7  t248 _ A17.out).mono ?_); rintro e w18 ⟨rfl, hb⟩; refine ⟨_, rfl, ?_⟩; have n0_ := Aside0.mk (Kd.S_below (by (with_reducible repeat (first | apply Kd.S_alloc | apply Kd.S_drewN | apply Kd.S_drew)); exact HO_247002.out) hb); have n1_ := Aside0.mk (blk_below (g := gb246) (o := .cells #[.int .u64 t240, .int .i64 t241, .slice Ao12 t242.length co12] 25 (0, 0)) (by (with_reducible repeat (first | refine blk_drewN ?_ _ | refine blk_drew ?_ | refine blk_alloc ?_ _)); exact BK246.out) hb); have n2_ := Aside0.mk (below_step (by repeat (first | (with_reducible first | exact HB.out | apply below_alloc | apply pw_below_drewN | apply below_drew1 | refine below_set ?_ GE246.out) | exact HB.out)) hb); clear HO_247002; clear BK246; clear HB; have HO_247002 := n0_; have BK246 := n1_; have HB := n2_; clear n0_ n1_ n2_; (try clear hb); (try clear hb2); (try clear hk); (try clear hi)))
        go_ret
        exact ⟨by first | rfl | (simp [errW_none, errW_some] <;> rfl) | (simp [*, errW_none, errW_some] <;> rfl), by repeat (first | (with_reducible first | exact HB.out | apply below_alloc | apply pw_below_drewN | apply below_drew1 | refine below_set ?_ GE246.out) | exact HB.out)⟩
      · replace c16 := Bool.eq_false_iff.mpr c16
        subst c16
        have H1 : ((rillmeterlaw11_adds.f kj7 t240 t241 t242 l4).bind fun bt249 => ((least_Get.f kj7 bt249.1 bt249.2.1 bt249.2.2 a5).bind fun bt254 => (rillmeterlaw11_LeastBounds.l0 kj7 a0 a1 a2 a3 l4 a5 bt254.1 bt254.2 0 l4 (l4.length : Int) 0))) = some r := by rw [if_neg (show ¬ (false = true) by decide)] at H; exact H
        clear H
        have H := H1
        clear H1
        replace H := Option.bind_eq_some_iff.mp H
        obtain ⟨⟨t249, t250, t251⟩, A190, H⟩ := H
        replace H : ((least_Get.f kj7 t249 t250 t251 a5).bind fun bt254 => (rillmeterlaw11_LeastBounds.l0 kj7 a0 a1 a2 a3 l4 a5 bt254.1 bt254.2 0 l4 (l4.length : Int) 0)) = some r := H
        have A19 := Aside0.mk A190
        clear A190
        replace H := Option.bind_eq_some_iff.mp H
        obtain ⟨⟨t254, t255⟩, A200, H⟩ := H
        replace H : (rillmeterlaw11_LeastBounds.l0 kj7 a0 a1 a2 a3 l4 a5 t254 t255 0 l4 (l4.length : Int) 0) = some r := H
        have A20 := Aside0.mk A200
        clear A200
        have H' := Aside0.mk H
        clear H
        have hcz21_0 : wc.cell? ⟨gb246, 0, none⟩ = some (.int .u64 t240) := (blk_cell BK246.out 0).trans rfl
        have hcz21_1 : wc.cell? ⟨gb246, 1, none⟩ = some (.int .i64 t241) := (blk_cell BK246.out 1).trans rfl
        have hcz21_2 : wc.cell? ⟨gb246, 2, none⟩ = some (.slice Ao12 t242.length co12) := (blk_cell BK246.out 2).trans rfl
        have hfz21_0 := blk_frozen BK246.out 0
        have hfz21_1 := blk_frozen BK246.out 1
        have hfz21_2 := blk_frozen BK246.out 2
        go_wp2_with (first | ((with_reducible refine gate_callee (f := 21) rfl ?_); refine goesL_ (some 47) rfl rfl Try.func21 (by kernel_rfl) rfl #[.agg #[.int .u64 t240, .int .i64 t241, .slice Ao12 t242.length co12], .slice A4 l4.length c4] rfl (by (try simp only [List.map_toArray, List.map_cons, List.map_nil]); first | done | rfl | (simp only [List.length_drop, List.length_take]; rfl)) ?_; (with_reducible refine (rillmeterlaw11_adds.calls kj7 t240 t241 (fun k_ => (True ∧ k_ ≠ gb246)) _ _ t242 _ _ l4 t249 t250 t251 _ ?side1 ?side2 ?side3 A19.out).mono ?_); (case side1 => exact Kd.S_V (Kd.S_types (HO_247002.out) BK246.out (by decide))); (case side2 => repeat (first | exact (Kd.C_below HR4.out HB.out) | (with_reducible refine Kd.C_alloc ?_ _) | (with_reducible refine Kd.C_drewN ?_ _) | (with_reducible refine Kd.C_drew ?_))); (case side3 => exact HC4.out); rintro e w22 ⟨v252, rfl, ho0, hb⟩; refine ⟨_, rfl, ?_⟩; have n0_ := Aside0.mk (Kd.S_below (by (with_reducible repeat (first | apply Kd.S_alloc | apply Kd.S_drewN | apply Kd.S_drew)); exact HO_247002.out) hb); have n1_ := Aside0.mk (Kd.V_lower (Kd.V_mono (ok' := fun k_ => k_ ≠ gb246) ho0 (fun k_ hk_ => Or.elim hk_ (fun hs_ => hs_.2) (fun hn_ => (Kd.freshB (g := gb246) (o := .cells #[.int .u64 t240, .int .i64 t241, .slice Ao12 t242.length co12] 25 (0, 0)) (by (with_reducible repeat (first | refine blk_drewN ?_ _ | refine blk_drew ?_ | refine blk_alloc ?_ _)); exact BK246.out) k_ hn_)))) (below_size (by repeat (first | (with_reducible first | exact HB.out | apply below_alloc | apply pw_below_drewN | apply below_drew1 | refine below_set ?_ GE246.out) | exact HB.out)))); have n2_ := Aside0.mk (blk_below (g := gb246) (o := .cells #[.int .u64 t240, .int .i64 t241, .slice Ao12 t242.length co12] 25 (0, 0)) (by (with_reducible repeat (first | refine blk_drewN ?_ _ | refine blk_drew ?_ | refine blk_alloc ?_ _)); exact BK246.out) hb); have n3_ := Aside0.mk (below_step (by repeat (first | (with_reducible first | exact HB.out | apply below_alloc | apply pw_below_drewN | apply below_drew1 | refine below_set ?_ GE246.out) | exact HB.out)) hb); clear HO_247002; clear BK246; clear HB; have HO_247002 := n0_; have HO253 := n1_; have BK246 := n2_; have HB := n3_; clear n0_ n1_ n2_ n3_; (try clear hb); (try clear hb2); (try clear hk); (try clear hi); (try clear ho0); have hcz23_0 : w22.cell? ⟨gb246, 0, none⟩ = some (.int .u64 t240) := (blk_cell BK246.out 0).trans rfl; have hcz23_1 : w22.cell? ⟨gb246, 1, none⟩ = some (.int .i64 t241) := (blk_cell BK246.out 1).trans rfl; have hcz23_2 : w22.cell? ⟨gb246, 2, none⟩ = some (.slice Ao12 t242.length co12) := (blk_cell BK246.out 2).trans rfl; have hfz23_0 := blk_frozen BK246.out 0; have hfz23_1 := blk_frozen BK246.out 1; have hfz23_2 := blk_frozen BK246.out 2; obtain ⟨Ao24, co24, eo24⟩ := Kd.V_slice HO253.out; subst eo24) | ((with_reducible refine gate_callee (f := 16) rfl ?_); refine goesL_ (some 51) rfl rfl Try.func16 (by kernel_rfl) rfl #[.agg #[.int .u64 t249, .int .i64 t250, .slice Ao24 t251.length co24], .string a5] rfl (by (try simp only [List.map_toArray, List.map_cons, List.map_nil]); first | done | rfl | (simp only [List.length_drop, List.length_take]; rfl)) ?_; (with_reducible refine (least_Get.calls kj7 t249 t250 _ _ t251 a5 t254 t255 _ ?side1 ?side2 A20.out).mono ?_); (case side1 => refine (Kd.V_reads' (e := 33) (base := w.heap.size) (ok := fun k_ => k_ ≠ gb246) (n := t251.length) (c := co24) ?_).2.2; exact (by (with_reducible repeat (first | apply Kd.V_alloc | apply Kd.V_drewN | apply Kd.V_drew)); exact (Kd.V_mono (Kd.V_far (p := ⟨gb246, 2, none⟩) (Kd.V_far (p := ⟨gb246, 1, none⟩) (Kd.V_far (p := ⟨gb246, 0, none⟩) (Kd.V_mono HO253.out (fun k_ hk => (⟨hk, hk⟩ : _ ∧ k_ ≠ gb246))) (fun _ hk => hk.2) (.int .u64 t249)) (fun _ hk => hk.2) (.int .i64 t250)) (fun _ hk => hk.2) (.slice Ao24 t251.length co24)) (fun _ h_ => h_.1)))); (case side2 => exact (Kd.V_reads' HO253.out).2.1); rintro e w25 ⟨rfl, hb⟩; refine ⟨_, rfl, ?_⟩; have n0_ := Aside0.mk (Kd.S_below (by (with_reducible repeat (first | apply Kd.S_alloc | apply Kd.S_drewN | apply Kd.S_drew)); exact (Kd.S_mono (Kd.S_far (p := ⟨gb246, 2, none⟩) (Kd.S_far (p := ⟨gb246, 1, none⟩) (Kd.S_far (p := ⟨gb246, 0, none⟩) (Kd.S_types HO_247002.out BK246.out (by decide)) (fun _ hk => hk.2) (.int .u64 t249)) (fun _ hk => hk.2) (.int .i64 t250)) (fun _ hk => hk.2) (.slice Ao24 t251.length co24)) (fun _ h_ => h_.1))) hb); have n1_ := Aside0.mk (Kd.V_below (by (with_reducible repeat (first | apply Kd.V_alloc | apply Kd.V_drewN | apply Kd.V_drew)); exact (Kd.V_mono (Kd.V_far (p := ⟨gb246, 2, none⟩) (Kd.V_far (p := ⟨gb246, 1, none⟩) (Kd.V_far (p := ⟨gb246, 0, none⟩) (Kd.V_mono HO253.out (fun k_ hk => (⟨hk, hk⟩ : _ ∧ k_ ≠ gb246))) (fun _ hk => hk.2) (.int .u64 t249)) (fun _ hk => hk.2) (.int .i64 t250)) (fun _ hk => hk.2) (.slice Ao24 t251.length co24)) (fun _ h_ => h_.1))) hb); have n2_ := Aside0.mk (blk_below (g := gb246) (o := .cells #[.int .u64 t249, .int .i64 t250, .slice Ao24 t251.length co24] 25 (0, 0)) (by (with_reducible repeat (first | refine blk_drewN ?_ _ | refine blk_drew ?_ | refine blk_alloc ?_ _)); refine blk_put (cs := #[.int .u64 t249, .int .i64 t250, .slice Ao12 t242.length co12]) ?_ 2 _ rfl; (with_reducible repeat (first | refine blk_drewN ?_ _ | refine blk_drew ?_ | refine blk_alloc ?_ _)); refine blk_put (cs := #[.int .u64 t249, .int .i64 t241, .slice Ao12 t242.length co12]) ?_ 1 _ rfl; (with_reducible repeat (first | refine blk_drewN ?_ _ | refine blk_drew ?_ | refine blk_alloc ?_ _)); refine blk_put (cs := #[.int .u64 t240, .int .i64 t241, .slice Ao12 t242.length co12]) ?_ 0 _ rfl; (with_reducible repeat (first | refine blk_drewN ?_ _ | refine blk_drew ?_ | refine blk_alloc ?_ _)); exact BK246.out) hb); have n3_ := Aside0.mk (below_step (by repeat (first | (with_reducible first | exact HB.out | apply below_alloc | apply pw_below_drewN | apply below_drew1 | refine below_set ?_ GE246.out) | exact HB.out)) hb); clear HO_247002; clear HO253; clear BK246; clear HB; have HO_247002 := n0_; have HO253 := n1_; have BK246 := n2_; have HB := n3_; clear n0_ n1_ n2_ n3_; (try clear hb); (try clear hb2); (try clear hk); (try clear hi)))
        go_loopg [17, 56] kj7 (fun kq v17 v56 w' => ∃ (x17_2 : Int) (x56_2 : Int), v17 = .int .i64 x17_2 ∧ v56 = .int .i64 x56_2 ∧ Aside0 (rillmeterlaw11_LeastBounds.l0 kq a0 a1 a2 a3 l4 a5 t254 t255 x17_2 l4 (l4.length : Int) x56_2 = some r) ∧ Aside0 (kq ≤ kj7) ∧ Aside0 (Kd.V (Kd.slice 3 (Kd.int .i64)) 33 w' w.heap.size (fun k_ => k_ ≠ gb246) (.slice Ao24 t251.length co24) t251) ∧ Aside0 (w'.heap[gb246]? = some (.cells #[.int .u64 t249, .int .i64 t250, (.slice Ao24 t251.length co24)] 25 (0, 0))) ∧ Aside0 (Below w.heap.size w w'))
        case atStart => exact ⟨(0), (0), (by first | rfl | (simp; done) | (simp [*]; done)), (by first | rfl | (simp; done) | (simp [*]; done)), H', ⟨Nat.le_refl _⟩, ⟨by (with_reducible repeat (first | apply Kd.V_alloc | apply Kd.V_drewN | apply Kd.V_drew)); exact HO253.out⟩, ⟨by (with_reducible repeat (first | refine blk_drewN ?_ _ | refine blk_drew ?_ | refine blk_alloc ?_ _)); exact BK246.out⟩, ⟨by repeat (first | (with_reducible first | exact HB.out | apply below_alloc | apply pw_below_drewN | apply below_drew1 | refine below_set ?_ GE246.out) | exact HB.out)⟩⟩
        case round =>
          clear H'
          try clear c1
          try clear c2
          try clear p2
          try clear c4
          try clear c5
          try clear c9
          try clear c12
          try clear c13
          try clear c13b0
          try clear c13b1
          try clear c15
          try clear c16
          try clear c21
          try clear hcz11_0
          try clear hcz11_1
          try clear hcz11_2
          try clear hcz21_0
          try clear hcz21_1
          try clear hcz21_2
          try clear hcz23_0
          try clear hcz23_1
          try clear hcz23_2
          try clear hfz11_0
          try clear hfz11_1
          try clear hfz11_2
          try clear hfz21_0
          try clear hfz21_1
          try clear hfz21_2
          try clear hfz23_0
          try clear hfz23_1
          try clear hfz23_2
          try clear p2
          obtain ⟨x17_2, x56_2, rfl, rfl, HA, HK2, HO_247002, BK246, HB⟩ := hrel
          cases gk with
          | zero => exact absurd HA.out (by simp [rillmeterlaw11_LeastBounds.l0])
          | succ k2 =>
            have H := HA.out
            clear HA
            simp only [rillmeterlaw11_LeastBounds.l0] at H
            by_cases c26 : x56_2 < (l4.length : Int)
            · rw [if_pos c26] at H
              have c26b0 : decide (x56_2 < (l4.length : Int)) = true := decide_eq_true c26
              clear c26
              by_cases c27 : 0 ≤ x56_2
              · rw [if_pos c27] at H
                have c27b0 : decide (0 ≤ x56_2) = true := decide_eq_true c27
                clear c27
                by_cases c28 : x56_2 < (l4.length : Int)
                · rw [if_pos c28] at H
                  have c28b0 : decide (x56_2 < (l4.length : Int)) = true := decide_eq_true c28
                  clear c28
                  by_cases c29 : ((rd_T48 l4 x56_2).f0).toList = a5.toList
                  · rw [if_pos c29] at H
                    have c29b0 : (((rd_T48 l4 x56_2).f0).toList == a5.toList) = true := beq_iff_eq.mpr c29
                    have c29b1 : (((rd_T48 l4 x56_2).f0).toList != a5.toList) = false := bne_eq_false_iff_eq.mpr c29
                    clear c29
                    have H' := Aside0.mk H
                    clear H
                    have p256 : 0 ≤ (x56_2 : Int) := of_decide_eq_true (by first | (with_reducible assumption) | assumption)
                    have q256 : x56_2 < (l4.length : Int) := of_decide_eq_true (by first | (with_reducible assumption) | assumption)
                    obtain ⟨ad256, e256, hx256_0, hx256_1⟩ := at_T48 HR4.out x56_2 p256 q256
                    cases e256
                    replace hx256_0 := (HB.out.cell (World.block_lt_of_cell? w _ hx256_0)).trans hx256_0
                    replace hx256_1 := (HB.out.cell (World.block_lt_of_cell? w _ hx256_1)).trans hx256_1
                    replace p256 := eq_true p256
                    replace q256 := eq_true q256
                    go_wp2_with (first | ((with_reducible refine gate_dst (N := 19) rfl ?_); (try (refine gate_guard (by rfl) ?_; dsimp only)); refine box_event ?hg (N := 19) ?hd (cs := #[.string (⟨#[]⟩ : ByteArray), .int .i64 0]) (t := 48) ?hr ?_; (case hd => rfl); (case hg => rfl); (case hr => first | (go_simp; done) | (go_simp; rfl)); intro gb257 hg w30 hbox hb; have n0_ := Aside0.mk (Kd.V_below (Kd.V_elderB (by (with_reducible repeat (first | apply Kd.V_alloc | apply Kd.V_drewN | apply Kd.V_drew)); exact HO_247002.out) gb257 (Nat.le_of_eq hg.symm)) hb); have n1_ := Aside0.mk (blk_below (g := gb246) (o := .cells #[.int .u64 t249, .int .i64 t250, .slice Ao24 t251.length co24] 25 (0, 0)) (by (with_reducible repeat (first | refine blk_drewN ?_ _ | refine blk_drew ?_ | refine blk_alloc ?_ _)); exact BK246.out) hb); have n2_ := Aside0.mk (below_step (by repeat (first | (with_reducible first | exact HB.out | apply below_alloc | apply pw_below_drewN | apply below_drew1 | refine below_set ?_ GE246.out) | exact HB.out)) hb); have n3_ := Aside0.mk (hbox); have n4_ := Aside0.mk ((by rw [hg]; exact (below_size (by repeat (first | (with_reducible first | exact HB.out | apply below_alloc | apply pw_below_drewN | apply below_drew1 | refine below_set ?_ GE246.out) | exact HB.out))) : w.heap.size ≤ gb257)); have n5_ := Aside0.mk ((by rw [hg]; exact (below_size (by repeat (first | (with_reducible first | exact HB.out | apply below_alloc | apply pw_below_drewN | apply below_drew1 | refine below_set ?_ GE246.out) | exact HB.out))) : w.heap.size ≤ gb257)); have n6_ := Aside0.mk ((by rw [hg]; exact Nat.ne_of_lt (blk_lt (g := gb246) (o := .cells #[.int .u64 t249, .int .i64 t250, .slice Ao24 t251.length co24] 25 (0, 0)) (by (with_reducible repeat (first | refine blk_drewN ?_ _ | refine blk_drew ?_ | refine blk_alloc ?_ _)); exact BK246.out)) : gb246 ≠ gb257)); have n7_ := Aside0.mk ((by rw [hg]; exact Nat.ne_of_gt (blk_lt (g := gb246) (o := .cells #[.int .u64 t249, .int .i64 t250, .slice Ao24 t251.length co24] 25 (0, 0)) (by (with_reducible repeat (first | refine blk_drewN ?_ _ | refine blk_drew ?_ | refine blk_alloc ?_ _)); exact BK246.out)) : gb257 ≠ gb246)); clear HO_247002; clear BK246; clear HB; have HO_247002 := n0_; have BK246 := n1_; have HB := n2_; have BK257 := n3_; have GW257 := n4_; have GE257 := n5_; have NB246_257 := n6_; have NB257_246 := n7_; clear n0_ n1_ n2_ n3_ n4_ n5_ n6_ n7_; clear hb hbox hg; have hnb31 := NB257_246.out; have hnc31 := NB246_257.out; have hcz32_0 : w30.cell? ⟨gb257, 0, none⟩ = some (.string (⟨#[]⟩ : ByteArray)) := (blk_cell BK257.out 0).trans rfl; have hcz32_1 : w30.cell? ⟨gb257, 1, none⟩ = some (.int .i64 0) := (blk_cell BK257.out 1).trans rfl; have hfz32_0 := blk_frozen BK257.out 0; have hfz32_1 := blk_frozen BK257.out 1))
                    go_roundg k2
                    case measure => have := HJ7.out; have := HK2.out; omega
                    case rel => exact ⟨(wrap64 (x17_2 + ((rd_T48 l4 x56_2).f1))), (wrap64 (x56_2 + 1)), (by first | rfl | (simp; done) | (simp [*]; done)), (by first | rfl | (simp; done) | (simp [*]; done)), H', ⟨by have := HJ7.out; have := HK2.out; omega⟩, ⟨by (with_reducible repeat (first | apply Kd.V_alloc | apply Kd.V_drewN | apply Kd.V_drew)); exact Kd.V_mono (Kd.V_far (p := ⟨gb257, 1, none⟩) (Kd.V_far (p := ⟨gb257, 0, none⟩) (Kd.V_mono HO_247002.out (fun k_ hk => (⟨hk, hk.2⟩ : _ ∧ k_ ≠ gb257))) (fun _ hk => hk.2) (.string ((rd_T48 l4 x56_2).f0))) (fun _ hk => hk.2) (.int .i64 ((rd_T48 l4 x56_2).f1))) (fun _ hk => hk.1.1)⟩, ⟨by (with_reducible repeat (first | refine blk_drewN ?_ _ | refine blk_drew ?_ | refine blk_alloc ?_ _)); refine blk_far ?_ NB246_257.out _; (with_reducible repeat (first | refine blk_drewN ?_ _ | refine blk_drew ?_ | refine blk_alloc ?_ _)); refine blk_far ?_ NB246_257.out _; (with_reducible repeat (first | refine blk_drewN ?_ _ | refine blk_drew ?_ | refine blk_alloc ?_ _)); exact BK246.out⟩, ⟨by repeat (first | (with_reducible first | exact HB.out | apply below_alloc | apply pw_below_drewN | apply below_drew1 | refine below_set ?_ GE246.out | refine below_set ?_ GE257.out) | exact HB.out)⟩⟩
                  · rw [if_neg c29] at H
                    have c29b0 : (((rd_T48 l4 x56_2).f0).toList == a5.toList) = false := beq_eq_false_iff_ne.mpr c29
                    have c29b1 : (((rd_T48 l4 x56_2).f0).toList != a5.toList) = true := bne_iff_ne.mpr c29
                    have H' := Aside0.mk H
                    clear H
                    have p256 : 0 ≤ (x56_2 : Int) := of_decide_eq_true (by first | (with_reducible assumption) | assumption)
                    have q256 : x56_2 < (l4.length : Int) := of_decide_eq_true (by first | (with_reducible assumption) | assumption)
                    obtain ⟨ad256, e256, hx256_0, hx256_1⟩ := at_T48 HR4.out x56_2 p256 q256
                    cases e256
                    replace hx256_0 := (HB.out.cell (World.block_lt_of_cell? w _ hx256_0)).trans hx256_0
                    replace hx256_1 := (HB.out.cell (World.block_lt_of_cell? w _ hx256_1)).trans hx256_1
                    replace p256 := eq_true p256
                    replace q256 := eq_true q256
                    go_wp2_with (first | ((with_reducible refine gate_dst (N := 19) rfl ?_); (try (refine gate_guard (by rfl) ?_; dsimp only)); refine box_event ?hg (N := 19) ?hd (cs := #[.string (⟨#[]⟩ : ByteArray), .int .i64 0]) (t := 48) ?hr ?_; (case hd => rfl); (case hg => rfl); (case hr => first | (go_simp; done) | (go_simp; rfl)); intro gb257 hg w33 hbox hb; have n0_ := Aside0.mk (Kd.V_below (Kd.V_elderB (by (with_reducible repeat (first | apply Kd.V_alloc | apply Kd.V_drewN | apply Kd.V_drew)); exact HO_247002.out) gb257 (Nat.le_of_eq hg.symm)) hb); have n1_ := Aside0.mk (blk_below (g := gb246) (o := .cells #[.int .u64 t249, .int .i64 t250, .slice Ao24 t251.length co24] 25 (0, 0)) (by (with_reducible repeat (first | refine blk_drewN ?_ _ | refine blk_drew ?_ | refine blk_alloc ?_ _)); exact BK246.out) hb); have n2_ := Aside0.mk (below_step (by repeat (first | (with_reducible first | exact HB.out | apply below_alloc | apply pw_below_drewN | apply below_drew1 | refine below_set ?_ GE246.out) | exact HB.out)) hb); have n3_ := Aside0.mk (hbox); have n4_ := Aside0.mk ((by rw [hg]; exact (below_size (by repeat (first | (with_reducible first | exact HB.out | apply below_alloc | apply pw_below_drewN | apply below_drew1 | refine below_set ?_ GE246.out) | exact HB.out))) : w.heap.size ≤ gb257)); have n5_ := Aside0.mk ((by rw [hg]; exact (below_size (by repeat (first | (with_reducible first | exact HB.out | apply below_alloc | apply pw_below_drewN | apply below_drew1 | refine below_set ?_ GE246.out) | exact HB.out))) : w.heap.size ≤ gb257)); have n6_ := Aside0.mk ((by rw [hg]; exact Nat.ne_of_lt (blk_lt (g := gb246) (o := .cells #[.int .u64 t249, .int .i64 t250, .slice Ao24 t251.length co24] 25 (0, 0)) (by (with_reducible repeat (first | refine blk_drewN ?_ _ | refine blk_drew ?_ | refine blk_alloc ?_ _)); exact BK246.out)) : gb246 ≠ gb257)); have n7_ := Aside0.mk ((by rw [hg]; exact Nat.ne_of_gt (blk_lt (g := gb246) (o := .cells #[.int .u64 t249, .int .i64 t250, .slice Ao24 t251.length co24] 25 (0, 0)) (by (with_reducible repeat (first | refine blk_drewN ?_ _ | refine blk_drew ?_ | refine blk_alloc ?_ _)); exact BK246.out)) : gb257 ≠ gb246)); clear HO_247002; clear BK246; clear HB; have HO_247002 := n0_; have BK246 := n1_; have HB := n2_; have BK257 := n3_; have GW257 := n4_; have GE257 := n5_; have NB246_257 := n6_; have NB257_246 := n7_; clear n0_ n1_ n2_ n3_ n4_ n5_ n6_ n7_; clear hb hbox hg; have hnb34 := NB257_246.out; have hnc34 := NB246_257.out; have hcz35_0 : w33.cell? ⟨gb257, 0, none⟩ = some (.string (⟨#[]⟩ : ByteArray)) := (blk_cell BK257.out 0).trans rfl; have hcz35_1 : w33.cell? ⟨gb257, 1, none⟩ = some (.int .i64 0) := (blk_cell BK257.out 1).trans rfl; have hfz35_0 := blk_frozen BK257.out 0; have hfz35_1 := blk_frozen BK257.out 1))
                    go_roundg k2
                    case measure => have := HJ7.out; have := HK2.out; omega
                    case rel => exact ⟨(x17_2), (wrap64 (x56_2 + 1)), (by first | rfl | (simp; done) | (simp [*]; done)), (by first | rfl | (simp; done) | (simp [*]; done)), H', ⟨by have := HJ7.out; have := HK2.out; omega⟩, ⟨by (with_reducible repeat (first | apply Kd.V_alloc | apply Kd.V_drewN | apply Kd.V_drew)); exact Kd.V_mono (Kd.V_far (p := ⟨gb257, 1, none⟩) (Kd.V_far (p := ⟨gb257, 0, none⟩) (Kd.V_mono HO_247002.out (fun k_ hk => (⟨hk, hk.2⟩ : _ ∧ k_ ≠ gb257))) (fun _ hk => hk.2) (.string ((rd_T48 l4 x56_2).f0))) (fun _ hk => hk.2) (.int .i64 ((rd_T48 l4 x56_2).f1))) (fun _ hk => hk.1.1)⟩, ⟨by (with_reducible repeat (first | refine blk_drewN ?_ _ | refine blk_drew ?_ | refine blk_alloc ?_ _)); refine blk_far ?_ NB246_257.out _; (with_reducible repeat (first | refine blk_drewN ?_ _ | refine blk_drew ?_ | refine blk_alloc ?_ _)); refine blk_far ?_ NB246_257.out _; (with_reducible repeat (first | refine blk_drewN ?_ _ | refine blk_drew ?_ | refine blk_alloc ?_ _)); exact BK246.out⟩, ⟨by repeat (first | (with_reducible first | exact HB.out | apply below_alloc | apply pw_below_drewN | apply below_drew1 | refine below_set ?_ GE246.out | refine below_set ?_ GE257.out) | exact HB.out)⟩⟩
                · rw [if_neg c28] at H
                  exact absurd H (by simp)
              · rw [if_neg c27] at H
                exact absurd H (by simp)
            · rw [if_neg c26] at H
              have c26b0 : decide (x56_2 < (l4.length : Int)) = false := decide_eq_false c26
              clear c26
              have HC36 := Aside0.mk H
              clear H
              go_upto_region 13 with (fail)
              go_cut [88] (fun v88 wc => ∃ (kq : Nat) (x88_35 : Bool), v88 = .bool x88_35 ∧ Aside0 (rillmeterlaw11_LeastBounds.j2 kq a0 a1 a2 l4 a5 t254 x88_35 = some r) ∧ Aside0 (kq ≤ k2) ∧ Aside0 (Kd.V (Kd.slice 3 (Kd.int .i64)) 33 wc w.heap.size (fun k_ => k_ ≠ gb246) (.slice Ao24 t251.length co24) t251) ∧ Aside0 (wc.heap[gb246]? = some (.cells #[.int .u64 t249, .int .i64 t250, (.slice Ao24 t251.length co24)] 25 (0, 0))) ∧ Aside0 (Below w.heap.size w wc))
              case first =>
                have H := HC36.out
                clear HC36
                by_cases c37 : t255 = true
                · subst c37
                  have H1 : (if t254 < x17_2 then (rillmeterlaw11_LeastBounds.j2 k2 a0 a1 a2 l4 a5 t254 true) else (if t254 > a3 then (rillmeterlaw11_LeastBounds.j2 k2 a0 a1 a2 l4 a5 t254 true) else (rillmeterlaw11_LeastBounds.j2 k2 a0 a1 a2 l4 a5 t254 false))) = some r := by rw [if_pos rfl] at H; exact H
                  clear H
                  have H := H1
                  clear H1
                  by_cases c38 : t254 < x17_2
                  · rw [if_pos c38] at H
                    have c38b0 : decide (t254 < x17_2) = true := decide_eq_true c38
                    clear c38
                    (first | rw [c38b0] | (simp only [i64_w, i32_w]; rw [c38b0]) | skip)
                    have H' := Aside0.mk H
                    clear H
                    go_wp2
                    go_meet
                    case rel => exact ⟨_, (true), (by first | rfl | (simp; done) | (simp [*]; done)), H', ⟨by have := HJ7.out; have := HK2.out; first | omega | exact Nat.le_refl _⟩, ⟨by (with_reducible repeat (first | apply Kd.V_alloc | apply Kd.V_drewN | apply Kd.V_drew)); exact HO_247002.out⟩, ⟨by (with_reducible repeat (first | refine blk_drewN ?_ _ | refine blk_drew ?_ | refine blk_alloc ?_ _)); exact BK246.out⟩, ⟨by repeat (first | (with_reducible first | exact HB.out | apply below_alloc | apply pw_below_drewN | apply below_drew1 | refine below_set ?_ GE246.out) | exact HB.out)⟩⟩
                  · rw [if_neg c38] at H
                    have c38b0 : decide (t254 < x17_2) = false := decide_eq_false c38
                    clear c38
                    (first | rw [c38b0] | (simp only [i64_w, i32_w]; rw [c38b0]) | skip)
                    by_cases c39 : t254 > a3
                    · rw [if_pos c39] at H
                      have c39b0 : decide (a3 < t254) = true := decide_eq_true c39
                      clear c39
                      have H' := Aside0.mk H
                      clear H
                      go_wp2
                      go_meet
                      case rel => exact ⟨_, (true), (by first | rfl | (simp; done) | (simp [*]; done)), H', ⟨by have := HJ7.out; have := HK2.out; first | omega | exact Nat.le_refl _⟩, ⟨by (with_reducible repeat (first | apply Kd.V_alloc | apply Kd.V_drewN | apply Kd.V_drew)); exact HO_247002.out⟩, ⟨by (with_reducible repeat (first | refine blk_drewN ?_ _ | refine blk_drew ?_ | refine blk_alloc ?_ _)); exact BK246.out⟩, ⟨by repeat (first | (with_reducible first | exact HB.out | apply below_alloc | apply pw_below_drewN | apply below_drew1 | refine below_set ?_ GE246.out) | exact HB.out)⟩⟩
                    · rw [if_neg c39] at H
                      have c39b0 : decide (a3 < t254) = false := decide_eq_false c39
                      clear c39
                      have H' := Aside0.mk H
                      clear H
                      go_wp2
                      go_meet
                      case rel => exact ⟨_, (false), (by first | rfl | (simp; done) | (simp [*]; done)), H', ⟨by have := HJ7.out; have := HK2.out; first | omega | exact Nat.le_refl _⟩, ⟨by (with_reducible repeat (first | apply Kd.V_alloc | apply Kd.V_drewN | apply Kd.V_drew)); exact HO_247002.out⟩, ⟨by (with_reducible repeat (first | refine blk_drewN ?_ _ | refine blk_drew ?_ | refine blk_alloc ?_ _)); exact BK246.out⟩, ⟨by repeat (first | (with_reducible first | exact HB.out | apply below_alloc | apply pw_below_drewN | apply below_drew1 | refine below_set ?_ GE246.out) | exact HB.out)⟩⟩
                · replace c37 := Bool.eq_false_iff.mpr c37
                  subst c37
                  have H1 : (if t254 > a3 then (rillmeterlaw11_LeastBounds.j2 k2 a0 a1 a2 l4 a5 t254 true) else (rillmeterlaw11_LeastBounds.j2 k2 a0 a1 a2 l4 a5 t254 (t254 != a3))) = some r := by rw [if_neg (show ¬ (false = true) by decide)] at H; exact H
                  clear H
                  have H := H1
                  clear H1
                  by_cases c40 : t254 > a3
                  · rw [if_pos c40] at H
                    have c40b0 : decide (a3 < t254) = true := decide_eq_true c40
                    clear c40
                    have H' := Aside0.mk H
                    clear H
                    go_wp2
                    go_meet
                    case rel => exact ⟨_, (true), (by first | rfl | (simp; done) | (simp [*]; done)), H', ⟨by have := HJ7.out; have := HK2.out; first | omega | exact Nat.le_refl _⟩, ⟨by (with_reducible repeat (first | apply Kd.V_alloc | apply Kd.V_drewN | apply Kd.V_drew)); exact HO_247002.out⟩, ⟨by (with_reducible repeat (first | refine blk_drewN ?_ _ | refine blk_drew ?_ | refine blk_alloc ?_ _)); exact BK246.out⟩, ⟨by repeat (first | (with_reducible first | exact HB.out | apply below_alloc | apply pw_below_drewN | apply below_drew1 | refine below_set ?_ GE246.out) | exact HB.out)⟩⟩
                  · rw [if_neg c40] at H
                    have c40b0 : decide (a3 < t254) = false := decide_eq_false c40
                    clear c40
                    have H' := Aside0.mk H
                    clear H
                    go_wp2
                    go_meet
                    case rel => exact ⟨_, ((t254 != a3)), (by first | rfl | (simp; done) | (simp [*]; done)), H', ⟨by have := HJ7.out; have := HK2.out; first | omega | exact Nat.le_refl _⟩, ⟨by (with_reducible repeat (first | apply Kd.V_alloc | apply Kd.V_drewN | apply Kd.V_drew)); exact HO_247002.out⟩, ⟨by (with_reducible repeat (first | refine blk_drewN ?_ _ | refine blk_drew ?_ | refine blk_alloc ?_ _)); exact BK246.out⟩, ⟨by repeat (first | (with_reducible first | exact HB.out | apply below_alloc | apply pw_below_drewN | apply below_drew1 | refine below_set ?_ GE246.out) | exact HB.out)⟩⟩
              case rest =>
                clear HC36
                try clear c1
                try clear c2
                try clear p2
                try clear q2
                try clear hx2
                try clear c3
                try clear c4
                try clear c5
                try clear p6
                try clear c9
                try clear c12
                try clear c13
                try clear c13b0
                try clear c13b1
                try clear c15
                try clear c16
                try clear c21
                try clear p25
                try clear q25
                try clear hx25
                try clear c26
                try clear c26b0
                try clear c27
                try clear c27b0
                try clear c28
                try clear c28b0
                try clear c29
                try clear c29b0
                try clear c29b1
                try clear c31
                try clear c34
                try clear c37
                try clear c38
                try clear c38b0
                try clear c39
                try clear c39b0
                try clear c40
                try clear c40b0
                try clear hcz11_0
                try clear hcz11_1
                try clear hcz11_2
                try clear hcz21_0
                try clear hcz21_1
                try clear hcz21_2
                try clear hcz23_0
                try clear hcz23_1
                try clear hcz23_2
                try clear hcz32_0
                try clear hcz32_1
                try clear hcz35_0
                try clear hcz35_1
                try clear hfz11_0
                try clear hfz11_1
                try clear hfz11_2
                try clear hfz21_0
                try clear hfz21_1
                try clear hfz21_2
                try clear hfz23_0
                try clear hfz23_1
                try clear hfz23_2
                try clear hfz32_0
                try clear hfz32_1
                try clear hfz35_0
                try clear hfz35_1
                try clear hx256_0
                try clear hx256_1
                try clear p2
                try clear p256
                try clear q256
                obtain ⟨kq, x88_35, rfl, HA, HJ35, HO_247002, BK246, HB⟩ := hcut
                cases kq with
                | zero => exact absurd HA.out (by simp [rillmeterlaw11_LeastBounds.j2])
                | succ kj35 =>
                  have H := HA.out
                  clear HA
                  simp only [rillmeterlaw11_LeastBounds.j2] at H
                  by_cases c41 : x88_35 = true
                  · subst c41
                    have H1 : (some false) = some r := by rw [if_pos rfl] at H; exact H
                    clear H
                    have H := H1
                    clear H1
                    exact absurd ((Option.some.inj H).trans hrt.out) (by decide)
                  · replace c41 := Bool.eq_false_iff.mpr c41
                    subst c41
                    have H1 : (rillmeterlaw11_LeastBounds.l1 kj35 a0 a1 a2 l4 a5 t254 0) = some r := by rw [if_neg (show ¬ (false = true) by decide)] at H; exact H
                    clear H
                    have H := H1
                    clear H1
                    have H' := Aside0.mk H
                    clear H
                    go_wp2
                    go_loopg [20] kj35 (fun kq v20 w' => ∃ (x20_4 : Int), v20 = .int .i64 x20_4 ∧ Aside0 (rillmeterlaw11_LeastBounds.l1 kq a0 a1 a2 l4 a5 t254 x20_4 = some r) ∧ Aside0 (kq ≤ kj35) ∧ Aside0 (Kd.V (Kd.slice 3 (Kd.int .i64)) 33 w' w.heap.size (fun k_ => k_ ≠ gb246) (.slice Ao24 t251.length co24) t251) ∧ Aside0 (w'.heap[gb246]? = some (.cells #[.int .u64 t249, .int .i64 t250, (.slice Ao24 t251.length co24)] 25 (0, 0))) ∧ Aside0 (Below w.heap.size w w'))
                    case atStart => exact ⟨(0), (by first | rfl | (simp; done) | (simp [*]; done)), H', ⟨Nat.le_refl _⟩, ⟨by (with_reducible repeat (first | apply Kd.V_alloc | apply Kd.V_drewN | apply Kd.V_drew)); exact HO_247002.out⟩, ⟨by (with_reducible repeat (first | refine blk_drewN ?_ _ | refine blk_drew ?_ | refine blk_alloc ?_ _)); exact BK246.out⟩, ⟨by repeat (first | (with_reducible first | exact HB.out | apply below_alloc | apply pw_below_drewN | apply below_drew1 | refine below_set ?_ GE246.out) | exact HB.out)⟩⟩
                    case round =>
                      clear H'
                      try clear c1
                      try clear c2
                      try clear p2
                      try clear q2
                      try clear hx2
                      try clear c3
                      try clear c4
                      try clear c5
                      try clear p6
                      try clear c9
                      try clear c12
                      try clear c13
                      try clear c13b0
                      try clear c13b1
                      try clear c15
                      try clear c16
                      try clear c21
                      try clear p25
                      try clear q25
                      try clear hx25
                      try clear c26
                      try clear c26b0
                      try clear c27
                      try clear c27b0
                      try clear c28
                      try clear c28b0
                      try clear c29
                      try clear c29b0
                      try clear c29b1
                      try clear c31
                      try clear c34
                      try clear c37
                      try clear c38
                      try clear c38b0
                      try clear c39
                      try clear c39b0
                      try clear c40
                      try clear c40b0
                      try clear c41
                      try clear hcz11_0
                      try clear hcz11_1
                      try clear hcz11_2
                      try clear hcz21_0
                      try clear hcz21_1
                      try clear hcz21_2
                      try clear hcz23_0
                      try clear hcz23_1
                      try clear hcz23_2
                      try clear hcz32_0
                      try clear hcz32_1
                      try clear hcz35_0
                      try clear hcz35_1
                      try clear hfz11_0
                      try clear hfz11_1
                      try clear hfz11_2
                      try clear hfz21_0
                      try clear hfz21_1
                      try clear hfz21_2
                      try clear hfz23_0
                      try clear hfz23_1
                      try clear hfz23_2
                      try clear hfz32_0
                      try clear hfz32_1
                      try clear hfz35_0
                      try clear hfz35_1
                      try clear hx256_0
                      try clear hx256_1
                      try clear p2
                      try clear p25
                      try clear p256
                      try clear p6
                      try clear q2
                      try clear q25
                      try clear q256
                      obtain ⟨x20_4, rfl, HA, HK4, HO_247002, BK246, HB⟩ := hrel
                      cases gk with
                      | zero => exact absurd HA.out (by simp [rillmeterlaw11_LeastBounds.l1])
                      | succ k4 =>
                        have H := HA.out
                        clear HA
                        simp only [rillmeterlaw11_LeastBounds.l1] at H
                        by_cases c42 : x20_4 < a1
                        · rw [if_pos c42] at H
                          have c42b0 : decide (x20_4 < a1) = true := decide_eq_true c42
                          clear c42
                          have H' := Aside0.mk H
                          clear H
                          go_wp2
                          go_loopg [21, 96] k4 (fun kq v21 v96 w' => ∃ (x21_5 : Int) (x96_5 : Int), v21 = .int .i64 x21_5 ∧ v96 = .int .i64 x96_5 ∧ Aside0 (rillmeterlaw11_LeastBounds.l2 kq a0 a1 a2 l4 a5 t254 x20_4 x21_5 l4 (l4.length : Int) x96_5 = some r) ∧ Aside0 (kq ≤ k4) ∧ Aside0 (Kd.V (Kd.slice 3 (Kd.int .i64)) 33 w' w.heap.size (fun k_ => k_ ≠ gb246) (.slice Ao24 t251.length co24) t251) ∧ Aside0 (w'.heap[gb246]? = some (.cells #[.int .u64 t249, .int .i64 t250, (.slice Ao24 t251.length co24)] 25 (0, 0))) ∧ Aside0 (Below w.heap.size w w'))
                          case atStart => exact ⟨(0), (0), (by first | rfl | (simp; done) | (simp [*]; done)), (by first | rfl | (simp; done) | (simp [*]; done)), H', ⟨Nat.le_refl _⟩, ⟨by (with_reducible repeat (first | apply Kd.V_alloc | apply Kd.V_drewN | apply Kd.V_drew)); exact HO_247002.out⟩, ⟨by (with_reducible repeat (first | refine blk_drewN ?_ _ | refine blk_drew ?_ | refine blk_alloc ?_ _)); exact BK246.out⟩, ⟨by repeat (first | (with_reducible first | exact HB.out | apply below_alloc | apply pw_below_drewN | apply below_drew1 | refine below_set ?_ GE246.out) | exact HB.out)⟩⟩
                          case round =>
                            clear H'
                            try clear c1
                            try clear c2
                            try clear p2
                            try clear q2
                            try clear hx2
                            try clear c3
                            try clear c4
                            try clear c5
                            try clear p6
                            try clear c9
                            try clear c12
                            try clear c13
                            try clear c13b0
                            try clear c13b1
                            try clear c15
                            try clear c16
                            try clear c21
                            try clear p25
                            try clear q25
                            try clear hx25
                            try clear c26
                            try clear c26b0
                            try clear c27
                            try clear c27b0
                            try clear c28
                            try clear c28b0
                            try clear c29
                            try clear c29b0
                            try clear c29b1
                            try clear c31
                            try clear c34
                            try clear c37
                            try clear c38
                            try clear c38b0
                            try clear c39
                            try clear c39b0
                            try clear c40
                            try clear c40b0
                            try clear c41
                            try clear c42
                            try clear c42b0
                            try clear hcz11_0
                            try clear hcz11_1
                            try clear hcz11_2
                            try clear hcz21_0
                            try clear hcz21_1
                            try clear hcz21_2
                            try clear hcz23_0
                            try clear hcz23_1
                            try clear hcz23_2
                            try clear hcz32_0
                            try clear hcz32_1
                            try clear hcz35_0
                            try clear hcz35_1
                            try clear hfz11_0
                            try clear hfz11_1
                            try clear hfz11_2
                            try clear hfz21_0
                            try clear hfz21_1
                            try clear hfz21_2
                            try clear hfz23_0
                            try clear hfz23_1
                            try clear hfz23_2
                            try clear hfz32_0
                            try clear hfz32_1
                            try clear hfz35_0
                            try clear hfz35_1
                            try clear hx256_0
                            try clear hx256_1
                            try clear p2
                            try clear p25
                            try clear p256
                            try clear p6
                            try clear q2
                            try clear q25
                            try clear q256
                            obtain ⟨x21_5, x96_5, rfl, rfl, HA, HK5, HO_247002, BK246, HB⟩ := hrel
                            cases gk with
                            | zero => exact absurd HA.out (by simp [rillmeterlaw11_LeastBounds.l2])
                            | succ k5 =>
                              have H := HA.out
                              clear HA
                              simp only [rillmeterlaw11_LeastBounds.l2] at H
                              by_cases c43 : x96_5 < (l4.length : Int)
                              · rw [if_pos c43] at H
                                have c43b0 : decide (x96_5 < (l4.length : Int)) = true := decide_eq_true c43
                                clear c43
                                by_cases c44 : 0 ≤ x96_5
                                · rw [if_pos c44] at H
                                  have c44b0 : decide (0 ≤ x96_5) = true := decide_eq_true c44
                                  clear c44
                                  by_cases c45 : x96_5 < (l4.length : Int)
                                  · rw [if_pos c45] at H
                                    have c45b0 : decide (x96_5 < (l4.length : Int)) = true := decide_eq_true c45
                                    clear c45
                                    replace H := Option.bind_eq_some_iff.mp H
                                    obtain ⟨t261, A460, H⟩ := H
                                    replace H : ((rillmeterref11_Cell.f k5 a0 a5 x20_4 a2).bind fun t262 => (if t261 = t262 then (rillmeterlaw11_LeastBounds.l2 k5 a0 a1 a2 l4 a5 t254 x20_4 (wrap64 (x21_5 + ((rd_T48 l4 x96_5).f1))) l4 (l4.length : Int) (wrap64 (x96_5 + 1))) else (rillmeterlaw11_LeastBounds.l2 k5 a0 a1 a2 l4 a5 t254 x20_4 x21_5 l4 (l4.length : Int) (wrap64 (x96_5 + 1))))) = some r := H
                                    have A46 := Aside0.mk A460
                                    clear A460
                                    replace H := Option.bind_eq_some_iff.mp H
                                    obtain ⟨t262, A470, H⟩ := H
                                    replace H : (if t261 = t262 then (rillmeterlaw11_LeastBounds.l2 k5 a0 a1 a2 l4 a5 t254 x20_4 (wrap64 (x21_5 + ((rd_T48 l4 x96_5).f1))) l4 (l4.length : Int) (wrap64 (x96_5 + 1))) else (rillmeterlaw11_LeastBounds.l2 k5 a0 a1 a2 l4 a5 t254 x20_4 x21_5 l4 (l4.length : Int) (wrap64 (x96_5 + 1)))) = some r := H
                                    have A47 := Aside0.mk A470
                                    clear A470
                                    by_cases c48 : t261 = t262
                                    · rw [if_pos c48] at H
                                      have c48b0 : (t261 == t262) = true := beq_iff_eq.mpr c48
                                      have c48b1 : (t261 != t262) = false := bne_eq_false_iff_eq.mpr c48
                                      clear c48
                                      have H' := Aside0.mk H
                                      clear H
                                      have p259 : 0 ≤ (x96_5 : Int) := of_decide_eq_true (by first | (with_reducible assumption) | assumption)
                                      have q259 : x96_5 < (l4.length : Int) := of_decide_eq_true (by first | (with_reducible assumption) | assumption)
                                      obtain ⟨ad259, e259, hx259_0, hx259_1⟩ := at_T48 HR4.out x96_5 p259 q259
                                      cases e259
                                      replace hx259_0 := (HB.out.cell (World.block_lt_of_cell? w _ hx259_0)).trans hx259_0
                                      replace hx259_1 := (HB.out.cell (World.block_lt_of_cell? w _ hx259_1)).trans hx259_1
                                      replace p259 := eq_true p259
                                      replace q259 := eq_true q259
                                      go_wp2_with (first | ((with_reducible refine gate_dst (N := 23) rfl ?_); (try (refine gate_guard (by rfl) ?_; dsimp only)); refine box_event ?hg (N := 23) ?hd (cs := #[.string (⟨#[]⟩ : ByteArray), .int .i64 0]) (t := 48) ?hr ?_; (case hd => rfl); (case hg => rfl); (case hr => first | (go_simp; done) | (go_simp; rfl)); intro gb260 hg w49 hbox hb; have n0_ := Aside0.mk (Kd.V_below (Kd.V_elderB (by (with_reducible repeat (first | apply Kd.V_alloc | apply Kd.V_drewN | apply Kd.V_drew)); exact HO_247002.out) gb260 (Nat.le_of_eq hg.symm)) hb); have n1_ := Aside0.mk (blk_below (g := gb246) (o := .cells #[.int .u64 t249, .int .i64 t250, .slice Ao24 t251.length co24] 25 (0, 0)) (by (with_reducible repeat (first | refine blk_drewN ?_ _ | refine blk_drew ?_ | refine blk_alloc ?_ _)); exact BK246.out) hb); have n2_ := Aside0.mk (below_step (by repeat (first | (with_reducible first | exact HB.out | apply below_alloc | apply pw_below_drewN | apply below_drew1 | refine below_set ?_ GE246.out) | exact HB.out)) hb); have n3_ := Aside0.mk (hbox); have n4_ := Aside0.mk ((by rw [hg]; exact (below_size (by repeat (first | (with_reducible first | exact HB.out | apply below_alloc | apply pw_below_drewN | apply below_drew1 | refine below_set ?_ GE246.out) | exact HB.out))) : w.heap.size ≤ gb260)); have n5_ := Aside0.mk ((by rw [hg]; exact (below_size (by repeat (first | (with_reducible first | exact HB.out | apply below_alloc | apply pw_below_drewN | apply below_drew1 | refine below_set ?_ GE246.out) | exact HB.out))) : w.heap.size ≤ gb260)); have n6_ := Aside0.mk ((by rw [hg]; exact Nat.ne_of_lt (blk_lt (g := gb246) (o := .cells #[.int .u64 t249, .int .i64 t250, .slice Ao24 t251.length co24] 25 (0, 0)) (by (with_reducible repeat (first | refine blk_drewN ?_ _ | refine blk_drew ?_ | refine blk_alloc ?_ _)); exact BK246.out)) : gb246 ≠ gb260)); have n7_ := Aside0.mk ((by rw [hg]; exact Nat.ne_of_gt (blk_lt (g := gb246) (o := .cells #[.int .u64 t249, .int .i64 t250, .slice Ao24 t251.length co24] 25 (0, 0)) (by (with_reducible repeat (first | refine blk_drewN ?_ _ | refine blk_drew ?_ | refine blk_alloc ?_ _)); exact BK246.out)) : gb260 ≠ gb246)); clear HO_247002; clear BK246; clear HB; have HO_247002 := n0_; have BK246 := n1_; have HB := n2_; have BK260 := n3_; have GW260 := n4_; have GE260 := n5_; have NB246_260 := n6_; have NB260_246 := n7_; clear n0_ n1_ n2_ n3_ n4_ n5_ n6_ n7_; clear hb hbox hg; have hnb50 := NB260_246.out; have hnc50 := NB246_260.out; have hcz51_0 : w49.cell? ⟨gb260, 0, none⟩ = some (.string (⟨#[]⟩ : ByteArray)) := (blk_cell BK260.out 0).trans rfl; have hcz51_1 : w49.cell? ⟨gb260, 1, none⟩ = some (.int .i64 0) := (blk_cell BK260.out 1).trans rfl; have hfz51_0 := blk_frozen BK260.out 0; have hfz51_1 := blk_frozen BK260.out 1) | ((with_reducible refine gate_callee (f := 22) rfl ?_); refine goesL_ (some 105) rfl rfl Try.func22 (by kernel_rfl) rfl #[.int .u64 a0, .string ((rd_T48 l4 x96_5).f0), .int .i64 x20_4, .int .i64 a2] rfl (by (try simp only [List.map_toArray, List.map_cons, List.map_nil]); first | done | rfl | (simp only [List.length_drop, List.length_take]; rfl)) ?_; (with_reducible refine (rillmeterref11_Cell.calls k5 a0 ((rd_T48 l4 x96_5).f0) x20_4 a2 t261 _ A46.out).mono ?_); rintro e w52 ⟨rfl, hb⟩; refine ⟨_, rfl, ?_⟩; have n0_ := Aside0.mk (Kd.V_below (by (with_reducible repeat (first | apply Kd.V_alloc | apply Kd.V_drewN | apply Kd.V_drew)); exact (Kd.V_mono (Kd.V_far (p := ⟨gb260, 1, none⟩) (Kd.V_far (p := ⟨gb260, 0, none⟩) (Kd.V_mono HO_247002.out (fun k_ hk => (⟨hk, hk.2⟩ : _ ∧ k_ ≠ gb260))) (fun _ hk => hk.2) (.string ((rd_T48 l4 x96_5).f0))) (fun _ hk => hk.2) (.int .i64 ((rd_T48 l4 x96_5).f1))) (fun _ h_ => h_.1))) hb); have n1_ := Aside0.mk (blk_below (g := gb246) (o := .cells #[.int .u64 t249, .int .i64 t250, .slice Ao24 t251.length co24] 25 (0, 0)) (by (with_reducible repeat (first | refine blk_drewN ?_ _ | refine blk_drew ?_ | refine blk_alloc ?_ _)); refine blk_far ?_ NB246_260.out _; (with_reducible repeat (first | refine blk_drewN ?_ _ | refine blk_drew ?_ | refine blk_alloc ?_ _)); refine blk_far ?_ NB246_260.out _; (with_reducible repeat (first | refine blk_drewN ?_ _ | refine blk_drew ?_ | refine blk_alloc ?_ _)); exact BK246.out) hb); have n2_ := Aside0.mk (blk_below (g := gb260) (o := .cells #[.string ((rd_T48 l4 x96_5).f0), .int .i64 ((rd_T48 l4 x96_5).f1)] 48 (0, 0)) (by (with_reducible repeat (first | refine blk_drewN ?_ _ | refine blk_drew ?_ | refine blk_alloc ?_ _)); refine blk_put (cs := #[.string ((rd_T48 l4 x96_5).f0), .int .i64 0]) ?_ 1 _ rfl; (with_reducible repeat (first | refine blk_drewN ?_ _ | refine blk_drew ?_ | refine blk_alloc ?_ _)); refine blk_put (cs := #[.string (⟨#[]⟩ : ByteArray), .int .i64 0]) ?_ 0 _ rfl; (with_reducible repeat (first | refine blk_drewN ?_ _ | refine blk_drew ?_ | refine blk_alloc ?_ _)); exact BK260.out) hb); have n3_ := Aside0.mk (below_step (by repeat (first | (with_reducible first | exact HB.out | apply below_alloc | apply pw_below_drewN | apply below_drew1 | refine below_set ?_ GE246.out | refine below_set ?_ GE260.out) | exact HB.out)) hb); clear HO_247002; clear BK246; clear BK260; clear HB; have HO_247002 := n0_; have BK246 := n1_; have BK260 := n2_; have HB := n3_; clear n0_ n1_ n2_ n3_; (try clear hb); (try clear hb2); (try clear hk); (try clear hi)) | ((with_reducible refine gate_callee (f := 22) rfl ?_); refine goesL_ (some 110) rfl rfl Try.func22 (by kernel_rfl) rfl #[.int .u64 a0, .string a5, .int .i64 x20_4, .int .i64 a2] rfl (by (try simp only [List.map_toArray, List.map_cons, List.map_nil]); first | done | rfl | (simp only [List.length_drop, List.length_take]; rfl)) ?_; (with_reducible refine (rillmeterref11_Cell.calls k5 a0 a5 x20_4 a2 t262 _ A47.out).mono ?_); rintro e w53 ⟨rfl, hb⟩; refine ⟨_, rfl, ?_⟩; have n0_ := Aside0.mk (Kd.V_below (by (with_reducible repeat (first | apply Kd.V_alloc | apply Kd.V_drewN | apply Kd.V_drew)); exact HO_247002.out) hb); have n1_ := Aside0.mk (blk_below (g := gb246) (o := .cells #[.int .u64 t249, .int .i64 t250, .slice Ao24 t251.length co24] 25 (0, 0)) (by (with_reducible repeat (first | refine blk_drewN ?_ _ | refine blk_drew ?_ | refine blk_alloc ?_ _)); exact BK246.out) hb); have n2_ := Aside0.mk (blk_below (g := gb260) (o := .cells #[.string ((rd_T48 l4 x96_5).f0), .int .i64 ((rd_T48 l4 x96_5).f1)] 48 (0, 0)) (by (with_reducible repeat (first | refine blk_drewN ?_ _ | refine blk_drew ?_ | refine blk_alloc ?_ _)); exact BK260.out) hb); have n3_ := Aside0.mk (below_step (by repeat (first | (with_reducible first | exact HB.out | apply below_alloc | apply pw_below_drewN | apply below_drew1 | refine below_set ?_ GE246.out | refine below_set ?_ GE260.out) | exact HB.out)) hb); clear HO_247002; clear BK246; clear BK260; clear HB; have HO_247002 := n0_; have BK246 := n1_; have BK260 := n2_; have HB := n3_; clear n0_ n1_ n2_ n3_; (try clear hb); (try clear hb2); (try clear hk); (try clear hi); have hcz54_0 : w53.cell? ⟨gb260, 0, none⟩ = some (.string ((rd_T48 l4 x96_5).f0)) := (blk_cell BK260.out 0).trans rfl; have hcz54_1 : w53.cell? ⟨gb260, 1, none⟩ = some (.int .i64 ((rd_T48 l4 x96_5).f1)) := (blk_cell BK260.out 1).trans rfl; have hfz54_0 := blk_frozen BK260.out 0; have hfz54_1 := blk_frozen BK260.out 1))
                                      go_roundg k5
                                      case measure => have := HJ7.out; have := HK2.out; have := HJ35.out; have := HK4.out; have := HK5.out; omega
                                      case rel => exact ⟨(wrap64 (x21_5 + ((rd_T48 l4 x96_5).f1))), (wrap64 (x96_5 + 1)), (by first | rfl | (simp; done) | (simp [*]; done)), (by first | rfl | (simp; done) | (simp [*]; done)), H', ⟨by have := HJ7.out; have := HK2.out; have := HJ35.out; have := HK4.out; have := HK5.out; omega⟩, ⟨by (with_reducible repeat (first | apply Kd.V_alloc | apply Kd.V_drewN | apply Kd.V_drew)); exact Kd.V_mono HO_247002.out (fun _ hk => hk.1)⟩, ⟨by (with_reducible repeat (first | refine blk_drewN ?_ _ | refine blk_drew ?_ | refine blk_alloc ?_ _)); exact BK246.out⟩, ⟨by repeat (first | (with_reducible first | exact HB.out | apply below_alloc | apply pw_below_drewN | apply below_drew1 | refine below_set ?_ GE246.out | refine below_set ?_ GE260.out) | exact HB.out)⟩⟩
                                    · rw [if_neg c48] at H
                                      have c48b0 : (t261 == t262) = false := beq_eq_false_iff_ne.mpr c48
                                      have c48b1 : (t261 != t262) = true := bne_iff_ne.mpr c48
                                      have H' := Aside0.mk H
                                      clear H
                                      have p259 : 0 ≤ (x96_5 : Int) := of_decide_eq_true (by first | (with_reducible assumption) | assumption)
                                      have q259 : x96_5 < (l4.length : Int) := of_decide_eq_true (by first | (with_reducible assumption) | assumption)
                                      obtain ⟨ad259, e259, hx259_0, hx259_1⟩ := at_T48 HR4.out x96_5 p259 q259
                                      cases e259
                                      replace hx259_0 := (HB.out.cell (World.block_lt_of_cell? w _ hx259_0)).trans hx259_0
                                      replace hx259_1 := (HB.out.cell (World.block_lt_of_cell? w _ hx259_1)).trans hx259_1
                                      replace p259 := eq_true p259
                                      replace q259 := eq_true q259
                                      go_wp2_with (first | ((with_reducible refine gate_dst (N := 23) rfl ?_); (try (refine gate_guard (by rfl) ?_; dsimp only)); refine box_event ?hg (N := 23) ?hd (cs := #[.string (⟨#[]⟩ : ByteArray), .int .i64 0]) (t := 48) ?hr ?_; (case hd => rfl); (case hg => rfl); (case hr => first | (go_simp; done) | (go_simp; rfl)); intro gb260 hg w55 hbox hb; have n0_ := Aside0.mk (Kd.V_below (Kd.V_elderB (by (with_reducible repeat (first | apply Kd.V_alloc | apply Kd.V_drewN | apply Kd.V_drew)); exact HO_247002.out) gb260 (Nat.le_of_eq hg.symm)) hb); have n1_ := Aside0.mk (blk_below (g := gb246) (o := .cells #[.int .u64 t249, .int .i64 t250, .slice Ao24 t251.length co24] 25 (0, 0)) (by (with_reducible repeat (first | refine blk_drewN ?_ _ | refine blk_drew ?_ | refine blk_alloc ?_ _)); exact BK246.out) hb); have n2_ := Aside0.mk (below_step (by repeat (first | (with_reducible first | exact HB.out | apply below_alloc | apply pw_below_drewN | apply below_drew1 | refine below_set ?_ GE246.out) | exact HB.out)) hb); have n3_ := Aside0.mk (hbox); have n4_ := Aside0.mk ((by rw [hg]; exact (below_size (by repeat (first | (with_reducible first | exact HB.out | apply below_alloc | apply pw_below_drewN | apply below_drew1 | refine below_set ?_ GE246.out) | exact HB.out))) : w.heap.size ≤ gb260)); have n5_ := Aside0.mk ((by rw [hg]; exact (below_size (by repeat (first | (with_reducible first | exact HB.out | apply below_alloc | apply pw_below_drewN | apply below_drew1 | refine below_set ?_ GE246.out) | exact HB.out))) : w.heap.size ≤ gb260)); have n6_ := Aside0.mk ((by rw [hg]; exact Nat.ne_of_lt (blk_lt (g := gb246) (o := .cells #[.int .u64 t249, .int .i64 t250, .slice Ao24 t251.length co24] 25 (0, 0)) (by (with_reducible repeat (first | refine blk_drewN ?_ _ | refine blk_drew ?_ | refine blk_alloc ?_ _)); exact BK246.out)) : gb246 ≠ gb260)); have n7_ := Aside0.mk ((by rw [hg]; exact Nat.ne_of_gt (blk_lt (g := gb246) (o := .cells #[.int .u64 t249, .int .i64 t250, .slice Ao24 t251.length co24] 25 (0, 0)) (by (with_reducible repeat (first | refine blk_drewN ?_ _ | refine blk_drew ?_ | refine blk_alloc ?_ _)); exact BK246.out)) : gb260 ≠ gb246)); clear HO_247002; clear BK246; clear HB; have HO_247002 := n0_; have BK246 := n1_; have HB := n2_; have BK260 := n3_; have GW260 := n4_; have GE260 := n5_; have NB246_260 := n6_; have NB260_246 := n7_; clear n0_ n1_ n2_ n3_ n4_ n5_ n6_ n7_; clear hb hbox hg; have hnb56 := NB260_246.out; have hnc56 := NB246_260.out; have hcz57_0 : w55.cell? ⟨gb260, 0, none⟩ = some (.string (⟨#[]⟩ : ByteArray)) := (blk_cell BK260.out 0).trans rfl; have hcz57_1 : w55.cell? ⟨gb260, 1, none⟩ = some (.int .i64 0) := (blk_cell BK260.out 1).trans rfl; have hfz57_0 := blk_frozen BK260.out 0; have hfz57_1 := blk_frozen BK260.out 1) | ((with_reducible refine gate_callee (f := 22) rfl ?_); refine goesL_ (some 105) rfl rfl Try.func22 (by kernel_rfl) rfl #[.int .u64 a0, .string ((rd_T48 l4 x96_5).f0), .int .i64 x20_4, .int .i64 a2] rfl (by (try simp only [List.map_toArray, List.map_cons, List.map_nil]); first | done | rfl | (simp only [List.length_drop, List.length_take]; rfl)) ?_; (with_reducible refine (rillmeterref11_Cell.calls k5 a0 ((rd_T48 l4 x96_5).f0) x20_4 a2 t261 _ A46.out).mono ?_); rintro e w58 ⟨rfl, hb⟩; refine ⟨_, rfl, ?_⟩; have n0_ := Aside0.mk (Kd.V_below (by (with_reducible repeat (first | apply Kd.V_alloc | apply Kd.V_drewN | apply Kd.V_drew)); exact (Kd.V_mono (Kd.V_far (p := ⟨gb260, 1, none⟩) (Kd.V_far (p := ⟨gb260, 0, none⟩) (Kd.V_mono HO_247002.out (fun k_ hk => (⟨hk, hk.2⟩ : _ ∧ k_ ≠ gb260))) (fun _ hk => hk.2) (.string ((rd_T48 l4 x96_5).f0))) (fun _ hk => hk.2) (.int .i64 ((rd_T48 l4 x96_5).f1))) (fun _ h_ => h_.1))) hb); have n1_ := Aside0.mk (blk_below (g := gb246) (o := .cells #[.int .u64 t249, .int .i64 t250, .slice Ao24 t251.length co24] 25 (0, 0)) (by (with_reducible repeat (first | refine blk_drewN ?_ _ | refine blk_drew ?_ | refine blk_alloc ?_ _)); refine blk_far ?_ NB246_260.out _; (with_reducible repeat (first | refine blk_drewN ?_ _ | refine blk_drew ?_ | refine blk_alloc ?_ _)); refine blk_far ?_ NB246_260.out _; (with_reducible repeat (first | refine blk_drewN ?_ _ | refine blk_drew ?_ | refine blk_alloc ?_ _)); exact BK246.out) hb); have n2_ := Aside0.mk (blk_below (g := gb260) (o := .cells #[.string ((rd_T48 l4 x96_5).f0), .int .i64 ((rd_T48 l4 x96_5).f1)] 48 (0, 0)) (by (with_reducible repeat (first | refine blk_drewN ?_ _ | refine blk_drew ?_ | refine blk_alloc ?_ _)); refine blk_put (cs := #[.string ((rd_T48 l4 x96_5).f0), .int .i64 0]) ?_ 1 _ rfl; (with_reducible repeat (first | refine blk_drewN ?_ _ | refine blk_drew ?_ | refine blk_alloc ?_ _)); refine blk_put (cs := #[.string (⟨#[]⟩ : ByteArray), .int .i64 0]) ?_ 0 _ rfl; (with_reducible repeat (first | refine blk_drewN ?_ _ | refine blk_drew ?_ | refine blk_alloc ?_ _)); exact BK260.out) hb); have n3_ := Aside0.mk (below_step (by repeat (first | (with_reducible first | exact HB.out | apply below_alloc | apply pw_below_drewN | apply below_drew1 | refine below_set ?_ GE246.out | refine below_set ?_ GE260.out) | exact HB.out)) hb); clear HO_247002; clear BK246; clear BK260; clear HB; have HO_247002 := n0_; have BK246 := n1_; have BK260 := n2_; have HB := n3_; clear n0_ n1_ n2_ n3_; (try clear hb); (try clear hb2); (try clear hk); (try clear hi)) | ((with_reducible refine gate_callee (f := 22) rfl ?_); refine goesL_ (some 110) rfl rfl Try.func22 (by kernel_rfl) rfl #[.int .u64 a0, .string a5, .int .i64 x20_4, .int .i64 a2] rfl (by (try simp only [List.map_toArray, List.map_cons, List.map_nil]); first | done | rfl | (simp only [List.length_drop, List.length_take]; rfl)) ?_; (with_reducible refine (rillmeterref11_Cell.calls k5 a0 a5 x20_4 a2 t262 _ A47.out).mono ?_); rintro e w59 ⟨rfl, hb⟩; refine ⟨_, rfl, ?_⟩; have n0_ := Aside0.mk (Kd.V_below (by (with_reducible repeat (first | apply Kd.V_alloc | apply Kd.V_drewN | apply Kd.V_drew)); exact HO_247002.out) hb); have n1_ := Aside0.mk (blk_below (g := gb246) (o := .cells #[.int .u64 t249, .int .i64 t250, .slice Ao24 t251.length co24] 25 (0, 0)) (by (with_reducible repeat (first | refine blk_drewN ?_ _ | refine blk_drew ?_ | refine blk_alloc ?_ _)); exact BK246.out) hb); have n2_ := Aside0.mk (blk_below (g := gb260) (o := .cells #[.string ((rd_T48 l4 x96_5).f0), .int .i64 ((rd_T48 l4 x96_5).f1)] 48 (0, 0)) (by (with_reducible repeat (first | refine blk_drewN ?_ _ | refine blk_drew ?_ | refine blk_alloc ?_ _)); exact BK260.out) hb); have n3_ := Aside0.mk (below_step (by repeat (first | (with_reducible first | exact HB.out | apply below_alloc | apply pw_below_drewN | apply below_drew1 | refine below_set ?_ GE246.out | refine below_set ?_ GE260.out) | exact HB.out)) hb); clear HO_247002; clear BK246; clear BK260; clear HB; have HO_247002 := n0_; have BK246 := n1_; have BK260 := n2_; have HB := n3_; clear n0_ n1_ n2_ n3_; (try clear hb); (try clear hb2); (try clear hk); (try clear hi)))
                                      go_roundg k5
                                      case measure => have := HJ7.out; have := HK2.out; have := HJ35.out; have := HK4.out; have := HK5.out; omega
                                      case rel => exact ⟨(x21_5), (wrap64 (x96_5 + 1)), (by first | rfl | (simp; done) | (simp [*]; done)), (by first | rfl | (simp; done) | (simp [*]; done)), H', ⟨by have := HJ7.out; have := HK2.out; have := HJ35.out; have := HK4.out; have := HK5.out; omega⟩, ⟨by (with_reducible repeat (first | apply Kd.V_alloc | apply Kd.V_drewN | apply Kd.V_drew)); exact Kd.V_mono HO_247002.out (fun _ hk => hk.1)⟩, ⟨by (with_reducible repeat (first | refine blk_drewN ?_ _ | refine blk_drew ?_ | refine blk_alloc ?_ _)); exact BK246.out⟩, ⟨by repeat (first | (with_reducible first | exact HB.out | apply below_alloc | apply pw_below_drewN | apply below_drew1 | refine below_set ?_ GE246.out | refine below_set ?_ GE260.out) | exact HB.out)⟩⟩
                                  · rw [if_neg c45] at H
                                    exact absurd H (by simp)
                                · rw [if_neg c44] at H
                                  exact absurd H (by simp)
                              · rw [if_neg c43] at H
                                have c43b0 : decide (x96_5 < (l4.length : Int)) = false := decide_eq_false c43
                                clear c43
                                by_cases c60 : t254 > x21_5
                                · rw [if_pos c60] at H
                                  have c60b0 : decide (x21_5 < t254) = true := decide_eq_true c60
                                  clear c60
                                  exact absurd ((Option.some.inj H).trans hrt.out) (by decide)
                                · rw [if_neg c60] at H
                                  have c60b0 : decide (x21_5 < t254) = false := decide_eq_false c60
                                  clear c60
                                  have H' := Aside0.mk H
                                  clear H
                                  go_wp2
                                  go_roundg k5
                                  case measure => have := HJ7.out; have := HK2.out; have := HJ35.out; have := HK4.out; have := HK5.out; omega
                                  case rel => exact ⟨(wrap64 (x20_4 + 1)), (by first | rfl | (simp; done) | (simp [*]; done)), H', ⟨by have := HJ7.out; have := HK2.out; have := HJ35.out; have := HK4.out; have := HK5.out; omega⟩, ⟨by (with_reducible repeat (first | apply Kd.V_alloc | apply Kd.V_drewN | apply Kd.V_drew)); exact HO_247002.out⟩, ⟨by (with_reducible repeat (first | refine blk_drewN ?_ _ | refine blk_drew ?_ | refine blk_alloc ?_ _)); exact BK246.out⟩, ⟨by repeat (first | (with_reducible first | exact HB.out | apply below_alloc | apply pw_below_drewN | apply below_drew1 | refine below_set ?_ GE246.out) | exact HB.out)⟩⟩
                        · rw [if_neg c42] at H
                          have c42b0 : decide (x20_4 < a1) = false := decide_eq_false c42
                          clear c42
                          replace H := Option.bind_eq_some_iff.mp H
                          obtain ⟨t258, A610, H⟩ := H
                          replace H : (some t258) = some r := H
                          have A61 := Aside0.mk A610
                          clear A610
                          obtain rfl := Option.some.inj H
                          go_wp2_with (first | ((with_reducible refine gate_callee (f := 12) rfl ?_); refine goesL_ (some 120) rfl rfl Try.func12 (by kernel_rfl) rfl #[] rfl (by (try simp only [List.map_toArray, List.map_cons, List.map_nil]); first | done | rfl | (simp only [List.length_drop, List.length_take]; rfl)) ?_; (with_reducible refine (rillmeterlaw11_awake.calls k4  t258 _ A61.out).mono ?_); rintro e w62 ⟨rfl, hb⟩; refine ⟨_, rfl, ?_⟩; have n0_ := Aside0.mk (Kd.V_below (by (with_reducible repeat (first | apply Kd.V_alloc | apply Kd.V_drewN | apply Kd.V_drew)); exact HO_247002.out) hb); have n1_ := Aside0.mk (blk_below (g := gb246) (o := .cells #[.int .u64 t249, .int .i64 t250, .slice Ao24 t251.length co24] 25 (0, 0)) (by (with_reducible repeat (first | refine blk_drewN ?_ _ | refine blk_drew ?_ | refine blk_alloc ?_ _)); exact BK246.out) hb); have n2_ := Aside0.mk (below_step (by repeat (first | (with_reducible first | exact HB.out | apply below_alloc | apply pw_below_drewN | apply below_drew1 | refine below_set ?_ GE246.out) | exact HB.out)) hb); clear HO_247002; clear BK246; clear HB; have HO_247002 := n0_; have BK246 := n1_; have HB := n2_; clear n0_ n1_ n2_; (try clear hb); (try clear hb2); (try clear hk); (try clear hi)))
                          go_ret
                          exact ⟨by first | rfl | (simp [errW_none, errW_some] <;> rfl) | (simp [*, errW_none, errW_some] <;> rfl), by repeat (first | (with_reducible first | exact HB.out | apply below_alloc | apply pw_below_drewN | apply below_drew1 | refine below_set ?_ GE246.out) | exact HB.out)⟩

end Go.Proofs.Yteendbdmkijpkaa.PLeastBounds
