/- The functions that a law uses, each as a plain function, with the proof that a call of the Go function comes to its answer. Condition of each: the arguments read as the data that it names, and the plain function has an answer. Written by a program of this session (standin.py). -/
import Derived.Test.YteendbdmkijpkaaPLeastTurnsx0
import Derived.Test.YteendbdmkijpkaaPLeastTurnsx1
import Derived.Test.YteendbdmkijpkaaPLeastTurnsx3
import Derived.Test.YteendbdmkijpkaaPLeastTurnsx4
import Derived.Test.YteendbdmkijpkaaPLeastTurnsx5
import Derived.Test.YteendbdmkijpkaaPLeastTurnsx6
import Derived.Test.YteendbdmkijpkaaPLeastTurnsx7
import Derived.Test.YteendbdmkijpkaaPLeastTurnsx9
import Derived.Test.YteendbdmkijpkaaPLeastTurnsx10
import Derived.Lib.SliceRun
import Derived.Test.YteendbdmkijpkaaShort
namespace Go.Proofs.Yteendbdmkijpkaa.PLeastTurns
open Go.RowKit Go.Proofs.YteendbdmkijpkaaW.PrintWords Go.Proofs.YteendbdmkijpkaaW.PrintLast Go.Proofs.YteendbdmkijpkaaW.PrintMore Go.Proofs.Yteendbdmkijpkaa.Short
attribute [local go_sem] max2_int min2_int max_two min_two max_three min_three max_four min_four   -- for this text's walks alone
set_option linter.unusedVariables false
set_option linter.unusedSimpArgs false

/-! ### rillmeterlaw11_LeastTurns: function 4 -/
mutual
def rillmeterlaw11_LeastTurns.j0 : Nat → ByteArray → Int → Bool → Int → Int → List (List Int) → Option (Bool)
  | 0, _, _, _, _, _, _ => none
  | k + 1, x1, x2, x21, x270000, x270001, x270002 => if x21 = true then ((rillmeterlaw11_awake.f k).bind fun t271 => (some t271)) else ((rillmeterlaw11_ref.f x270000 x270001 x270002).bind fun bt272 => ((least_Add.f k x270000 x270001 x270002 x1 x2).bind fun bt278 => ((least_Get.f k x270000 x270001 x270002 x1).bind fun bt285 => ((rillmeterref11_Right.f k bt272.1 bt272.2.1 bt272.2.2).bind fun t287 => (if t287 = true then ((rillmeterref11_Get.f k bt272.1 bt272.2.1 bt272.2.2 x1).bind fun t290 => (if bt285.1 = t290 then (if (bt285.2 != (decide (t290 < x270001))) = true then (rillmeterlaw11_LeastTurns.j1 k x1 x2 bt278.2.2.2 true bt272.1 bt272.2.1 bt272.2.2 bt278.1 bt278.2.1 bt278.2.2.1) else ((least_Right.f k x270000 x270001 x270002).bind fun t291 => (rillmeterlaw11_LeastTurns.j1 k x1 x2 bt278.2.2.2 (!t291) bt272.1 bt272.2.1 bt272.2.2 bt278.1 bt278.2.1 bt278.2.2.1))) else (rillmeterlaw11_LeastTurns.j1 k x1 x2 bt278.2.2.2 true bt272.1 bt272.2.1 bt272.2.2 bt278.1 bt278.2.1 bt278.2.2.1))) else ((least_Right.f k x270000 x270001 x270002).bind fun t288 => (if t288 = true then (some false) else (if bt278.2.2.2 = 1 then (if (bt278.2.2.1.length : Int) = 0 then (if bt285.1 = 0 then (if bt285.2 = true then (some false) else ((rillmeterlaw11_awake.f k).bind fun t289 => (some t289))) else (some false)) else (some false)) else (some false)))))))))
def rillmeterlaw11_LeastTurns.j1 : Nat → ByteArray → Int → Int → Bool → Int → Int → List (List Int) → Int → Int → List (List Int) → Option (Bool)
  | 0, _, _, _, _, _, _, _, _, _, _ => none
  | k + 1, x1, x2, x9, x83, x278000, x278001, x278002, x285000, x285001, x285002 => if x83 = true then (some false) else (if x2 < 0 then (rillmeterlaw11_LeastTurns.j2 k x1 x2 x9 true x278000 x278001 x278002 x285000 x285001 x285002) else (rillmeterlaw11_LeastTurns.j2 k x1 x2 x9 (decide (x2 > 1099511627776)) x278000 x278001 x278002 x285000 x285001 x285002))
def rillmeterlaw11_LeastTurns.j2 : Nat → ByteArray → Int → Int → Bool → Int → Int → List (List Int) → Int → Int → List (List Int) → Option (Bool)
  | 0, _, _, _, _, _, _, _, _, _, _ => none
  | k + 1, x1, x2, x9, x89, x278000, x278001, x278002, x285000, x285001, x285002 => if x89 = true then (if x9 = 1 then (if (x285002.length : Int) = 0 then ((rillmeterlaw11_awake.f k).bind fun t292 => (some t292)) else (some false)) else (some false)) else (if x9 = 0 then ((rillmeterlaw11_ref.f x285000 x285001 x285002).bind fun bt293 => ((rillmeterref11_Add.f k x278000 x278001 x278002 x1 x2).bind fun bt298 => ((rillmeterref11_Equal.f k bt293.1 bt293.2.1 bt293.2.2 bt298.1 bt298.2.1 bt298.2.2).bind fun t303 => (if t303 = true then ((rillmeterlaw11_awake.f k).bind fun t304 => (some t304)) else (some false))))) else (some false))
end
def rillmeterlaw11_LeastTurns.f (k : Nat) (a0_0 : Int) (a0_1 : Int) (l0_2 : List (List Int)) (a1 : ByteArray) (a2 : Int) : Option (Bool) := (rillmeterref11_Small.f k l0_2).bind fun t270 => (if t270 = true then (rillmeterlaw11_LeastTurns.j0 k a1 a2 (decide ((a1.size : Int) > 100)) a0_0 a0_1 l0_2) else (rillmeterlaw11_LeastTurns.j0 k a1 a2 true a0_0 a0_1 l0_2))
theorem rillmeterlaw11_LeastTurns.mono_l : ∀ k, (∀ y0 y1 y2 y3 y4 y5, LeO (rillmeterlaw11_LeastTurns.j0 k y0 y1 y2 y3 y4 y5) (rillmeterlaw11_LeastTurns.j0 (k + 1) y0 y1 y2 y3 y4 y5)) ∧ (∀ y0 y1 y2 y3 y4 y5 y6 y7 y8 y9, LeO (rillmeterlaw11_LeastTurns.j1 k y0 y1 y2 y3 y4 y5 y6 y7 y8 y9) (rillmeterlaw11_LeastTurns.j1 (k + 1) y0 y1 y2 y3 y4 y5 y6 y7 y8 y9)) ∧ (∀ y0 y1 y2 y3 y4 y5 y6 y7 y8 y9, LeO (rillmeterlaw11_LeastTurns.j2 k y0 y1 y2 y3 y4 y5 y6 y7 y8 y9) (rillmeterlaw11_LeastTurns.j2 (k + 1) y0 y1 y2 y3 y4 y5 y6 y7 y8 y9))
  | 0 => ⟨fun _ _ _ _ _ _ r h => by simp [rillmeterlaw11_LeastTurns.j0] at h, fun _ _ _ _ _ _ _ _ _ _ r h => by simp [rillmeterlaw11_LeastTurns.j1] at h, fun _ _ _ _ _ _ _ _ _ _ r h => by simp [rillmeterlaw11_LeastTurns.j2] at h⟩
  | k + 1 => by
    obtain ⟨ih0, ih1, ih2⟩ := rillmeterlaw11_LeastTurns.mono_l k
    refine ⟨?_, ?_, ?_⟩
    · intro y0 y1 y2 y3 y4 y5
      unfold rillmeterlaw11_LeastTurns.j0
      repeat' first
      | (with_reducible exact ih0 _ _ _ _ _ _)
      | (with_reducible exact ih1 _ _ _ _ _ _ _ _ _ _)
      | (with_reducible exact ih2 _ _ _ _ _ _ _ _ _ _)
      | (with_reducible exact least_Add.mono _ _ _ _ _ _)
      | (with_reducible exact least_Get.mono _ _ _ _ _)
      | (with_reducible exact least_Right.mono _ _ _ _)
      | (with_reducible exact rillmeterlaw11_awake.mono _)
      | (with_reducible exact rillmeterref11_Add.mono _ _ _ _ _ _)
      | (with_reducible exact rillmeterref11_Equal.mono _ _ _ _ _ _ _)
      | (with_reducible exact rillmeterref11_Get.mono _ _ _ _ _)
      | (with_reducible exact rillmeterref11_Right.mono _ _ _ _)
      | (with_reducible exact rillmeterref11_Small.mono _ _)
      | (with_reducible exact LeO.refl _)
      | (with_reducible exact LeO.none _)
      | (with_reducible refine LeO.ite ?_ ?_)
      | (with_reducible refine LeO.bind ?_ (fun _ => ?_))
      | exact ih0 _ _ _ _ _ _
      | exact ih1 _ _ _ _ _ _ _ _ _ _
      | exact ih2 _ _ _ _ _ _ _ _ _ _
      | exact least_Add.mono _ _ _ _ _ _
      | exact least_Get.mono _ _ _ _ _
      | exact least_Right.mono _ _ _ _
      | exact rillmeterlaw11_awake.mono _
      | exact rillmeterref11_Add.mono _ _ _ _ _ _
      | exact rillmeterref11_Equal.mono _ _ _ _ _ _ _
      | exact rillmeterref11_Get.mono _ _ _ _ _
      | exact rillmeterref11_Right.mono _ _ _ _
      | exact rillmeterref11_Small.mono _ _
      | exact LeO.none _
      | refine LeO.ite ?_ ?_
      | refine LeO.bind ?_ (fun _ => ?_)
    · intro y0 y1 y2 y3 y4 y5 y6 y7 y8 y9
      unfold rillmeterlaw11_LeastTurns.j1
      repeat' first
      | (with_reducible exact ih0 _ _ _ _ _ _)
      | (with_reducible exact ih1 _ _ _ _ _ _ _ _ _ _)
      | (with_reducible exact ih2 _ _ _ _ _ _ _ _ _ _)
      | (with_reducible exact least_Add.mono _ _ _ _ _ _)
      | (with_reducible exact least_Get.mono _ _ _ _ _)
      | (with_reducible exact least_Right.mono _ _ _ _)
      | (with_reducible exact rillmeterlaw11_awake.mono _)
      | (with_reducible exact rillmeterref11_Add.mono _ _ _ _ _ _)
      | (with_reducible exact rillmeterref11_Equal.mono _ _ _ _ _ _ _)
      | (with_reducible exact rillmeterref11_Get.mono _ _ _ _ _)
      | (with_reducible exact rillmeterref11_Right.mono _ _ _ _)
      | (with_reducible exact rillmeterref11_Small.mono _ _)
      | (with_reducible exact LeO.refl _)
      | (with_reducible exact LeO.none _)
      | (with_reducible refine LeO.ite ?_ ?_)
      | (with_reducible refine LeO.bind ?_ (fun _ => ?_))
      | exact ih0 _ _ _ _ _ _
      | exact ih1 _ _ _ _ _ _ _ _ _ _
      | exact ih2 _ _ _ _ _ _ _ _ _ _
      | exact least_Add.mono _ _ _ _ _ _
      | exact least_Get.mono _ _ _ _ _
      | exact least_Right.mono _ _ _ _
      | exact rillmeterlaw11_awake.mono _
      | exact rillmeterref11_Add.mono _ _ _ _ _ _
      | exact rillmeterref11_Equal.mono _ _ _ _ _ _ _
      | exact rillmeterref11_Get.mono _ _ _ _ _
      | exact rillmeterref11_Right.mono _ _ _ _
      | exact rillmeterref11_Small.mono _ _
      | exact LeO.none _
      | refine LeO.ite ?_ ?_
      | refine LeO.bind ?_ (fun _ => ?_)
    · intro y0 y1 y2 y3 y4 y5 y6 y7 y8 y9
      unfold rillmeterlaw11_LeastTurns.j2
      repeat' first
      | (with_reducible exact ih0 _ _ _ _ _ _)
      | (with_reducible exact ih1 _ _ _ _ _ _ _ _ _ _)
      | (with_reducible exact ih2 _ _ _ _ _ _ _ _ _ _)
      | (with_reducible exact least_Add.mono _ _ _ _ _ _)
      | (with_reducible exact least_Get.mono _ _ _ _ _)
      | (with_reducible exact least_Right.mono _ _ _ _)
      | (with_reducible exact rillmeterlaw11_awake.mono _)
      | (with_reducible exact rillmeterref11_Add.mono _ _ _ _ _ _)
      | (with_reducible exact rillmeterref11_Equal.mono _ _ _ _ _ _ _)
      | (with_reducible exact rillmeterref11_Get.mono _ _ _ _ _)
      | (with_reducible exact rillmeterref11_Right.mono _ _ _ _)
      | (with_reducible exact rillmeterref11_Small.mono _ _)
      | (with_reducible exact LeO.refl _)
      | (with_reducible exact LeO.none _)
      | (with_reducible refine LeO.ite ?_ ?_)
      | (with_reducible refine LeO.bind ?_ (fun _ => ?_))
      | exact ih0 _ _ _ _ _ _
      | exact ih1 _ _ _ _ _ _ _ _ _ _
      | exact ih2 _ _ _ _ _ _ _ _ _ _
      | exact least_Add.mono _ _ _ _ _ _
      | exact least_Get.mono _ _ _ _ _
      | exact least_Right.mono _ _ _ _
      | exact rillmeterlaw11_awake.mono _
      | exact rillmeterref11_Add.mono _ _ _ _ _ _
      | exact rillmeterref11_Equal.mono _ _ _ _ _ _ _
      | exact rillmeterref11_Get.mono _ _ _ _ _
      | exact rillmeterref11_Right.mono _ _ _ _
      | exact rillmeterref11_Small.mono _ _
      | exact LeO.none _
      | refine LeO.ite ?_ ?_
      | refine LeO.bind ?_ (fun _ => ?_)
theorem rillmeterlaw11_LeastTurns.mono : ∀ a0 a1 a2 a3 a4 k, LeO (rillmeterlaw11_LeastTurns.f k a0 a1 a2 a3 a4) (rillmeterlaw11_LeastTurns.f (k + 1) a0 a1 a2 a3 a4) := by
  intro a0 a1 a2 a3 a4 k
  obtain ⟨ih0, ih1, ih2⟩ := rillmeterlaw11_LeastTurns.mono_l k
  unfold rillmeterlaw11_LeastTurns.f
  repeat' first
      | (with_reducible exact ih0 _ _ _ _ _ _)
      | (with_reducible exact ih1 _ _ _ _ _ _ _ _ _ _)
      | (with_reducible exact ih2 _ _ _ _ _ _ _ _ _ _)
      | (with_reducible exact least_Add.mono _ _ _ _ _ _)
      | (with_reducible exact least_Get.mono _ _ _ _ _)
      | (with_reducible exact least_Right.mono _ _ _ _)
      | (with_reducible exact rillmeterlaw11_awake.mono _)
      | (with_reducible exact rillmeterref11_Add.mono _ _ _ _ _ _)
      | (with_reducible exact rillmeterref11_Equal.mono _ _ _ _ _ _ _)
      | (with_reducible exact rillmeterref11_Get.mono _ _ _ _ _)
      | (with_reducible exact rillmeterref11_Right.mono _ _ _ _)
      | (with_reducible exact rillmeterref11_Small.mono _ _)
      | (with_reducible exact LeO.refl _)
      | (with_reducible exact LeO.none _)
      | (with_reducible refine LeO.ite ?_ ?_)
      | (with_reducible refine LeO.bind ?_ (fun _ => ?_))
      | exact ih0 _ _ _ _ _ _
      | exact ih1 _ _ _ _ _ _ _ _ _ _
      | exact ih2 _ _ _ _ _ _ _ _ _ _
      | exact least_Add.mono _ _ _ _ _ _
      | exact least_Get.mono _ _ _ _ _
      | exact least_Right.mono _ _ _ _
      | exact rillmeterlaw11_awake.mono _
      | exact rillmeterref11_Add.mono _ _ _ _ _ _
      | exact rillmeterref11_Equal.mono _ _ _ _ _ _ _
      | exact rillmeterref11_Get.mono _ _ _ _ _
      | exact rillmeterref11_Right.mono _ _ _ _
      | exact rillmeterref11_Small.mono _ _
      | exact LeO.none _
      | refine LeO.ite ?_ ?_
      | refine LeO.bind ?_ (fun _ => ?_)
def rillmeterlaw11_LeastTurns.T13 : Bool × List (List Nat × List Nat) := (true, [([], []), ([0], [0]), ([1], [1]), ([2], [2]), ([3, 2, 2], [2, 3]), ([2], [2]), ([2], [2]), ([2], [2]), ([5, 6, 7, 4, 2], [2, 5, 6, 7]), ([4, 8, 8, 2], [2, 4, 8]), ([2, 9], [2, 9]), ([10, 9], [10]), ([11, 11], [11]), ([11, 12], [11, 12]), ([13, 12, 0, 1, 2, 3, 4, 5, 6, 7, 8, 9, 10, 11, 12, 13], [13])])
def rillmeterlaw11_LeastTurns.B13 : List Nat := [0, 1, 3, 7, 15, 7, 7, 7, 255, 511, 1023, 2047, 4095, 8191, 16383]
theorem rillmeterlaw11_LeastTurns.tab13 : rtab .any (opsOf Try.f4 13) = rillmeterlaw11_LeastTurns.T13 := by kernel_rfl
theorem rillmeterlaw11_LeastTurns.bits13 : waitsOk rillmeterlaw11_LeastTurns.T13.2 rillmeterlaw11_LeastTurns.B13 = true := by kernel_rfl
set_option maxHeartbeats 8000000 in
set_option maxRecDepth 100000 in
theorem rillmeterlaw11_LeastTurns.calls (k : Nat) (a0_0 : Int) (a0_1 : Int) (A0_2 : Option Addr) (c0_2 : Nat) (l0_2 : List (List Int)) (a1 : ByteArray) (a2 : Int) (r : Bool) (w : World) (hr0_2 : Kd.C (Kd.slice 3 (Kd.int .i64)) w A0_2 l0_2.length l0_2) (hc0_2 : l0_2.length ≤ c0_2) (h : rillmeterlaw11_LeastTurns.f k a0_0 a0_1 l0_2 a1 a2 = some r) (hrt : Aside0 (r = true)) :
    Calls Try.prog 4 #[.agg #[.int .u64 a0_0, .int .i64 a0_1, .slice A0_2 l0_2.length c0_2], .string a1, .int .i64 a2] w fun e w' => e = .returned (.bool r) ∧ Below w.heap.size w w' := by
  have hu25 := Try.underlying25
  have hu30 := Try.underlying30
  have HR0_2 := Aside0.mk hr0_2
  have HC0_2 := Aside0.mk hc0_2
  clear hr0_2 hc0_2
  have HB := Aside0.mk (Below.refl w.heap.size w)
  have H : ((rillmeterref11_Small.f k l0_2).bind fun t270 => (if t270 = true then (rillmeterlaw11_LeastTurns.j0 k a1 a2 (decide ((a1.size : Int) > 100)) a0_0 a0_1 l0_2) else (rillmeterlaw11_LeastTurns.j0 k a1 a2 true a0_0 a0_1 l0_2))) = some r := h
  clear h
  have HC4 := Aside0.mk H
  clear H
  go_enter Try.func4, Try.ntmps4
  go_upto_region 1 with (first | ((with_reducible refine gate_dst (N := 3) rfl ?_); (try (refine gate_guard (by rfl) ?_; dsimp only)); refine box_event ?hg (N := 3) ?hd (cs := #[.int .u64 a0_0, .int .i64 a0_1, .slice A0_2 l0_2.length c0_2]) (t := 25) ?hr ?_; (case hd => rfl); (case hg => rfl); (case hr => first | (go_simp; done) | (go_simp; rfl)); intro gb269 hg w5 hbox hb; have n0_ := Aside0.mk (below_step (bl_ HB) hb); have n1_ := Aside0.mk (hbox); have n2_ := Aside0.mk ((by rw [hg]; exact (below_size (bl_ HB)) : w.heap.size ≤ gb269)); have n3_ := Aside0.mk ((by rw [hg]; exact (below_size (bl_ HB)) : w.heap.size ≤ gb269)); clear HB; have HB := n0_; have BK269 := n1_; have GW269 := n2_; have GE269 := n3_; clear n0_ n1_ n2_ n3_; clear hb hbox hg))
  (try simp only [Act.put, List.setIfInBounds_toArray, List.set_cons_zero, List.set_cons_succ])
  go_cut [21] (fun v21 wc => ∃ (kq : Nat) (x21_3 : Bool), v21 = .bool x21_3 ∧ Aside0 (rillmeterlaw11_LeastTurns.j0 kq a1 a2 x21_3 a0_0 a0_1 l0_2 = some r) ∧ Aside0 (kq ≤ k) ∧ Aside0 (wc.heap[gb269]? = some (.cells #[.int .u64 a0_0, .int .i64 a0_1, (.slice A0_2 l0_2.length c0_2)] 25 (0, 0))) ∧ Aside0 (Below w.heap.size w wc))
  case first =>
    have H := HC4.out
    clear HC4
    replace H := Option.bind_eq_some_iff.mp H
    obtain ⟨t270, A60, H⟩ := H
    replace H : (if t270 = true then (rillmeterlaw11_LeastTurns.j0 k a1 a2 (decide ((a1.size : Int) > 100)) a0_0 a0_1 l0_2) else (rillmeterlaw11_LeastTurns.j0 k a1 a2 true a0_0 a0_1 l0_2)) = some r := H
    have A6 := Aside0.mk A60
    clear A60
    by_cases c7 : t270 = true
    · subst c7
      have H1 : (rillmeterlaw11_LeastTurns.j0 k a1 a2 (decide ((a1.size : Int) > 100)) a0_0 a0_1 l0_2) = some r := by rw [if_pos rfl] at H; exact H
      clear H
      have H := H1
      clear H1
      have H' := Aside0.mk H
      clear H
      have hcz8_0 : w5.cell? ⟨gb269, 0, none⟩ = some (.int .u64 a0_0) := (blk_cell BK269.out 0).trans rfl
      have hcz8_1 : w5.cell? ⟨gb269, 1, none⟩ = some (.int .i64 a0_1) := (blk_cell BK269.out 1).trans rfl
      have hcz8_2 : w5.cell? ⟨gb269, 2, none⟩ = some (.slice A0_2 l0_2.length c0_2) := (blk_cell BK269.out 2).trans rfl
      have hfz8_0 := blk_frozen BK269.out 0
      have hfz8_1 := blk_frozen BK269.out 1
      have hfz8_2 := blk_frozen BK269.out 2
      go_wp2_with (first | ((with_reducible refine gate_callee (f := 14) rfl ?_); refine goesL_ (some 15) rfl rfl Try.func14 (by kernel_rfl) rfl #[.slice A0_2 l0_2.length c0_2] rfl (by (try simp only [List.map_toArray, List.map_cons, List.map_nil]); first | done | rfl | (simp only [List.length_drop, List.length_take]; rfl)) ?_; (with_reducible refine (rillmeterref11_Small.calls k _ _ l0_2 true _ ?side1 ?side2 A6.out).mono ?_); (case side1 => repeat (first | exact (Kd.C_below HR0_2.out HB.out) | (with_reducible refine Kd.C_alloc ?_ _) | (with_reducible refine Kd.C_drewN ?_ _) | (with_reducible refine Kd.C_drew ?_))); (case side2 => exact HC0_2.out); rintro e w' ⟨rfl, ⟨nd, rfl⟩⟩; refine ⟨_, rfl, ?_⟩))
      go_meet
      case rel => exact ⟨_, (decide ((a1.size : Int) > 100)), (by first | rfl | (simp; done) | (simp [*]; done)), H', ⟨by first | omega | exact Nat.le_refl _⟩, ⟨bk_ BK269⟩, ⟨bl_ HB⟩⟩
    · replace c7 := Bool.eq_false_iff.mpr c7
      subst c7
      have H1 : (rillmeterlaw11_LeastTurns.j0 k a1 a2 true a0_0 a0_1 l0_2) = some r := by rw [if_neg (show ¬ (false = true) by decide)] at H; exact H
      clear H
      have H := H1
      clear H1
      have H' := Aside0.mk H
      clear H
      have hcz9_0 : w5.cell? ⟨gb269, 0, none⟩ = some (.int .u64 a0_0) := (blk_cell BK269.out 0).trans rfl
      have hcz9_1 : w5.cell? ⟨gb269, 1, none⟩ = some (.int .i64 a0_1) := (blk_cell BK269.out 1).trans rfl
      have hcz9_2 : w5.cell? ⟨gb269, 2, none⟩ = some (.slice A0_2 l0_2.length c0_2) := (blk_cell BK269.out 2).trans rfl
      have hfz9_0 := blk_frozen BK269.out 0
      have hfz9_1 := blk_frozen BK269.out 1
      have hfz9_2 := blk_frozen BK269.out 2
      go_wp2_with (first | ((with_reducible refine gate_callee (f := 14) rfl ?_); refine goesL_ (some 15) rfl rfl Try.func14 (by kernel_rfl) rfl #[.slice A0_2 l0_2.length c0_2] rfl (by (try simp only [List.map_toArray, List.map_cons, List.map_nil]); first | done | rfl | (simp only [List.length_drop, List.length_take]; rfl)) ?_; (with_reducible refine (rillmeterref11_Small.calls k _ _ l0_2 false _ ?side1 ?side2 A6.out).mono ?_); (case side1 => repeat (first | exact (Kd.C_below HR0_2.out HB.out) | (with_reducible refine Kd.C_alloc ?_ _) | (with_reducible refine Kd.C_drewN ?_ _) | (with_reducible refine Kd.C_drew ?_))); (case side2 => exact HC0_2.out); rintro e w' ⟨rfl, ⟨nd, rfl⟩⟩; refine ⟨_, rfl, ?_⟩))
      go_meet
      case rel => exact ⟨_, (true), (by first | rfl | (simp; done) | (simp [*]; done)), H', ⟨by first | omega | exact Nat.le_refl _⟩, ⟨bk_ BK269⟩, ⟨bl_ HB⟩⟩
  case rest =>
    clear HC4
    try clear c1
    try clear p2
    try clear c4
    try clear c7
    try clear hcz8_0
    try clear hcz8_1
    try clear hcz8_2
    try clear hcz9_0
    try clear hcz9_1
    try clear hcz9_2
    try clear hfz8_0
    try clear hfz8_1
    try clear hfz8_2
    try clear hfz9_0
    try clear hfz9_1
    try clear hfz9_2
    obtain ⟨kq, x21_3, rfl, HA, HJ3, BK269, HB⟩ := hcut
    cases kq with
    | zero => exact absurd HA.out (by simp [rillmeterlaw11_LeastTurns.j0])
    | succ kj3 =>
      have H := HA.out
      clear HA
      simp only [rillmeterlaw11_LeastTurns.j0] at H
      by_cases c10 : x21_3 = true
      · subst c10
        have H1 : ((rillmeterlaw11_awake.f kj3).bind fun t271 => (some t271)) = some r := by rw [if_pos rfl] at H; exact H
        clear H
        have H := H1
        clear H1
        replace H := Option.bind_eq_some_iff.mp H
        obtain ⟨t271, A110, H⟩ := H
        replace H : (some t271) = some r := H
        have A11 := Aside0.mk A110
        clear A110
        obtain rfl := Option.some.inj H
        go_wp2_with (first | ((with_reducible refine gate_callee (f := 12) rfl ?_); refine goesL_ (some 22) rfl rfl Try.func12 (by kernel_rfl) rfl #[] rfl (by (try simp only [List.map_toArray, List.map_cons, List.map_nil]); first | done | rfl | (simp only [List.length_drop, List.length_take]; rfl)) ?_; (with_reducible refine (rillmeterlaw11_awake.calls kj3  t271 _ A11.out).mono ?_); rintro e w12 ⟨rfl, hb⟩; refine ⟨_, rfl, ?_⟩; have n0_ := Aside0.mk (blk_below (bk_ BK269) hb); have n1_ := Aside0.mk (below_step (bl_ HB) hb); clear BK269; clear HB; have BK269 := n0_; have HB := n1_; clear n0_ n1_; (try clear hb); (try clear hb2); (try clear hk); (try clear hi)))
        go_ret
        exact ⟨by first | rfl | (simp [errW_none, errW_some] <;> rfl) | (simp [*, errW_none, errW_some] <;> rfl), bl_ HB⟩
      · replace c10 := Bool.eq_false_iff.mpr c10
        subst c10
        have H1 : ((rillmeterlaw11_ref.f a0_0 a0_1 l0_2).bind fun bt272 => ((least_Add.f kj3 a0_0 a0_1 l0_2 a1 a2).bind fun bt278 => ((least_Get.f kj3 a0_0 a0_1 l0_2 a1).bind fun bt285 => ((rillmeterref11_Right.f kj3 bt272.1 bt272.2.1 bt272.2.2).bind fun t287 => (if t287 = true then ((rillmeterref11_Get.f kj3 bt272.1 bt272.2.1 bt272.2.2 a1).bind fun t290 => (if bt285.1 = t290 then (if (bt285.2 != (decide (t290 < a0_1))) = true then (rillmeterlaw11_LeastTurns.j1 kj3 a1 a2 bt278.2.2.2 true bt272.1 bt272.2.1 bt272.2.2 bt278.1 bt278.2.1 bt278.2.2.1) else ((least_Right.f kj3 a0_0 a0_1 l0_2).bind fun t291 => (rillmeterlaw11_LeastTurns.j1 kj3 a1 a2 bt278.2.2.2 (!t291) bt272.1 bt272.2.1 bt272.2.2 bt278.1 bt278.2.1 bt278.2.2.1))) else (rillmeterlaw11_LeastTurns.j1 kj3 a1 a2 bt278.2.2.2 true bt272.1 bt272.2.1 bt272.2.2 bt278.1 bt278.2.1 bt278.2.2.1))) else ((least_Right.f kj3 a0_0 a0_1 l0_2).bind fun t288 => (if t288 = true then (some false) else (if bt278.2.2.2 = 1 then (if (bt278.2.2.1.length : Int) = 0 then (if bt285.1 = 0 then (if bt285.2 = true then (some false) else ((rillmeterlaw11_awake.f kj3).bind fun t289 => (some t289))) else (some false)) else (some false)) else (some false))))))))) = some r := by rw [if_neg (show ¬ (false = true) by decide)] at H; exact H
        clear H
        have H := H1
        clear H1
        replace H := Option.bind_eq_some_iff.mp H
        obtain ⟨⟨t272, t273, t274⟩, A130, H⟩ := H
        replace H : ((least_Add.f kj3 a0_0 a0_1 l0_2 a1 a2).bind fun bt278 => ((least_Get.f kj3 a0_0 a0_1 l0_2 a1).bind fun bt285 => ((rillmeterref11_Right.f kj3 t272 t273 t274).bind fun t287 => (if t287 = true then ((rillmeterref11_Get.f kj3 t272 t273 t274 a1).bind fun t290 => (if bt285.1 = t290 then (if (bt285.2 != (decide (t290 < a0_1))) = true then (rillmeterlaw11_LeastTurns.j1 kj3 a1 a2 bt278.2.2.2 true t272 t273 t274 bt278.1 bt278.2.1 bt278.2.2.1) else ((least_Right.f kj3 a0_0 a0_1 l0_2).bind fun t291 => (rillmeterlaw11_LeastTurns.j1 kj3 a1 a2 bt278.2.2.2 (!t291) t272 t273 t274 bt278.1 bt278.2.1 bt278.2.2.1))) else (rillmeterlaw11_LeastTurns.j1 kj3 a1 a2 bt278.2.2.2 true t272 t273 t274 bt278.1 bt278.2.1 bt278.2.2.1))) else ((least_Right.f kj3 a0_0 a0_1 l0_2).bind fun t288 => (if t288 = true then (some false) else (if bt278.2.2.2 = 1 then (if (bt278.2.2.1.length : Int) = 0 then (if bt285.1 = 0 then (if bt285.2 = true then (some false) else ((rillmeterlaw11_awake.f kj3).bind fun t289 => (some t289))) else (some false)) else (some false)) else (some false)))))))) = some r := H
        have A13 := Aside0.mk A130
        clear A130
        replace H := Option.bind_eq_some_iff.mp H
        obtain ⟨⟨t278, t279, t280, t283⟩, A140, H⟩ := H
        replace H : ((least_Get.f kj3 a0_0 a0_1 l0_2 a1).bind fun bt285 => ((rillmeterref11_Right.f kj3 t272 t273 t274).bind fun t287 => (if t287 = true then ((rillmeterref11_Get.f kj3 t272 t273 t274 a1).bind fun t290 => (if bt285.1 = t290 then (if (bt285.2 != (decide (t290 < a0_1))) = true then (rillmeterlaw11_LeastTurns.j1 kj3 a1 a2 t283 true t272 t273 t274 t278 t279 t280) else ((least_Right.f kj3 a0_0 a0_1 l0_2).bind fun t291 => (rillmeterlaw11_LeastTurns.j1 kj3 a1 a2 t283 (!t291) t272 t273 t274 t278 t279 t280))) else (rillmeterlaw11_LeastTurns.j1 kj3 a1 a2 t283 true t272 t273 t274 t278 t279 t280))) else ((least_Right.f kj3 a0_0 a0_1 l0_2).bind fun t288 => (if t288 = true then (some false) else (if t283 = 1 then (if (t280.length : Int) = 0 then (if bt285.1 = 0 then (if bt285.2 = true then (some false) else ((rillmeterlaw11_awake.f kj3).bind fun t289 => (some t289))) else (some false)) else (some false)) else (some false))))))) = some r := H
        have A14 := Aside0.mk A140
        clear A140
        replace H := Option.bind_eq_some_iff.mp H
        obtain ⟨⟨t285, t286⟩, A150, H⟩ := H
        replace H : ((rillmeterref11_Right.f kj3 t272 t273 t274).bind fun t287 => (if t287 = true then ((rillmeterref11_Get.f kj3 t272 t273 t274 a1).bind fun t290 => (if t285 = t290 then (if (t286 != (decide (t290 < a0_1))) = true then (rillmeterlaw11_LeastTurns.j1 kj3 a1 a2 t283 true t272 t273 t274 t278 t279 t280) else ((least_Right.f kj3 a0_0 a0_1 l0_2).bind fun t291 => (rillmeterlaw11_LeastTurns.j1 kj3 a1 a2 t283 (!t291) t272 t273 t274 t278 t279 t280))) else (rillmeterlaw11_LeastTurns.j1 kj3 a1 a2 t283 true t272 t273 t274 t278 t279 t280))) else ((least_Right.f kj3 a0_0 a0_1 l0_2).bind fun t288 => (if t288 = true then (some false) else (if t283 = 1 then (if (t280.length : Int) = 0 then (if t285 = 0 then (if t286 = true then (some false) else ((rillmeterlaw11_awake.f kj3).bind fun t289 => (some t289))) else (some false)) else (some false)) else (some false)))))) = some r := H
        have A15 := Aside0.mk A150
        clear A150
        replace H := Option.bind_eq_some_iff.mp H
        obtain ⟨t287, A160, H⟩ := H
        replace H : (if t287 = true then ((rillmeterref11_Get.f kj3 t272 t273 t274 a1).bind fun t290 => (if t285 = t290 then (if (t286 != (decide (t290 < a0_1))) = true then (rillmeterlaw11_LeastTurns.j1 kj3 a1 a2 t283 true t272 t273 t274 t278 t279 t280) else ((least_Right.f kj3 a0_0 a0_1 l0_2).bind fun t291 => (rillmeterlaw11_LeastTurns.j1 kj3 a1 a2 t283 (!t291) t272 t273 t274 t278 t279 t280))) else (rillmeterlaw11_LeastTurns.j1 kj3 a1 a2 t283 true t272 t273 t274 t278 t279 t280))) else ((least_Right.f kj3 a0_0 a0_1 l0_2).bind fun t288 => (if t288 = true then (some false) else (if t283 = 1 then (if (t280.length : Int) = 0 then (if t285 = 0 then (if t286 = true then (some false) else ((rillmeterlaw11_awake.f kj3).bind fun t289 => (some t289))) else (some false)) else (some false)) else (some false))))) = some r := H
        have A16 := Aside0.mk A160
        clear A160
        by_cases c17 : t287 = true
        · subst c17
          have H1 : ((rillmeterref11_Get.f kj3 t272 t273 t274 a1).bind fun t290 => (if t285 = t290 then (if (t286 != (decide (t290 < a0_1))) = true then (rillmeterlaw11_LeastTurns.j1 kj3 a1 a2 t283 true t272 t273 t274 t278 t279 t280) else ((least_Right.f kj3 a0_0 a0_1 l0_2).bind fun t291 => (rillmeterlaw11_LeastTurns.j1 kj3 a1 a2 t283 (!t291) t272 t273 t274 t278 t279 t280))) else (rillmeterlaw11_LeastTurns.j1 kj3 a1 a2 t283 true t272 t273 t274 t278 t279 t280))) = some r := by rw [if_pos rfl] at H; exact H
          clear H
          have H := H1
          clear H1
          replace H := Option.bind_eq_some_iff.mp H
          obtain ⟨t290, A180, H⟩ := H
          replace H : (if t285 = t290 then (if (t286 != (decide (t290 < a0_1))) = true then (rillmeterlaw11_LeastTurns.j1 kj3 a1 a2 t283 true t272 t273 t274 t278 t279 t280) else ((least_Right.f kj3 a0_0 a0_1 l0_2).bind fun t291 => (rillmeterlaw11_LeastTurns.j1 kj3 a1 a2 t283 (!t291) t272 t273 t274 t278 t279 t280))) else (rillmeterlaw11_LeastTurns.j1 kj3 a1 a2 t283 true t272 t273 t274 t278 t279 t280)) = some r := H
          have A18 := Aside0.mk A180
          clear A180
          have HC19 := Aside0.mk H
          clear H
          have hcz20_0 : wc.cell? ⟨gb269, 0, none⟩ = some (.int .u64 a0_0) := (blk_cell BK269.out 0).trans rfl
          have hcz20_1 : wc.cell? ⟨gb269, 1, none⟩ = some (.int .i64 a0_1) := (blk_cell BK269.out 1).trans rfl
          have hcz20_2 : wc.cell? ⟨gb269, 2, none⟩ = some (.slice A0_2 l0_2.length c0_2) := (blk_cell BK269.out 2).trans rfl
          have hfz20_0 := blk_frozen BK269.out 0
          have hfz20_1 := blk_frozen BK269.out 1
          have hfz20_2 := blk_frozen BK269.out 2
          go_upto_region 9 with (first | ((with_reducible refine gate_callee (f := 11) rfl ?_); refine goesL_ (some 24) rfl rfl Try.func11 (by kernel_rfl) rfl #[.agg #[.int .u64 a0_0, .int .i64 a0_1, .slice A0_2 l0_2.length c0_2]] rfl (by (try simp only [List.map_toArray, List.map_cons, List.map_nil]); first | done | rfl | (simp only [List.length_drop, List.length_take]; rfl)) ?_; (with_reducible refine (rillmeterlaw11_ref.calls a0_0 a0_1 (fun k_ => k_ < w.heap.size) _ _ l0_2 t272 t273 t274 _ ?side1 A13.out).mono ?_); (case side1 => exact Kd.V_mk HC0_2.out (Kd.F_below (Kd.C_F (Kd.heap_slice 3 (Kd.heap_int .i64)) HR0_2.out) (bl_ HB))); rintro e w21 ⟨v275, rfl, ho0, hb⟩; refine ⟨_, rfl, ?_⟩; have n0_ := Aside0.mk (Kd.V_lower (Kd.V_mono (ok' := fun k_ => k_ ≠ gb269) ho0 (fun k_ hk_ => Or.elim hk_ (fun hs_ => fun e_ => Nat.not_le.2 hs_ (by rw [e_]; exact GW269.out)) (fun hn_ => (Kd.freshB (g := gb269) (o := .cells #[.int .u64 a0_0, .int .i64 a0_1, .slice A0_2 l0_2.length c0_2] 25 (0, 0)) (bk_ BK269) k_ hn_)))) (below_size (bl_ HB))); have n1_ := Aside0.mk (blk_below (bk_ BK269) hb); have n2_ := Aside0.mk (below_step (bl_ HB) hb); clear BK269; clear HB; have HO276 := n0_; have BK269 := n1_; have HB := n2_; clear n0_ n1_ n2_; (try clear hb); (try clear hb2); (try clear hk); (try clear hi); (try clear ho0)) | ((with_reducible refine gate_dst (N := 7) rfl ?_); (try (refine gate_guard (by rfl) ?_; dsimp only)); refine box_event ?hg (N := 7) ?hd (cs := #[.int .u64 0, .int .i64 0, .slice none 0 0]) (t := 30) ?hr ?_; (case hd => rfl); (case hg => rfl); (case hr => first | (go_simp; done) | (go_simp; rfl)); intro gb277 hg w22 hbox hb; have n0_ := Aside0.mk (Kd.V_below (Kd.V_elderB (by (with_reducible repeat (first | apply Kd.V_alloc | apply Kd.V_drewN | apply Kd.V_drew)); exact HO276.out) gb277 (Nat.le_of_eq hg.symm)) hb); have n1_ := Aside0.mk (blk_below (bk_ BK269) hb); have n2_ := Aside0.mk (below_step (bl_ HB) hb); have n3_ := Aside0.mk (hbox); have n4_ := Aside0.mk ((by rw [hg]; exact (below_size (bl_ HB)) : w.heap.size ≤ gb277)); have n5_ := Aside0.mk ((by rw [hg]; exact (below_size (bl_ HB)) : w.heap.size ≤ gb277)); have n6_ := Aside0.mk ((by rw [hg]; exact Nat.ne_of_lt (blk_lt (g := gb269) (o := .cells #[.int .u64 a0_0, .int .i64 a0_1, .slice A0_2 l0_2.length c0_2] 25 (0, 0)) (bk_ BK269)) : gb269 ≠ gb277)); have n7_ := Aside0.mk ((by rw [hg]; exact Nat.ne_of_gt (blk_lt (g := gb269) (o := .cells #[.int .u64 a0_0, .int .i64 a0_1, .slice A0_2 l0_2.length c0_2] 25 (0, 0)) (bk_ BK269)) : gb277 ≠ gb269)); clear HO276; clear BK269; clear HB; have HO276 := n0_; have BK269 := n1_; have HB := n2_; have BK277 := n3_; have GW277 := n4_; have GE277 := n5_; have NB269_277 := n6_; have NB277_269 := n7_; clear n0_ n1_ n2_ n3_ n4_ n5_ n6_ n7_; clear hb hbox hg; have hnb23 := NB277_269.out; have hnc23 := NB269_277.out; have hcz24_0 : w22.cell? ⟨gb277, 0, none⟩ = some (.int .u64 0) := (blk_cell BK277.out 0).trans rfl; have hcz24_1 : w22.cell? ⟨gb277, 1, none⟩ = some (.int .i64 0) := (blk_cell BK277.out 1).trans rfl; have hcz24_2 : w22.cell? ⟨gb277, 2, none⟩ = some (.slice none 0 0) := (blk_cell BK277.out 2).trans rfl; have hfz24_0 := blk_frozen BK277.out 0; have hfz24_1 := blk_frozen BK277.out 1; have hfz24_2 := blk_frozen BK277.out 2; obtain ⟨Ao25, co25, eo25⟩ := Kd.V_slice HO276.out; subst eo25; have hcz26_0 : w22.cell? ⟨gb269, 0, none⟩ = some (.int .u64 a0_0) := (blk_cell BK269.out 0).trans rfl; have hcz26_1 : w22.cell? ⟨gb269, 1, none⟩ = some (.int .i64 a0_1) := (blk_cell BK269.out 1).trans rfl; have hcz26_2 : w22.cell? ⟨gb269, 2, none⟩ = some (.slice A0_2 l0_2.length c0_2) := (blk_cell BK269.out 2).trans rfl; have hfz26_0 := blk_frozen BK269.out 0; have hfz26_1 := blk_frozen BK269.out 1; have hfz26_2 := blk_frozen BK269.out 2) | ((with_reducible refine gate_callee (f := 15) rfl ?_); refine goesL_ (some 29) rfl rfl Try.func15 (by kernel_rfl) rfl #[.agg #[.int .u64 a0_0, .int .i64 a0_1, .slice A0_2 l0_2.length c0_2], .string a1, .int .i64 a2] rfl (by (try simp only [List.map_toArray, List.map_cons, List.map_nil]); first | done | rfl | (simp only [List.length_drop, List.length_take]; rfl)) ?_; (with_reducible refine (least_Add.calls kj3 a0_0 a0_1 _ _ l0_2 a1 a2 t278 t279 t280 t283 _ ?side1 ?side2 A14.out).mono ?_); (case side1 => exact Kd.C_below HR0_2.out (bl_ HB)); (case side2 => exact HC0_2.out); rintro e w27 ⟨v281, rfl, ho0, hb⟩; refine ⟨_, rfl, ?_⟩; have n0_ := Aside0.mk (Kd.V_elder' (by (with_reducible repeat (first | apply Kd.V_alloc | apply Kd.V_drewN | apply Kd.V_drew)); exact (Kd.V_mono (Kd.V_far (p := ⟨gb277, 2, none⟩) (Kd.V_far (p := ⟨gb277, 1, none⟩) (Kd.V_far (p := ⟨gb277, 0, none⟩) (Kd.V_mono HO276.out (fun k_ hk => (⟨hk, hk.2⟩ : _ ∧ k_ ≠ gb277))) (fun _ hk => hk.2) (.int .u64 t272)) (fun _ hk => hk.2) (.int .i64 t273)) (fun _ hk => hk.2) (.slice Ao25 t274.length co25)) (fun _ h_ => h_.1))) (Kd.S_base ho0) hb); have n1_ := Aside0.mk (Kd.S_lower ho0 (below_size (bl_ HB))); have n2_ := Aside0.mk (blk_below (g := gb269) (o := .cells #[.int .u64 a0_0, .int .i64 a0_1, .slice A0_2 l0_2.length c0_2] 25 (0, 0)) (by (with_reducible repeat (first | refine blk_drewN ?_ _ | refine blk_drew ?_ | refine blk_alloc ?_ _)); refine blk_far ?_ NB269_277.out _; (with_reducible repeat (first | refine blk_drewN ?_ _ | refine blk_drew ?_ | refine blk_alloc ?_ _)); refine blk_far ?_ NB269_277.out _; (with_reducible repeat (first | refine blk_drewN ?_ _ | refine blk_drew ?_ | refine blk_alloc ?_ _)); refine blk_far ?_ NB269_277.out _; (with_reducible repeat (first | refine blk_drewN ?_ _ | refine blk_drew ?_ | refine blk_alloc ?_ _)); exact BK269.out) hb); have n3_ := Aside0.mk (blk_below (g := gb277) (o := .cells #[.int .u64 t272, .int .i64 t273, .slice Ao25 t274.length co25] 30 (0, 0)) (by (with_reducible repeat (first | refine blk_drewN ?_ _ | refine blk_drew ?_ | refine blk_alloc ?_ _)); refine blk_put (cs := #[.int .u64 t272, .int .i64 t273, .slice none 0 0]) ?_ 2 _ rfl; (with_reducible repeat (first | refine blk_drewN ?_ _ | refine blk_drew ?_ | refine blk_alloc ?_ _)); refine blk_put (cs := #[.int .u64 t272, .int .i64 0, .slice none 0 0]) ?_ 1 _ rfl; (with_reducible repeat (first | refine blk_drewN ?_ _ | refine blk_drew ?_ | refine blk_alloc ?_ _)); refine blk_put (cs := #[.int .u64 0, .int .i64 0, .slice none 0 0]) ?_ 0 _ rfl; (with_reducible repeat (first | refine blk_drewN ?_ _ | refine blk_drew ?_ | refine blk_alloc ?_ _)); exact BK277.out) hb); have n4_ := Aside0.mk (below_step (bl_ HB) hb); clear HO276; clear BK269; clear BK277; clear HB; have HO276 := n0_; have HO282 := n1_; have BK269 := n2_; have BK277 := n3_; have HB := n4_; clear n0_ n1_ n2_ n3_ n4_; (try clear hb); (try clear hb2); (try clear hk); (try clear hi); (try clear ho0)) | ((with_reducible refine gate_dst (N := 8) rfl ?_); (try (refine gate_guard (by rfl) ?_; dsimp only)); refine box_event ?hg (N := 8) ?hd (cs := #[.int .u64 0, .int .i64 0, .slice none 0 0]) (t := 25) ?hr ?_; (case hd => rfl); (case hg => rfl); (case hr => first | (go_simp; done) | (go_simp; rfl)); intro gb284 hg w28 hbox hb; have n0_ := Aside0.mk (Kd.V_below (Kd.V_elderB (by (with_reducible repeat (first | apply Kd.V_alloc | apply Kd.V_drewN | apply Kd.V_drew)); exact HO276.out) gb284 (Nat.le_of_eq hg.symm)) hb); have n1_ := Aside0.mk (Kd.S_below (by (with_reducible repeat (first | apply Kd.S_alloc | apply Kd.S_drewN | apply Kd.S_drew)); exact HO282.out) hb); have n2_ := Aside0.mk (blk_below (bk_ BK269) hb); have n3_ := Aside0.mk (blk_below (bk_ BK277) hb); have n4_ := Aside0.mk (below_step (bl_ HB) hb); have n5_ := Aside0.mk (hbox); have n6_ := Aside0.mk ((by rw [hg]; exact (below_size (bl_ HB)) : w.heap.size ≤ gb284)); have n7_ := Aside0.mk ((by rw [hg]; exact (below_size (bl_ HB)) : w.heap.size ≤ gb284)); have n8_ := Aside0.mk ((by rw [hg]; exact Nat.ne_of_lt (blk_lt (g := gb269) (o := .cells #[.int .u64 a0_0, .int .i64 a0_1, .slice A0_2 l0_2.length c0_2] 25 (0, 0)) (bk_ BK269)) : gb269 ≠ gb284)); have n9_ := Aside0.mk ((by rw [hg]; exact Nat.ne_of_gt (blk_lt (g := gb269) (o := .cells #[.int .u64 a0_0, .int .i64 a0_1, .slice A0_2 l0_2.length c0_2] 25 (0, 0)) (bk_ BK269)) : gb284 ≠ gb269)); have n10_ := Aside0.mk ((by rw [hg]; exact Nat.ne_of_lt (blk_lt (g := gb277) (o := .cells #[.int .u64 t272, .int .i64 t273, .slice Ao25 t274.length co25] 30 (0, 0)) (bk_ BK277)) : gb277 ≠ gb284)); have n11_ := Aside0.mk ((by rw [hg]; exact Nat.ne_of_gt (blk_lt (g := gb277) (o := .cells #[.int .u64 t272, .int .i64 t273, .slice Ao25 t274.length co25] 30 (0, 0)) (bk_ BK277)) : gb284 ≠ gb277)); clear HO276; clear HO282; clear BK269; clear BK277; clear HB; have HO276 := n0_; have HO282 := n1_; have BK269 := n2_; have BK277 := n3_; have HB := n4_; have BK284 := n5_; have GW284 := n6_; have GE284 := n7_; have NB269_284 := n8_; have NB284_269 := n9_; have NB277_284 := n10_; have NB284_277 := n11_; clear n0_ n1_ n2_ n3_ n4_ n5_ n6_ n7_ n8_ n9_ n10_ n11_; clear hb hbox hg; have hnb29 := NB284_269.out; have hnc29 := NB269_284.out; have hnb30 := NB284_277.out; have hnc30 := NB277_284.out; have hcz31_0 : w28.cell? ⟨gb284, 0, none⟩ = some (.int .u64 0) := (blk_cell BK284.out 0).trans rfl; have hcz31_1 : w28.cell? ⟨gb284, 1, none⟩ = some (.int .i64 0) := (blk_cell BK284.out 1).trans rfl; have hcz31_2 : w28.cell? ⟨gb284, 2, none⟩ = some (.slice none 0 0) := (blk_cell BK284.out 2).trans rfl; have hfz31_0 := blk_frozen BK284.out 0; have hfz31_1 := blk_frozen BK284.out 1; have hfz31_2 := blk_frozen BK284.out 2; obtain ⟨Ao32, co32, eo32⟩ := Kd.S_slice HO282.out; subst eo32; have hcz33_0 : w28.cell? ⟨gb269, 0, none⟩ = some (.int .u64 a0_0) := (blk_cell BK269.out 0).trans rfl; have hcz33_1 : w28.cell? ⟨gb269, 1, none⟩ = some (.int .i64 a0_1) := (blk_cell BK269.out 1).trans rfl; have hcz33_2 : w28.cell? ⟨gb269, 2, none⟩ = some (.slice A0_2 l0_2.length c0_2) := (blk_cell BK269.out 2).trans rfl; have hfz33_0 := blk_frozen BK269.out 0; have hfz33_1 := blk_frozen BK269.out 1; have hfz33_2 := blk_frozen BK269.out 2) | ((with_reducible refine gate_callee (f := 16) rfl ?_); refine goesL_ (some 35) rfl rfl Try.func16 (by kernel_rfl) rfl #[.agg #[.int .u64 a0_0, .int .i64 a0_1, .slice A0_2 l0_2.length c0_2], .string a1] rfl (by (try simp only [List.map_toArray, List.map_cons, List.map_nil]); first | done | rfl | (simp only [List.length_drop, List.length_take]; rfl)) ?_; (with_reducible refine (least_Get.calls kj3 a0_0 a0_1 _ _ l0_2 a1 t285 t286 _ ?side1 ?side2 A15.out).mono ?_); (case side1 => exact Kd.C_below HR0_2.out (bl_ HB)); (case side2 => exact HC0_2.out); rintro e w34 ⟨rfl, hb⟩; refine ⟨_, rfl, ?_⟩; have n0_ := Aside0.mk (Kd.V_below (by (with_reducible repeat (first | apply Kd.V_alloc | apply Kd.V_drewN | apply Kd.V_drew)); exact (Kd.V_mono (Kd.V_far (p := ⟨gb284, 2, none⟩) (Kd.V_far (p := ⟨gb284, 1, none⟩) (Kd.V_far (p := ⟨gb284, 0, none⟩) (Kd.V_mono HO276.out (fun k_ hk => (⟨hk, hk.2⟩ : _ ∧ k_ ≠ gb284))) (fun _ hk => hk.2) (.int .u64 t278)) (fun _ hk => hk.2) (.int .i64 t279)) (fun _ hk => hk.2) (.slice Ao32 t280.length co32)) (fun _ h_ => h_.1))) hb); have n1_ := Aside0.mk (Kd.S_below (by (with_reducible repeat (first | apply Kd.S_alloc | apply Kd.S_drewN | apply Kd.S_drew)); exact (Kd.S_mono (Kd.S_far (p := ⟨gb284, 2, none⟩) (Kd.S_far (p := ⟨gb284, 1, none⟩) (Kd.S_far (p := ⟨gb284, 0, none⟩) (Kd.S_types HO282.out BK284.out (by decide)) (fun _ hk => hk.2) (.int .u64 t278)) (fun _ hk => hk.2) (.int .i64 t279)) (fun _ hk => hk.2) (.slice Ao32 t280.length co32)) (fun _ h_ => h_.1))) hb); have n2_ := Aside0.mk (blk_below (g := gb269) (o := .cells #[.int .u64 a0_0, .int .i64 a0_1, .slice A0_2 l0_2.length c0_2] 25 (0, 0)) (by (with_reducible repeat (first | refine blk_drewN ?_ _ | refine blk_drew ?_ | refine blk_alloc ?_ _)); refine blk_far ?_ NB269_284.out _; (with_reducible repeat (first | refine blk_drewN ?_ _ | refine blk_drew ?_ | refine blk_alloc ?_ _)); refine blk_far ?_ NB269_284.out _; (with_reducible repeat (first | refine blk_drewN ?_ _ | refine blk_drew ?_ | refine blk_alloc ?_ _)); refine blk_far ?_ NB269_284.out _; (with_reducible repeat (first | refine blk_drewN ?_ _ | refine blk_drew ?_ | refine blk_alloc ?_ _)); exact BK269.out) hb); have n3_ := Aside0.mk (blk_below (g := gb277) (o := .cells #[.int .u64 t272, .int .i64 t273, .slice Ao25 t274.length co25] 30 (0, 0)) (by (with_reducible repeat (first | refine blk_drewN ?_ _ | refine blk_drew ?_ | refine blk_alloc ?_ _)); refine blk_far ?_ NB277_284.out _; (with_reducible repeat (first | refine blk_drewN ?_ _ | refine blk_drew ?_ | refine blk_alloc ?_ _)); refine blk_far ?_ NB277_284.out _; (with_reducible repeat (first | refine blk_drewN ?_ _ | refine blk_drew ?_ | refine blk_alloc ?_ _)); refine blk_far ?_ NB277_284.out _; (with_reducible repeat (first | refine blk_drewN ?_ _ | refine blk_drew ?_ | refine blk_alloc ?_ _)); exact BK277.out) hb); have n4_ := Aside0.mk (blk_below (g := gb284) (o := .cells #[.int .u64 t278, .int .i64 t279, .slice Ao32 t280.length co32] 25 (0, 0)) (by (with_reducible repeat (first | refine blk_drewN ?_ _ | refine blk_drew ?_ | refine blk_alloc ?_ _)); refine blk_put (cs := #[.int .u64 t278, .int .i64 t279, .slice none 0 0]) ?_ 2 _ rfl; (with_reducible repeat (first | refine blk_drewN ?_ _ | refine blk_drew ?_ | refine blk_alloc ?_ _)); refine blk_put (cs := #[.int .u64 t278, .int .i64 0, .slice none 0 0]) ?_ 1 _ rfl; (with_reducible repeat (first | refine blk_drewN ?_ _ | refine blk_drew ?_ | refine blk_alloc ?_ _)); refine blk_put (cs := #[.int .u64 0, .int .i64 0, .slice none 0 0]) ?_ 0 _ rfl; (with_reducible repeat (first | refine blk_drewN ?_ _ | refine blk_drew ?_ | refine blk_alloc ?_ _)); exact BK284.out) hb); have n5_ := Aside0.mk (below_step (bl_ HB) hb); clear HO276; clear HO282; clear BK269; clear BK277; clear BK284; clear HB; have HO276 := n0_; have HO282 := n1_; have BK269 := n2_; have BK277 := n3_; have BK284 := n4_; have HB := n5_; clear n0_ n1_ n2_ n3_ n4_ n5_; (try clear hb); (try clear hb2); (try clear hk); (try clear hi); have hcz35_0 : w34.cell? ⟨gb277, 0, none⟩ = some (.int .u64 t272) := (blk_cell BK277.out 0).trans rfl; have hcz35_1 : w34.cell? ⟨gb277, 1, none⟩ = some (.int .i64 t273) := (blk_cell BK277.out 1).trans rfl; have hcz35_2 : w34.cell? ⟨gb277, 2, none⟩ = some (.slice Ao25 t274.length co25) := (blk_cell BK277.out 2).trans rfl; have hfz35_0 := blk_frozen BK277.out 0; have hfz35_1 := blk_frozen BK277.out 1; have hfz35_2 := blk_frozen BK277.out 2) | ((with_reducible refine gate_callee (f := 13) rfl ?_); refine goesL_ (some 39) rfl rfl Try.func13 (by kernel_rfl) rfl #[.agg #[.int .u64 t272, .int .i64 t273, .slice Ao25 t274.length co25]] rfl (by (try simp only [List.map_toArray, List.map_cons, List.map_nil]); first | done | rfl | (simp only [List.length_drop, List.length_take]; rfl)) ?_; (with_reducible refine (rillmeterref11_Right.calls kj3 t272 t273 _ _ t274 true _ ?side1 ?side2 A16.out).mono ?_); (case side1 => repeat (first | exact (Kd.V_reads' HO276.out).2.2 | (with_reducible refine Kd.C_alloc ?_ _) | (with_reducible refine Kd.C_drewN ?_ _) | (with_reducible refine Kd.C_drew ?_))); (case side2 => exact (Kd.V_reads' HO276.out).2.1); rintro e w36 ⟨rfl, hb⟩; refine ⟨_, rfl, ?_⟩; have n0_ := Aside0.mk (Kd.V_below (by (with_reducible repeat (first | apply Kd.V_alloc | apply Kd.V_drewN | apply Kd.V_drew)); exact HO276.out) hb); have n1_ := Aside0.mk (Kd.S_below (by (with_reducible repeat (first | apply Kd.S_alloc | apply Kd.S_drewN | apply Kd.S_drew)); exact HO282.out) hb); have n2_ := Aside0.mk (blk_below (bk_ BK269) hb); have n3_ := Aside0.mk (blk_below (bk_ BK277) hb); have n4_ := Aside0.mk (blk_below (bk_ BK284) hb); have n5_ := Aside0.mk (below_step (bl_ HB) hb); clear HO276; clear HO282; clear BK269; clear BK277; clear BK284; clear HB; have HO276 := n0_; have HO282 := n1_; have BK269 := n2_; have BK277 := n3_; have BK284 := n4_; have HB := n5_; clear n0_ n1_ n2_ n3_ n4_ n5_; (try clear hb); (try clear hb2); (try clear hk); (try clear hi); have hcz37_0 : w36.cell? ⟨gb277, 0, none⟩ = some (.int .u64 t272) := (blk_cell BK277.out 0).trans rfl; have hcz37_1 : w36.cell? ⟨gb277, 1, none⟩ = some (.int .i64 t273) := (blk_cell BK277.out 1).trans rfl; have hcz37_2 : w36.cell? ⟨gb277, 2, none⟩ = some (.slice Ao25 t274.length co25) := (blk_cell BK277.out 2).trans rfl; have hfz37_0 := blk_frozen BK277.out 0; have hfz37_1 := blk_frozen BK277.out 1; have hfz37_2 := blk_frozen BK277.out 2) | ((with_reducible refine gate_callee (f := 18) rfl ?_); refine goesL_ (some 67) rfl rfl Try.func18 (by kernel_rfl) rfl #[.agg #[.int .u64 t272, .int .i64 t273, .slice Ao25 t274.length co25], .string a1] rfl (by (try simp only [List.map_toArray, List.map_cons, List.map_nil]); first | done | rfl | (simp only [List.length_drop, List.length_take]; rfl)) ?_; (with_reducible refine (rillmeterref11_Get.calls kj3 t272 t273 _ _ t274 a1 t290 _ ?side1 ?side2 A18.out).mono ?_); (case side1 => repeat (first | exact (Kd.V_reads' HO276.out).2.2 | (with_reducible refine Kd.C_alloc ?_ _) | (with_reducible refine Kd.C_drewN ?_ _) | (with_reducible refine Kd.C_drew ?_))); (case side2 => exact (Kd.V_reads' HO276.out).2.1); rintro e w38 ⟨rfl, hb⟩; refine ⟨_, rfl, ?_⟩; have n0_ := Aside0.mk (Kd.V_below (by (with_reducible repeat (first | apply Kd.V_alloc | apply Kd.V_drewN | apply Kd.V_drew)); exact HO276.out) hb); have n1_ := Aside0.mk (Kd.S_below (by (with_reducible repeat (first | apply Kd.S_alloc | apply Kd.S_drewN | apply Kd.S_drew)); exact HO282.out) hb); have n2_ := Aside0.mk (blk_below (bk_ BK269) hb); have n3_ := Aside0.mk (blk_below (bk_ BK277) hb); have n4_ := Aside0.mk (blk_below (bk_ BK284) hb); have n5_ := Aside0.mk (below_step (bl_ HB) hb); clear HO276; clear HO282; clear BK269; clear BK277; clear BK284; clear HB; have HO276 := n0_; have HO282 := n1_; have BK269 := n2_; have BK277 := n3_; have BK284 := n4_; have HB := n5_; clear n0_ n1_ n2_ n3_ n4_ n5_; (try clear hb); (try clear hb2); (try clear hk); (try clear hi)))
          (try simp only [Act.put, List.setIfInBounds_toArray, List.set_cons_zero, List.set_cons_succ])
          go_cut [83] (fun v83 wc => ∃ (kq : Nat) (x83_18 : Bool), v83 = .bool x83_18 ∧ Aside0 (rillmeterlaw11_LeastTurns.j1 kq a1 a2 t283 x83_18 t272 t273 t274 t278 t279 t280 = some r) ∧ Aside0 (kq ≤ kj3) ∧ Aside0 (Kd.V (Kd.slice 3 (Kd.int .i64)) 33 wc w.heap.size (fun k_ => some k_ ≠ ((.slice Ao32 t280.length co32) : Value).ownBlock ∧ k_ ≠ gb269 ∧ k_ ≠ gb277 ∧ k_ ≠ gb284) (.slice Ao25 t274.length co25) t274) ∧ Aside0 (Kd.S (Kd.slice 3 (Kd.int .i64)) 33 wc w.heap.size (fun _ => True) (.slice Ao32 t280.length co32) t280) ∧ Aside0 (wc.heap[gb269]? = some (.cells #[.int .u64 a0_0, .int .i64 a0_1, (.slice A0_2 l0_2.length c0_2)] 25 (0, 0))) ∧ Aside0 (wc.heap[gb277]? = some (.cells #[.int .u64 t272, .int .i64 t273, (.slice Ao25 t274.length co25)] 30 (0, 0))) ∧ Aside0 (wc.heap[gb284]? = some (.cells #[.int .u64 t278, .int .i64 t279, (.slice Ao32 t280.length co32)] 25 (0, 0))) ∧ Aside0 (Below w.heap.size w wc))
          case first =>
            have H := HC19.out
            clear HC19
            by_cases c39 : t285 = t290
            · rw [if_pos c39] at H
              have c39b0 : (t285 == t290) = true := beq_iff_eq.mpr c39
              have c39b1 : (t285 != t290) = false := bne_eq_false_iff_eq.mpr c39
              clear c39
              (first | rw [c39b0] | (simp only [i64_w, i32_w]; rw [c39b0]) | skip)
              by_cases c40 : (t286 != (decide (t290 < a0_1))) = true
              · rw [if_pos c40] at H
                have c40b0 : (t286 != (decide (t290 < a0_1))) = true := c40
                (try (have c40b1 : decide (t286 = (decide (t290 < a0_1))) = false := by simpa using c40))
                (try (have c40b2 : (t286 == (decide (t290 < a0_1))) = false := by simpa using c40))
                (try (have c40b3 : ¬ (t286 = (decide (t290 < a0_1))) := by simpa using c40))
                clear c40
                have H' := Aside0.mk H
                clear H
                have hnb41 := NB269_277.out
                have hnc41 := NB277_269.out
                have hnb42 := NB269_284.out
                have hnc42 := NB284_269.out
                have hcz43_0 : w38.cell? ⟨gb269, 0, none⟩ = some (.int .u64 a0_0) := (blk_cell BK269.out 0).trans rfl
                have hcz43_1 : w38.cell? ⟨gb269, 1, none⟩ = some (.int .i64 a0_1) := (blk_cell BK269.out 1).trans rfl
                have hcz43_2 : w38.cell? ⟨gb269, 2, none⟩ = some (.slice A0_2 l0_2.length c0_2) := (blk_cell BK269.out 2).trans rfl
                have hfz43_0 := blk_frozen BK269.out 0
                have hfz43_1 := blk_frozen BK269.out 1
                have hfz43_2 := blk_frozen BK269.out 2
                go_wp2
                go_meet
                case rel => exact ⟨_, (true), (by first | rfl | (simp; done) | (simp [*]; done)), H', ⟨by have := HJ3.out; first | omega | exact Nat.le_refl _⟩, ⟨by (with_reducible repeat (first | apply Kd.V_alloc | apply Kd.V_drewN | apply Kd.V_drew)); exact Kd.V_mono HO276.out (fun _ hk => ⟨hk.1.2, ⟨hk.1.1.1, ⟨hk.1.1.2, hk.2⟩⟩⟩)⟩, ⟨by (with_reducible repeat (first | apply Kd.S_alloc | apply Kd.S_drewN | apply Kd.S_drew)); exact HO282.out⟩, ⟨bk_ BK269⟩, ⟨bk_ BK277⟩, ⟨bk_ BK284⟩, ⟨bl_ HB⟩⟩
              · rw [if_neg c40] at H
                have c40b0 : (t286 != (decide (t290 < a0_1))) = false := by simpa using c40
                (try (have c40b1 : decide (t286 = (decide (t290 < a0_1))) = true := by simpa using c40))
                (try (have c40b2 : (t286 == (decide (t290 < a0_1))) = true := by simpa using c40))
                clear c40
                replace H := Option.bind_eq_some_iff.mp H
                obtain ⟨t291, A440, H⟩ := H
                replace H : (rillmeterlaw11_LeastTurns.j1 kj3 a1 a2 t283 (!t291) t272 t273 t274 t278 t279 t280) = some r := H
                have A44 := Aside0.mk A440
                clear A440
                have H' := Aside0.mk H
                clear H
                have hnb45 := NB269_277.out
                have hnc45 := NB277_269.out
                have hnb46 := NB269_284.out
                have hnc46 := NB284_269.out
                have hcz47_0 : w38.cell? ⟨gb269, 0, none⟩ = some (.int .u64 a0_0) := (blk_cell BK269.out 0).trans rfl
                have hcz47_1 : w38.cell? ⟨gb269, 1, none⟩ = some (.int .i64 a0_1) := (blk_cell BK269.out 1).trans rfl
                have hcz47_2 : w38.cell? ⟨gb269, 2, none⟩ = some (.slice A0_2 l0_2.length c0_2) := (blk_cell BK269.out 2).trans rfl
                have hfz47_0 := blk_frozen BK269.out 0
                have hfz47_1 := blk_frozen BK269.out 1
                have hfz47_2 := blk_frozen BK269.out 2
                go_wp2_with (first | (go_at_call 17; (with_reducible refine (least_Right.calls kj3 a0_0 a0_1 _ _ l0_2 t291 _ ?side1 ?side2 A44.out).mono ?_); (case side1 => repeat (first | exact (Kd.C_below HR0_2.out HB.out) | (with_reducible refine Kd.C_alloc ?_ _) | (with_reducible refine Kd.C_drewN ?_ _) | (with_reducible refine Kd.C_drew ?_))); (case side2 => exact HC0_2.out); rintro e w48 ⟨rfl, hb⟩; have n0_ := Aside0.mk (Kd.V_below (by (with_reducible repeat (first | apply Kd.V_alloc | apply Kd.V_drewN | apply Kd.V_drew)); exact HO276.out) hb); have n1_ := Aside0.mk (Kd.S_below (by (with_reducible repeat (first | apply Kd.S_alloc | apply Kd.S_drewN | apply Kd.S_drew)); exact HO282.out) hb); have n2_ := Aside0.mk (blk_below (bk_ BK269) hb); have n3_ := Aside0.mk (blk_below (bk_ BK277) hb); have n4_ := Aside0.mk (blk_below (bk_ BK284) hb); have n5_ := Aside0.mk (below_step (bl_ HB) hb); clear HO276; clear HO282; clear BK269; clear BK277; clear BK284; clear HB; have HO276 := n0_; have HO282 := n1_; have BK269 := n2_; have BK277 := n3_; have BK284 := n4_; have HB := n5_; clear n0_ n1_ n2_ n3_ n4_ n5_; (try clear hb); (try clear hb2); (try clear hk); (try clear hi)))
                go_meet
                case rel => exact ⟨_, (!t291), (by first | rfl | (simp; done) | (simp [*]; done)), H', ⟨by have := HJ3.out; first | omega | exact Nat.le_refl _⟩, ⟨by (with_reducible repeat (first | apply Kd.V_alloc | apply Kd.V_drewN | apply Kd.V_drew)); exact Kd.V_mono HO276.out (fun _ hk => ⟨hk.1.2, ⟨hk.1.1.1, ⟨hk.1.1.2, hk.2⟩⟩⟩)⟩, ⟨by (with_reducible repeat (first | apply Kd.S_alloc | apply Kd.S_drewN | apply Kd.S_drew)); exact HO282.out⟩, ⟨bk_ BK269⟩, ⟨bk_ BK277⟩, ⟨bk_ BK284⟩, ⟨bl_ HB⟩⟩
            · rw [if_neg c39] at H
              have c39b0 : (t285 == t290) = false := beq_eq_false_iff_ne.mpr c39
              have c39b1 : (t285 != t290) = true := bne_iff_ne.mpr c39
              (first | rw [c39b0] | (simp only [i64_w, i32_w]; rw [c39b0]) | skip)
              have H' := Aside0.mk H
              clear H
              go_wp2
              go_meet
              case rel => exact ⟨_, (true), (by first | rfl | (simp; done) | (simp [*]; done)), H', ⟨by have := HJ3.out; first | omega | exact Nat.le_refl _⟩, ⟨by (with_reducible repeat (first | apply Kd.V_alloc | apply Kd.V_drewN | apply Kd.V_drew)); exact Kd.V_mono HO276.out (fun _ hk => ⟨hk.1.2, ⟨hk.1.1.1, ⟨hk.1.1.2, hk.2⟩⟩⟩)⟩, ⟨by (with_reducible repeat (first | apply Kd.S_alloc | apply Kd.S_drewN | apply Kd.S_drew)); exact HO282.out⟩, ⟨bk_ BK269⟩, ⟨bk_ BK277⟩, ⟨bk_ BK284⟩, ⟨bl_ HB⟩⟩
          case rest =>
            clear HC19
            try clear c1
            try clear c2
            try clear p2
            try clear c3
            try clear c4
            try clear c7
            try clear c10
            try clear c11
            try clear c12
            try clear c13
            try clear c14
            try clear c15
            try clear c16
            try clear c17
            try clear c18
            try clear c23
            try clear c29
            try clear c30
            try clear c39
            try clear c39b0
            try clear c39b1
            try clear c40
            try clear c40b0
            try clear c40b1
            try clear c40b2
            try clear c41
            try clear c42
            try clear c45
            try clear c46
            try clear hcz20_0
            try clear hcz20_1
            try clear hcz20_2
            try clear hcz24_0
            try clear hcz24_1
            try clear hcz24_2
            try clear hcz26_0
            try clear hcz26_1
            try clear hcz26_2
            try clear hcz31_0
            try clear hcz31_1
            try clear hcz31_2
            try clear hcz33_0
            try clear hcz33_1
            try clear hcz33_2
            try clear hcz35_0
            try clear hcz35_1
            try clear hcz35_2
            try clear hcz37_0
            try clear hcz37_1
            try clear hcz37_2
            try clear hcz43_0
            try clear hcz43_1
            try clear hcz43_2
            try clear hcz47_0
            try clear hcz47_1
            try clear hcz47_2
            try clear hcz8_0
            try clear hcz8_1
            try clear hcz8_2
            try clear hcz9_0
            try clear hcz9_1
            try clear hcz9_2
            try clear hfz20_0
            try clear hfz20_1
            try clear hfz20_2
            try clear hfz24_0
            try clear hfz24_1
            try clear hfz24_2
            try clear hfz26_0
            try clear hfz26_1
            try clear hfz26_2
            try clear hfz31_0
            try clear hfz31_1
            try clear hfz31_2
            try clear hfz33_0
            try clear hfz33_1
            try clear hfz33_2
            try clear hfz35_0
            try clear hfz35_1
            try clear hfz35_2
            try clear hfz37_0
            try clear hfz37_1
            try clear hfz37_2
            try clear hfz43_0
            try clear hfz43_1
            try clear hfz43_2
            try clear hfz47_0
            try clear hfz47_1
            try clear hfz47_2
            try clear hfz8_0
            try clear hfz8_1
            try clear hfz8_2
            try clear hfz9_0
            try clear hfz9_1
            try clear hfz9_2
            try clear p2
            obtain ⟨kq, x83_18, rfl, HA, HJ18, HO_278002, HO_285002, BK269, BK277, BK284, HB⟩ := hcut
            cases kq with
            | zero => exact absurd HA.out (by simp [rillmeterlaw11_LeastTurns.j1])
            | succ kj18 =>
              have H := HA.out
              clear HA
              simp only [rillmeterlaw11_LeastTurns.j1] at H
              by_cases c49 : x83_18 = true
              · subst c49
                have H1 : (some false) = some r := by rw [if_pos rfl] at H; exact H
                clear H
                have H := H1
                clear H1
                exact absurd ((Option.some.inj H).trans hrt.out) (by decide)
              · replace c49 := Bool.eq_false_iff.mpr c49
                subst c49
                have H1 : (if a2 < 0 then (rillmeterlaw11_LeastTurns.j2 kj18 a1 a2 t283 true t272 t273 t274 t278 t279 t280) else (rillmeterlaw11_LeastTurns.j2 kj18 a1 a2 t283 (decide (a2 > 1099511627776)) t272 t273 t274 t278 t279 t280)) = some r := by rw [if_neg (show ¬ (false = true) by decide)] at H; exact H
                clear H
                have H := H1
                clear H1
                have HC50 := Aside0.mk H
                clear H
                go_upto_region 11 with (fail)
                go_cut [89] (fun v89 wc => ∃ (kq : Nat) (x89_49 : Bool), v89 = .bool x89_49 ∧ Aside0 (rillmeterlaw11_LeastTurns.j2 kq a1 a2 t283 x89_49 t272 t273 t274 t278 t279 t280 = some r) ∧ Aside0 (kq ≤ kj18) ∧ Aside0 (Kd.V (Kd.slice 3 (Kd.int .i64)) 33 wc w.heap.size (fun k_ => some k_ ≠ ((.slice Ao32 t280.length co32) : Value).ownBlock ∧ k_ ≠ gb269 ∧ k_ ≠ gb277 ∧ k_ ≠ gb284) (.slice Ao25 t274.length co25) t274) ∧ Aside0 (Kd.S (Kd.slice 3 (Kd.int .i64)) 33 wc w.heap.size (fun _ => True) (.slice Ao32 t280.length co32) t280) ∧ Aside0 (wc.heap[gb269]? = some (.cells #[.int .u64 a0_0, .int .i64 a0_1, (.slice A0_2 l0_2.length c0_2)] 25 (0, 0))) ∧ Aside0 (wc.heap[gb277]? = some (.cells #[.int .u64 t272, .int .i64 t273, (.slice Ao25 t274.length co25)] 30 (0, 0))) ∧ Aside0 (wc.heap[gb284]? = some (.cells #[.int .u64 t278, .int .i64 t279, (.slice Ao32 t280.length co32)] 25 (0, 0))) ∧ Aside0 (Below w.heap.size w wc))
                case first =>
                  have H := HC50.out
                  clear HC50
                  by_cases c51 : a2 < 0
                  · rw [if_pos c51] at H
                    have c51b0 : decide (a2 < 0) = true := decide_eq_true c51
                    clear c51
                    (first | rw [c51b0] | (simp only [i64_w, i32_w]; rw [c51b0]) | skip)
                    have H' := Aside0.mk H
                    clear H
                    go_wp2
                    go_meet
                    case rel => exact ⟨_, (true), (by first | rfl | (simp; done) | (simp [*]; done)), H', ⟨by have := HJ3.out; have := HJ18.out; first | omega | exact Nat.le_refl _⟩, ⟨by (with_reducible repeat (first | apply Kd.V_alloc | apply Kd.V_drewN | apply Kd.V_drew)); exact HO_278002.out⟩, ⟨by (with_reducible repeat (first | apply Kd.S_alloc | apply Kd.S_drewN | apply Kd.S_drew)); exact HO_285002.out⟩, ⟨bk_ BK269⟩, ⟨bk_ BK277⟩, ⟨bk_ BK284⟩, ⟨bl_ HB⟩⟩
                  · rw [if_neg c51] at H
                    have c51b0 : decide (a2 < 0) = false := decide_eq_false c51
                    clear c51
                    (first | rw [c51b0] | (simp only [i64_w, i32_w]; rw [c51b0]) | skip)
                    have H' := Aside0.mk H
                    clear H
                    go_wp2
                    go_meet
                    case rel => exact ⟨_, (decide (a2 > 1099511627776)), (by first | rfl | (simp; done) | (simp [*]; done)), H', ⟨by have := HJ3.out; have := HJ18.out; first | omega | exact Nat.le_refl _⟩, ⟨by (with_reducible repeat (first | apply Kd.V_alloc | apply Kd.V_drewN | apply Kd.V_drew)); exact HO_278002.out⟩, ⟨by (with_reducible repeat (first | apply Kd.S_alloc | apply Kd.S_drewN | apply Kd.S_drew)); exact HO_285002.out⟩, ⟨bk_ BK269⟩, ⟨bk_ BK277⟩, ⟨bk_ BK284⟩, ⟨bl_ HB⟩⟩
                case rest =>
                  clear HC50
                  try clear c1
                  try clear c2
                  try clear p2
                  try clear c3
                  try clear c4
                  try clear c5
                  try clear c7
                  try clear c10
                  try clear c11
                  try clear c12
                  try clear c13
                  try clear c14
                  try clear c15
                  try clear c16
                  try clear c17
                  try clear c18
                  try clear c23
                  try clear c29
                  try clear c30
                  try clear c39
                  try clear c39b0
                  try clear c39b1
                  try clear c40
                  try clear c40b0
                  try clear c40b1
                  try clear c40b2
                  try clear c41
                  try clear c42
                  try clear c45
                  try clear c46
                  try clear c49
                  try clear c51
                  try clear c51b0
                  try clear hcz20_0
                  try clear hcz20_1
                  try clear hcz20_2
                  try clear hcz24_0
                  try clear hcz24_1
                  try clear hcz24_2
                  try clear hcz26_0
                  try clear hcz26_1
                  try clear hcz26_2
                  try clear hcz31_0
                  try clear hcz31_1
                  try clear hcz31_2
                  try clear hcz33_0
                  try clear hcz33_1
                  try clear hcz33_2
                  try clear hcz35_0
                  try clear hcz35_1
                  try clear hcz35_2
                  try clear hcz37_0
                  try clear hcz37_1
                  try clear hcz37_2
                  try clear hcz43_0
                  try clear hcz43_1
                  try clear hcz43_2
                  try clear hcz47_0
                  try clear hcz47_1
                  try clear hcz47_2
                  try clear hcz8_0
                  try clear hcz8_1
                  try clear hcz8_2
                  try clear hcz9_0
                  try clear hcz9_1
                  try clear hcz9_2
                  try clear hfz20_0
                  try clear hfz20_1
                  try clear hfz20_2
                  try clear hfz24_0
                  try clear hfz24_1
                  try clear hfz24_2
                  try clear hfz26_0
                  try clear hfz26_1
                  try clear hfz26_2
                  try clear hfz31_0
                  try clear hfz31_1
                  try clear hfz31_2
                  try clear hfz33_0
                  try clear hfz33_1
                  try clear hfz33_2
                  try clear hfz35_0
                  try clear hfz35_1
                  try clear hfz35_2
                  try clear hfz37_0
                  try clear hfz37_1
                  try clear hfz37_2
                  try clear hfz43_0
                  try clear hfz43_1
                  try clear hfz43_2
                  try clear hfz47_0
                  try clear hfz47_1
                  try clear hfz47_2
                  try clear hfz8_0
                  try clear hfz8_1
                  try clear hfz8_2
                  try clear hfz9_0
                  try clear hfz9_1
                  try clear hfz9_2
                  try clear p2
                  obtain ⟨kq, x89_49, rfl, HA, HJ49, HO_278002, HO_285002, BK269, BK277, BK284, HB⟩ := hcut
                  cases kq with
                  | zero => exact absurd HA.out (by simp [rillmeterlaw11_LeastTurns.j2])
                  | succ kj49 =>
                    have H := HA.out
                    clear HA
                    simp only [rillmeterlaw11_LeastTurns.j2] at H
                    by_cases c52 : x89_49 = true
                    · subst c52
                      have H1 : (if t283 = 1 then (if (t280.length : Int) = 0 then ((rillmeterlaw11_awake.f kj49).bind fun t292 => (some t292)) else (some false)) else (some false)) = some r := by rw [if_pos rfl] at H; exact H
                      clear H
                      have H := H1
                      clear H1
                      by_cases c53 : t283 = 1
                      · rw [if_pos c53] at H
                        have c53b0 : (t283 == 1) = true := beq_iff_eq.mpr c53
                        have c53b1 : (t283 != 1) = false := bne_eq_false_iff_eq.mpr c53
                        clear c53
                        by_cases c54 : (t280.length : Int) = 0
                        · rw [if_pos c54] at H
                          have c54b0 : ((t280.length : Int) == 0) = true := beq_iff_eq.mpr c54
                          have c54b1 : ((t280.length : Int) != 0) = false := bne_eq_false_iff_eq.mpr c54
                          clear c54
                          replace H := Option.bind_eq_some_iff.mp H
                          obtain ⟨t292, A550, H⟩ := H
                          replace H : (some t292) = some r := H
                          have A55 := Aside0.mk A550
                          clear A550
                          obtain rfl := Option.some.inj H
                          have hnb56 := NB284_269.out
                          have hnc56 := NB269_284.out
                          have hnb57 := NB284_277.out
                          have hnc57 := NB277_284.out
                          have hcz58_0 : wc.cell? ⟨gb284, 0, none⟩ = some (.int .u64 t278) := (blk_cell BK284.out 0).trans rfl
                          have hcz58_1 : wc.cell? ⟨gb284, 1, none⟩ = some (.int .i64 t279) := (blk_cell BK284.out 1).trans rfl
                          have hcz58_2 : wc.cell? ⟨gb284, 2, none⟩ = some (.slice Ao32 t280.length co32) := (blk_cell BK284.out 2).trans rfl
                          have hfz58_0 := blk_frozen BK284.out 0
                          have hfz58_1 := blk_frozen BK284.out 1
                          have hfz58_2 := blk_frozen BK284.out 2
                          go_wp2_with (first | (go_at_call 12; (with_reducible refine (rillmeterlaw11_awake.calls kj49  t292 _ A55.out).mono ?_); rintro e w59 ⟨rfl, hb⟩; have n0_ := Aside0.mk (Kd.V_below (by (with_reducible repeat (first | apply Kd.V_alloc | apply Kd.V_drewN | apply Kd.V_drew)); exact HO_278002.out) hb); have n1_ := Aside0.mk (Kd.S_below (by (with_reducible repeat (first | apply Kd.S_alloc | apply Kd.S_drewN | apply Kd.S_drew)); exact HO_285002.out) hb); have n2_ := Aside0.mk (blk_below (bk_ BK269) hb); have n3_ := Aside0.mk (blk_below (bk_ BK277) hb); have n4_ := Aside0.mk (blk_below (bk_ BK284) hb); have n5_ := Aside0.mk (below_step (bl_ HB) hb); clear HO_278002; clear HO_285002; clear BK269; clear BK277; clear BK284; clear HB; have HO_278002 := n0_; have HO_285002 := n1_; have BK269 := n2_; have BK277 := n3_; have BK284 := n4_; have HB := n5_; clear n0_ n1_ n2_ n3_ n4_ n5_; (try clear hb); (try clear hb2); (try clear hk); (try clear hi)))
                          go_ret
                          exact ⟨by first | rfl | (simp [errW_none, errW_some] <;> rfl) | (simp [*, errW_none, errW_some] <;> rfl), bl_ HB⟩
                        · rw [if_neg c54] at H
                          have c54b0 : ((t280.length : Int) == 0) = false := beq_eq_false_iff_ne.mpr c54
                          have c54b1 : ((t280.length : Int) != 0) = true := bne_iff_ne.mpr c54
                          have c54b2 : ¬ (t280 = []) := fun h_ => c54 (by rw [h_]; rfl)
                          exact absurd ((Option.some.inj H).trans hrt.out) (by decide)
                      · rw [if_neg c53] at H
                        have c53b0 : (t283 == 1) = false := beq_eq_false_iff_ne.mpr c53
                        have c53b1 : (t283 != 1) = true := bne_iff_ne.mpr c53
                        exact absurd ((Option.some.inj H).trans hrt.out) (by decide)
                    · replace c52 := Bool.eq_false_iff.mpr c52
                      subst c52
                      have H1 : (if t283 = 0 then ((rillmeterlaw11_ref.f t278 t279 t280).bind fun bt293 => ((rillmeterref11_Add.f kj49 t272 t273 t274 a1 a2).bind fun bt298 => ((rillmeterref11_Equal.f kj49 bt293.1 bt293.2.1 bt293.2.2 bt298.1 bt298.2.1 bt298.2.2).bind fun t303 => (if t303 = true then ((rillmeterlaw11_awake.f kj49).bind fun t304 => (some t304)) else (some false))))) else (some false)) = some r := by rw [if_neg (show ¬ (false = true) by decide)] at H; exact H
                      clear H
                      have H := H1
                      clear H1
                      by_cases c60 : t283 = 0
                      · rw [if_pos c60] at H
                        have c60b0 : (t283 == 0) = true := beq_iff_eq.mpr c60
                        have c60b1 : (t283 != 0) = false := bne_eq_false_iff_eq.mpr c60
                        clear c60
                        replace H := Option.bind_eq_some_iff.mp H
                        obtain ⟨⟨t293, t294, t295⟩, A610, H⟩ := H
                        replace H : ((rillmeterref11_Add.f kj49 t272 t273 t274 a1 a2).bind fun bt298 => ((rillmeterref11_Equal.f kj49 t293 t294 t295 bt298.1 bt298.2.1 bt298.2.2).bind fun t303 => (if t303 = true then ((rillmeterlaw11_awake.f kj49).bind fun t304 => (some t304)) else (some false)))) = some r := H
                        have A61 := Aside0.mk A610
                        clear A610
                        replace H := Option.bind_eq_some_iff.mp H
                        obtain ⟨⟨t298, t299, t300⟩, A620, H⟩ := H
                        replace H : ((rillmeterref11_Equal.f kj49 t293 t294 t295 t298 t299 t300).bind fun t303 => (if t303 = true then ((rillmeterlaw11_awake.f kj49).bind fun t304 => (some t304)) else (some false))) = some r := H
                        have A62 := Aside0.mk A620
                        clear A620
                        replace H := Option.bind_eq_some_iff.mp H
                        obtain ⟨t303, A630, H⟩ := H
                        replace H : (if t303 = true then ((rillmeterlaw11_awake.f kj49).bind fun t304 => (some t304)) else (some false)) = some r := H
                        have A63 := Aside0.mk A630
                        clear A630
                        by_cases c64 : t303 = true
                        · subst c64
                          have H1 : ((rillmeterlaw11_awake.f kj49).bind fun t304 => (some t304)) = some r := by rw [if_pos rfl] at H; exact H
                          clear H
                          have H := H1
                          clear H1
                          replace H := Option.bind_eq_some_iff.mp H
                          obtain ⟨t304, A650, H⟩ := H
                          replace H : (some t304) = some r := H
                          have A65 := Aside0.mk A650
                          clear A650
                          obtain rfl := Option.some.inj H
                          try go_wp2
                          have n0_ := Aside0.mk (Kd.V_drew HO_278002.out)
                          have n1_ := Aside0.mk (Kd.S_drew HO_285002.out)
                          have n2_ := Aside0.mk (blk_drew BK269.out)
                          have n3_ := Aside0.mk (blk_drew BK277.out)
                          have n4_ := Aside0.mk (blk_drew BK284.out)
                          have n5_ := Aside0.mk (below_drew1 HB.out)
                          clear HO_278002
                          clear HO_285002
                          clear BK269
                          clear BK277
                          clear BK284
                          clear HB
                          have HO_278002 := n0_
                          have HO_285002 := n1_
                          have BK269 := n2_
                          have BK277 := n3_
                          have BK284 := n4_
                          have HB := n5_
                          clear n0_ n1_ n2_ n3_ n4_ n5_
                          refine start_ (n := 15) (S := fun w' => w'.cell? ⟨gb284, 0, none⟩ = some (.int .u64 t278) ∧ w'.cell? ⟨gb284, 1, none⟩ = some (.int .i64 t279) ∧ w'.cell? ⟨gb284, 2, none⟩ = some (.slice Ao32 t280.length co32) ∧ w'.cell? ⟨gb277, 0, none⟩ = some (.int .u64 t272) ∧ w'.cell? ⟨gb277, 1, none⟩ = some (.int .i64 t273) ∧ w'.cell? ⟨gb277, 2, none⟩ = some (.slice Ao25 t274.length co25)) (ds := []) #[false, false, false, false, false, false, false, false, false, false, false, false, false, false, false] (by kernel_rfl) rfl rfl ⟨(blk_cell BK284.out 0).trans rfl, (blk_cell BK284.out 1).trans rfl, (blk_cell BK284.out 2).trans rfl, (blk_cell BK277.out 0).trans rfl, (blk_cell BK277.out 1).trans rfl, (blk_cell BK277.out 2).trans rfl⟩ (fun hHeld => ?_); refine with_tabW rillmeterlaw11_LeastTurns.tab13 rillmeterlaw11_LeastTurns.bits13 (fun HT_ HW_ => ?_)
                          generalize wc.drew = w66 at HO_278002 HO_285002 BK269 BK277 BK284 HB hHeld ⊢
                          refine pure_ (i := 0) (N := some 101) (v := ?_) (a' := ?_) #[true, false, false, false, false, false, false, false, false, false, false, false, false, false, false] rfl rfl (any_of HT_.out (by kernel_rfl)) (fun _ _ _ h => h) (Or.inl ⟨by rfl, ?_⟩) ?_ ?_
                          rotate_left
                          · intro w'
                            go_simp
                            with_reducible rfl
                          rotate_left
                          · simp only [Act.put, List.setIfInBounds_toArray, List.set_cons_zero, List.set_cons_succ, i64_w, i32_w]
                            rfl
                          refine pure_ (i := 1) (N := some 102) (v := ?_) (a' := ?_) #[true, true, false, false, false, false, false, false, false, false, false, false, false, false, false] rfl rfl (any_of HT_.out (by kernel_rfl)) (fun _ _ _ h => h) (Or.inl ⟨by rfl, ?_⟩) ?_ ?_
                          rotate_left
                          · intro w'
                            go_simp
                            with_reducible rfl
                          rotate_left
                          · simp only [Act.put, List.setIfInBounds_toArray, List.set_cons_zero, List.set_cons_succ, i64_w, i32_w]
                            rfl
                          refine pure_ (i := 2) (N := some 103) (v := ?_) (a' := ?_) #[true, true, true, false, false, false, false, false, false, false, false, false, false, false, false] rfl rfl (any_of HT_.out (by kernel_rfl)) (fun _ _ _ h => h) (Or.inl ⟨by rfl, ?_⟩) ?_ ?_
                          rotate_left
                          · intro w'
                            go_simp
                            with_reducible rfl
                          rotate_left
                          · simp only [Act.put, List.setIfInBounds_toArray, List.set_cons_zero, List.set_cons_succ, i64_w, i32_w]
                            rfl
                          refine pure_ (i := 6) (N := some 107) (v := ?_) (a' := ?_) #[true, true, true, false, false, false, true, false, false, false, false, false, false, false, false] rfl rfl (any_of HT_.out (by kernel_rfl)) (fun _ _ _ h => h) (Or.inl ⟨by rfl, ?_⟩) ?_ ?_
                          rotate_left
                          · intro w'
                            go_simp
                            with_reducible rfl
                          rotate_left
                          · simp only [Act.put, List.setIfInBounds_toArray, List.set_cons_zero, List.set_cons_succ, i64_w, i32_w]
                            rfl
                          refine pure_ (i := 7) (N := some 108) (v := ?_) (a' := ?_) #[true, true, true, false, false, false, true, true, false, false, false, false, false, false, false] rfl rfl (any_of HT_.out (by kernel_rfl)) (fun _ _ _ h => h) (Or.inl ⟨by rfl, ?_⟩) ?_ ?_
                          rotate_left
                          · intro w'
                            go_simp
                            with_reducible rfl
                          rotate_left
                          · simp only [Act.put, List.setIfInBounds_toArray, List.set_cons_zero, List.set_cons_succ, i64_w, i32_w]
                            rfl
                          refine take_ (i := 3) (N := some 104) (v := ?_) (a' := ?_) #[true, true, true, true, false, false, true, true, false, false, false, false, false, false, false] rfl rfl (take_ofW HT_.out HW_.out (by kernel_rfl)) (fun _ _ _ h => h) (Or.inl ⟨by rfl, ?_⟩) hHeld ?_ ?_
                          rotate_left
                          · rintro w' ⟨s0, s1, s2, s3, s4, s5⟩
                            go_simp
                            with_reducible rfl
                          rotate_left
                          · simp only [Act.put, List.setIfInBounds_toArray, List.set_cons_zero, List.set_cons_succ, i64_w, i32_w]
                            rfl
                          refine take_ (i := 5) (N := some 106) (v := ?_) (a' := ?_) #[true, true, true, true, false, true, true, true, false, false, false, false, false, false, false] rfl rfl (take_ofW HT_.out HW_.out (by kernel_rfl)) (fun _ _ _ h => h) (Or.inl ⟨by rfl, ?_⟩) hHeld ?_ ?_
                          rotate_left
                          · rintro w' ⟨s0, s1, s2, s3, s4, s5⟩
                            go_simp
                            with_reducible rfl
                          rotate_left
                          · simp only [Act.put, List.setIfInBounds_toArray, List.set_cons_zero, List.set_cons_succ, i64_w, i32_w]
                            rfl
                          refine one_ (i := 4) (N := some 105) #[true, true, true, true, true, true, true, true, false, false, false, false, false, false, false] rfl rfl (one_of HT_.out (by kernel_rfl)) (by decide) (fun K hK => ?_)
                          refine goes_ Try.func11 (by kernel_rfl) rfl #[.agg #[.int .u64 t278, .int .i64 t279, .slice Ao32 t280.length co32]] (by rfl) rfl rfl (by (try simp only [List.map_toArray, List.map_cons, List.map_nil]); first | done | rfl | (simp only [List.length_drop, List.length_take]; rfl)) ?_
                          with_reducible refine (rillmeterlaw11_ref.calls t278 t279 (fun k_ => (((True ∧ k_ ≠ gb269) ∧ k_ ≠ gb277) ∧ k_ ≠ gb284)) _ _ t280 t293 t294 t295 _ ?side1 A61.out).mono ?_
                          (case side1 => exact Kd.S_V (Kd.S_types (Kd.S_types (Kd.S_types (HO_285002.out) BK269.out (by decide)) BK277.out (by decide)) BK284.out (by decide)))
                          rintro e w67 ⟨v296, rfl, ho0, hb⟩
                          refine ⟨_, rfl, ?_⟩
                          have n0_ := Aside0.mk (Kd.V_below (by (with_reducible repeat (first | apply Kd.V_alloc | apply Kd.V_drewN | apply Kd.V_drew)); exact HO_278002.out) hb)
                          have n1_ := Aside0.mk (Kd.S_below (by (with_reducible repeat (first | apply Kd.S_alloc | apply Kd.S_drewN | apply Kd.S_drew)); exact HO_285002.out) hb)
                          have n2_ := Aside0.mk (Kd.V_lower (Kd.V_mono (ok' := fun k_ => k_ ≠ gb269 ∧ k_ ≠ gb277 ∧ k_ ≠ gb284) ho0 (fun k_ hk_ => ⟨Or.elim hk_ (fun hs_ => hs_.1.1.2) (fun hn_ => (Kd.freshB (g := gb269) (o := .cells #[.int .u64 a0_0, .int .i64 a0_1, .slice A0_2 l0_2.length c0_2] 25 (0, 0)) (bk_ BK269) k_ hn_)), Or.elim hk_ (fun hs_ => hs_.1.2) (fun hn_ => (Kd.freshB (g := gb277) (o := .cells #[.int .u64 t272, .int .i64 t273, .slice Ao25 t274.length co25] 30 (0, 0)) (bk_ BK277) k_ hn_)), Or.elim hk_ (fun hs_ => hs_.2) (fun hn_ => (Kd.freshB (g := gb284) (o := .cells #[.int .u64 t278, .int .i64 t279, .slice Ao32 t280.length co32] 25 (0, 0)) (bk_ BK284) k_ hn_))⟩)) (below_size (bl_ HB)))
                          have n3_ := Aside0.mk (blk_below (bk_ BK269) hb)
                          have n4_ := Aside0.mk (blk_below (bk_ BK277) hb)
                          have n5_ := Aside0.mk (blk_below (bk_ BK284) hb)
                          have n6_ := Aside0.mk (below_step (bl_ HB) hb)
                          clear HO_278002
                          clear HO_285002
                          clear BK269
                          clear BK277
                          clear BK284
                          clear HB
                          have HO_278002 := n0_
                          have HO_285002 := n1_
                          have HO297 := n2_
                          have BK269 := n3_
                          have BK277 := n4_
                          have BK284 := n5_
                          have HB := n6_
                          clear n0_ n1_ n2_ n3_ n4_ n5_ n6_
                          (try clear hb)
                          (try clear hb2)
                          (try clear hk)
                          (try clear hi)
                          (try clear ho0)
                          refine hK.out _ _ ⟨(blk_cell BK284.out 0).trans rfl, (blk_cell BK284.out 1).trans rfl, (blk_cell BK284.out 2).trans rfl, (blk_cell BK277.out 0).trans rfl, (blk_cell BK277.out 1).trans rfl, (blk_cell BK277.out 2).trans rfl⟩ (fun hHeld => ?_)
                          clear hK K
                          refine norm_ (a' := ?_) ?_ ?_
                          rotate_left
                          · show Act.put _ (some 105) _ = _
                            simp only [Act.put, List.setIfInBounds_toArray, List.set_cons_zero, List.set_cons_succ, i64_w, i32_w]
                            rfl
                          refine one_ (i := 8) (N := some 109) #[true, true, true, true, true, true, true, true, true, false, false, false, false, false, false] rfl rfl (one_of HT_.out (by kernel_rfl)) (by decide) (fun K hK => ?_)
                          refine goes_ Try.func19 (by kernel_rfl) rfl #[.agg #[.int .u64 t272, .int .i64 t273, .slice Ao25 t274.length co25], .string a1, .int .i64 a2] (by rfl) rfl rfl (by (try simp only [List.map_toArray, List.map_cons, List.map_nil]); first | done | rfl | (simp only [List.length_drop, List.length_take]; rfl)) ?_
                          with_reducible refine (rillmeterref11_Add.calls kj49 t272 t273 _ _ t274 a1 a2 t298 t299 t300 _ ?side1 ?side2 A62.out).mono ?_
                          (case side1 => repeat (first | exact (Kd.V_reads' HO_278002.out).2.2 | (with_reducible refine Kd.C_alloc ?_ _) | (with_reducible refine Kd.C_drewN ?_ _) | (with_reducible refine Kd.C_drew ?_)))
                          (case side2 => exact (Kd.V_reads' HO_278002.out).2.1)
                          rintro e w68 ⟨v301, rfl, ho0, hb⟩
                          refine ⟨_, rfl, ?_⟩
                          have n0_ := Aside0.mk (Kd.V_elder' (by (with_reducible repeat (first | apply Kd.V_alloc | apply Kd.V_drewN | apply Kd.V_drew)); exact HO_278002.out) (Kd.S_base ho0) hb)
                          have n1_ := Aside0.mk (Kd.S_elder' (by (with_reducible repeat (first | apply Kd.S_alloc | apply Kd.S_drewN | apply Kd.S_drew)); exact HO_285002.out) (Kd.S_base ho0) hb)
                          have n2_ := Aside0.mk (Kd.V_elder' (by (with_reducible repeat (first | apply Kd.V_alloc | apply Kd.V_drewN | apply Kd.V_drew)); exact HO297.out) (Kd.S_base ho0) hb)
                          have n3_ := Aside0.mk (Kd.S_lower (Kd.S_new' ho0 (Kd.S_lt (by (with_reducible repeat (first | apply Kd.S_alloc | apply Kd.S_drewN | apply Kd.S_drew)); exact HO_285002.out))) (below_size (bl_ HB)))
                          have n4_ := Aside0.mk (blk_below (bk_ BK269) hb)
                          have n5_ := Aside0.mk (blk_below (bk_ BK277) hb)
                          have n6_ := Aside0.mk (blk_below (bk_ BK284) hb)
                          have n7_ := Aside0.mk (below_step (bl_ HB) hb)
                          clear HO_278002
                          clear HO_285002
                          clear HO297
                          clear BK269
                          clear BK277
                          clear BK284
                          clear HB
                          have HO_278002 := n0_
                          have HO_285002 := n1_
                          have HO297 := n2_
                          have HO302 := n3_
                          have BK269 := n4_
                          have BK277 := n5_
                          have BK284 := n6_
                          have HB := n7_
                          clear n0_ n1_ n2_ n3_ n4_ n5_ n6_ n7_
                          (try clear hb)
                          (try clear hb2)
                          (try clear hk)
                          (try clear hi)
                          (try clear ho0)
                          obtain ⟨Ao69, co69, eo69⟩ := Kd.V_slice HO297.out
                          (first | subst eo69 | (injection eo69 with f1_ f2_ f3_; have f4_ := f1_.symm; have f5_ := f3_.symm; clear f1_ f2_ f3_; subst f4_; subst f5_))
                          obtain ⟨Ao70, co70, eo70⟩ := Kd.S_slice HO302.out
                          (first | subst eo70 | (injection eo70 with f1_ f2_ f3_; have f4_ := f1_.symm; have f5_ := f3_.symm; clear f1_ f2_ f3_; subst f4_; subst f5_))
                          refine hK.out _ _ ⟨(blk_cell BK284.out 0).trans rfl, (blk_cell BK284.out 1).trans rfl, (blk_cell BK284.out 2).trans rfl, (blk_cell BK277.out 0).trans rfl, (blk_cell BK277.out 1).trans rfl, (blk_cell BK277.out 2).trans rfl⟩ (fun hHeld => ?_)
                          clear hK K
                          refine norm_ (a' := ?_) ?_ ?_
                          rotate_left
                          · show Act.put _ (some 109) _ = _
                            simp only [Act.put, List.setIfInBounds_toArray, List.set_cons_zero, List.set_cons_succ, i64_w, i32_w]
                            rfl
                          refine one_ (i := 9) (N := some 110) #[true, true, true, true, true, true, true, true, true, true, false, false, false, false, false] rfl rfl (one_of HT_.out (by kernel_rfl)) (by decide) (fun K hK => ?_)
                          refine goes_ Try.func10 (by kernel_rfl) rfl #[.agg #[.int .u64 t293, .int .i64 t294, .slice Ao69 t295.length co69], .agg #[.int .u64 t298, .int .i64 t299, .slice Ao70 t300.length co70]] (by rfl) rfl rfl (by (try simp only [List.map_toArray, List.map_cons, List.map_nil]); first | done | rfl | (simp only [List.length_drop, List.length_take]; rfl)) ?_
                          with_reducible refine (rillmeterref11_Equal.calls kj49 t293 t294 _ _ t295 t298 t299 _ _ t300 true _ ?side1 ?side2 ?side3 ?side4 A63.out).mono ?_
                          (case side1 => repeat (first | exact (Kd.V_reads' HO297.out).2.2 | (with_reducible refine Kd.C_alloc ?_ _) | (with_reducible refine Kd.C_drewN ?_ _) | (with_reducible refine Kd.C_drew ?_)))
                          (case side2 => exact (Kd.V_reads' HO297.out).2.1)
                          (case side3 => repeat (first | exact (Kd.S_reads' HO302.out).2.2 | (with_reducible refine Kd.C_alloc ?_ _) | (with_reducible refine Kd.C_drewN ?_ _) | (with_reducible refine Kd.C_drew ?_)))
                          (case side4 => exact (Kd.S_reads' HO302.out).2.1)
                          rintro e w71 ⟨rfl, hb⟩
                          refine ⟨_, rfl, ?_⟩
                          have n0_ := Aside0.mk (Kd.V_below (by (with_reducible repeat (first | apply Kd.V_alloc | apply Kd.V_drewN | apply Kd.V_drew)); exact HO_278002.out) hb)
                          have n1_ := Aside0.mk (Kd.S_below (by (with_reducible repeat (first | apply Kd.S_alloc | apply Kd.S_drewN | apply Kd.S_drew)); exact HO_285002.out) hb)
                          have n2_ := Aside0.mk (Kd.V_below (by (with_reducible repeat (first | apply Kd.V_alloc | apply Kd.V_drewN | apply Kd.V_drew)); exact HO297.out) hb)
                          have n3_ := Aside0.mk (Kd.S_below (by (with_reducible repeat (first | apply Kd.S_alloc | apply Kd.S_drewN | apply Kd.S_drew)); exact HO302.out) hb)
                          have n4_ := Aside0.mk (blk_below (bk_ BK269) hb)
                          have n5_ := Aside0.mk (blk_below (bk_ BK277) hb)
                          have n6_ := Aside0.mk (blk_below (bk_ BK284) hb)
                          have n7_ := Aside0.mk (below_step (bl_ HB) hb)
                          clear HO_278002
                          clear HO_285002
                          clear HO297
                          clear HO302
                          clear BK269
                          clear BK277
                          clear BK284
                          clear HB
                          have HO_278002 := n0_
                          have HO_285002 := n1_
                          have HO297 := n2_
                          have HO302 := n3_
                          have BK269 := n4_
                          have BK277 := n5_
                          have BK284 := n6_
                          have HB := n7_
                          clear n0_ n1_ n2_ n3_ n4_ n5_ n6_ n7_
                          (try clear hb)
                          (try clear hb2)
                          (try clear hk)
                          (try clear hi)
                          refine hK.out _ _ ⟨(blk_cell BK284.out 0).trans rfl, (blk_cell BK284.out 1).trans rfl, (blk_cell BK284.out 2).trans rfl, (blk_cell BK277.out 0).trans rfl, (blk_cell BK277.out 1).trans rfl, (blk_cell BK277.out 2).trans rfl⟩ (fun hHeld => ?_)
                          clear hK K
                          refine norm_ (a' := ?_) ?_ ?_
                          rotate_left
                          · show Act.put _ (some 110) _ = _
                            simp only [Act.put, List.setIfInBounds_toArray, List.set_cons_zero, List.set_cons_succ, i64_w, i32_w]
                            rfl
                          refine pure_ (i := 10) (N := some 111) (v := ?_) (a' := ?_) #[true, true, true, true, true, true, true, true, true, true, true, false, false, false, false] rfl rfl (any_of HT_.out (by kernel_rfl)) (fun _ _ _ h => h) (Or.inl ⟨by rfl, ?_⟩) ?_ ?_
                          rotate_left
                          · intro w'
                            go_simp
                            with_reducible rfl
                          rotate_left
                          · simp only [Act.put, List.setIfInBounds_toArray, List.set_cons_zero, List.set_cons_succ, i64_w, i32_w]
                            rfl
                          refine pure_ (i := 11) (N := some 112) (v := ?_) (a' := ?_) #[true, true, true, true, true, true, true, true, true, true, true, true, false, false, false] rfl rfl (any_of HT_.out (by kernel_rfl)) (fun _ _ _ h => h) (Or.inl ⟨by rfl, ?_⟩) ?_ ?_
                          rotate_left
                          · intro w'
                            go_simp
                            with_reducible rfl
                          rotate_left
                          · simp only [Act.put, List.setIfInBounds_toArray, List.set_cons_zero, List.set_cons_succ, i64_w, i32_w]
                            rfl
                          refine one_ (i := 12) (N := some 113) #[true, true, true, true, true, true, true, true, true, true, true, true, true, false, false] rfl rfl (one_of HT_.out (by kernel_rfl)) (by decide) (fun K hK => ?_)
                          refine goes_ Try.func12 (by kernel_rfl) rfl #[] (by rfl) rfl rfl (by (try simp only [List.map_toArray, List.map_cons, List.map_nil]); first | done | rfl | (simp only [List.length_drop, List.length_take]; rfl)) ?_
                          with_reducible refine (rillmeterlaw11_awake.calls kj49  t304 _ A65.out).mono ?_
                          rintro e w72 ⟨rfl, hb⟩
                          refine ⟨_, rfl, ?_⟩
                          have n0_ := Aside0.mk (Kd.V_below (by (with_reducible repeat (first | apply Kd.V_alloc | apply Kd.V_drewN | apply Kd.V_drew)); exact HO_278002.out) hb)
                          have n1_ := Aside0.mk (Kd.S_below (by (with_reducible repeat (first | apply Kd.S_alloc | apply Kd.S_drewN | apply Kd.S_drew)); exact HO_285002.out) hb)
                          have n2_ := Aside0.mk (Kd.V_below (by (with_reducible repeat (first | apply Kd.V_alloc | apply Kd.V_drewN | apply Kd.V_drew)); exact HO297.out) hb)
                          have n3_ := Aside0.mk (Kd.S_below (by (with_reducible repeat (first | apply Kd.S_alloc | apply Kd.S_drewN | apply Kd.S_drew)); exact HO302.out) hb)
                          have n4_ := Aside0.mk (blk_below (bk_ BK269) hb)
                          have n5_ := Aside0.mk (blk_below (bk_ BK277) hb)
                          have n6_ := Aside0.mk (blk_below (bk_ BK284) hb)
                          have n7_ := Aside0.mk (below_step (bl_ HB) hb)
                          clear HO_278002
                          clear HO_285002
                          clear HO297
                          clear HO302
                          clear BK269
                          clear BK277
                          clear BK284
                          clear HB
                          have HO_278002 := n0_
                          have HO_285002 := n1_
                          have HO297 := n2_
                          have HO302 := n3_
                          have BK269 := n4_
                          have BK277 := n5_
                          have BK284 := n6_
                          have HB := n7_
                          clear n0_ n1_ n2_ n3_ n4_ n5_ n6_ n7_
                          (try clear hb)
                          (try clear hb2)
                          (try clear hk)
                          (try clear hi)
                          refine hK.out _ _ ⟨(blk_cell BK284.out 0).trans rfl, (blk_cell BK284.out 1).trans rfl, (blk_cell BK284.out 2).trans rfl, (blk_cell BK277.out 0).trans rfl, (blk_cell BK277.out 1).trans rfl, (blk_cell BK277.out 2).trans rfl⟩ (fun hHeld => ?_)
                          clear hK K
                          refine norm_ (a' := ?_) ?_ ?_
                          rotate_left
                          · show Act.put _ (some 113) _ = _
                            simp only [Act.put, List.setIfInBounds_toArray, List.set_cons_zero, List.set_cons_succ, i64_w, i32_w]
                            rfl
                          refine pure_ (i := 13) (N := some 114) (v := ?_) (a' := ?_) #[true, true, true, true, true, true, true, true, true, true, true, true, true, true, false] rfl rfl (any_of HT_.out (by kernel_rfl)) (fun _ _ _ h => h) (Or.inl ⟨by rfl, ?_⟩) ?_ ?_
                          rotate_left
                          · intro w'
                            go_simp
                            with_reducible rfl
                          rotate_left
                          · simp only [Act.put, List.setIfInBounds_toArray, List.set_cons_zero, List.set_cons_succ, i64_w, i32_w]
                            rfl
                          refine pure_ (i := 14) (N := some 6) (v := ?_) (a' := ?_) #[true, true, true, true, true, true, true, true, true, true, true, true, true, true, true] rfl rfl (any_of HT_.out (by kernel_rfl)) (fun _ _ _ h => h) (Or.inl ⟨by rfl, ?_⟩) ?_ ?_
                          rotate_left
                          · intro w'
                            go_simp
                            with_reducible rfl
                          rotate_left
                          · simp only [Act.put, List.setIfInBounds_toArray, List.set_cons_zero, List.set_cons_succ, i64_w, i32_w]
                            rfl
                          refine done_ (done_of HT_.out (by kernel_rfl)) ?_
                          try go_wp2
                          go_ret
                          exact ⟨by first | rfl | (simp [errW_none, errW_some] <;> rfl) | (simp [*, errW_none, errW_some] <;> rfl), bl_ HB⟩
                        · replace c64 := Bool.eq_false_iff.mpr c64
                          subst c64
                          have H1 : (some false) = some r := by rw [if_neg (show ¬ (false = true) by decide)] at H; exact H
                          clear H
                          have H := H1
                          clear H1
                          exact absurd ((Option.some.inj H).trans hrt.out) (by decide)
                      · rw [if_neg c60] at H
                        have c60b0 : (t283 == 0) = false := beq_eq_false_iff_ne.mpr c60
                        have c60b1 : (t283 != 0) = true := bne_iff_ne.mpr c60
                        exact absurd ((Option.some.inj H).trans hrt.out) (by decide)
        · replace c17 := Bool.eq_false_iff.mpr c17
          subst c17
          have H1 : ((least_Right.f kj3 a0_0 a0_1 l0_2).bind fun t288 => (if t288 = true then (some false) else (if t283 = 1 then (if (t280.length : Int) = 0 then (if t285 = 0 then (if t286 = true then (some false) else ((rillmeterlaw11_awake.f kj3).bind fun t289 => (some t289))) else (some false)) else (some false)) else (some false)))) = some r := by rw [if_neg (show ¬ (false = true) by decide)] at H; exact H
          clear H
          have H := H1
          clear H1
          replace H := Option.bind_eq_some_iff.mp H
          obtain ⟨t288, A730, H⟩ := H
          replace H : (if t288 = true then (some false) else (if t283 = 1 then (if (t280.length : Int) = 0 then (if t285 = 0 then (if t286 = true then (some false) else ((rillmeterlaw11_awake.f kj3).bind fun t289 => (some t289))) else (some false)) else (some false)) else (some false))) = some r := H
          have A73 := Aside0.mk A730
          clear A730
          by_cases c74 : t288 = true
          · subst c74
            have H1 : (some false) = some r := by rw [if_pos rfl] at H; exact H
            clear H
            have H := H1
            clear H1
            exact absurd ((Option.some.inj H).trans hrt.out) (by decide)
          · replace c74 := Bool.eq_false_iff.mpr c74
            subst c74
            have H1 : (if t283 = 1 then (if (t280.length : Int) = 0 then (if t285 = 0 then (if t286 = true then (some false) else ((rillmeterlaw11_awake.f kj3).bind fun t289 => (some t289))) else (some false)) else (some false)) else (some false)) = some r := by rw [if_neg (show ¬ (false = true) by decide)] at H; exact H
            clear H
            have H := H1
            clear H1
            by_cases c75 : t283 = 1
            · rw [if_pos c75] at H
              have c75b0 : (t283 == 1) = true := beq_iff_eq.mpr c75
              have c75b1 : (t283 != 1) = false := bne_eq_false_iff_eq.mpr c75
              clear c75
              by_cases c76 : (t280.length : Int) = 0
              · rw [if_pos c76] at H
                have c76b0 : ((t280.length : Int) == 0) = true := beq_iff_eq.mpr c76
                have c76b1 : ((t280.length : Int) != 0) = false := bne_eq_false_iff_eq.mpr c76
                clear c76
                by_cases c77 : t285 = 0
                · rw [if_pos c77] at H
                  have c77b0 : (t285 == 0) = true := beq_iff_eq.mpr c77
                  have c77b1 : (t285 != 0) = false := bne_eq_false_iff_eq.mpr c77
                  clear c77
                  by_cases c78 : t286 = true
                  · subst c78
                    have H1 : (some false) = some r := by rw [if_pos rfl] at H; exact H
                    clear H
                    have H := H1
                    clear H1
                    exact absurd ((Option.some.inj H).trans hrt.out) (by decide)
                  · replace c78 := Bool.eq_false_iff.mpr c78
                    subst c78
                    have H1 : ((rillmeterlaw11_awake.f kj3).bind fun t289 => (some t289)) = some r := by rw [if_neg (show ¬ (false = true) by decide)] at H; exact H
                    clear H
                    have H := H1
                    clear H1
                    replace H := Option.bind_eq_some_iff.mp H
                    obtain ⟨t289, A790, H⟩ := H
                    replace H : (some t289) = some r := H
                    have A79 := Aside0.mk A790
                    clear A790
                    obtain rfl := Option.some.inj H
                    have hcz80_0 : wc.cell? ⟨gb269, 0, none⟩ = some (.int .u64 a0_0) := (blk_cell BK269.out 0).trans rfl
                    have hcz80_1 : wc.cell? ⟨gb269, 1, none⟩ = some (.int .i64 a0_1) := (blk_cell BK269.out 1).trans rfl
                    have hcz80_2 : wc.cell? ⟨gb269, 2, none⟩ = some (.slice A0_2 l0_2.length c0_2) := (blk_cell BK269.out 2).trans rfl
                    have hfz80_0 := blk_frozen BK269.out 0
                    have hfz80_1 := blk_frozen BK269.out 1
                    have hfz80_2 := blk_frozen BK269.out 2
                    go_wp2_with (first | ((with_reducible refine gate_callee (f := 11) rfl ?_); refine goesL_ (some 24) rfl rfl Try.func11 (by kernel_rfl) rfl #[.agg #[.int .u64 a0_0, .int .i64 a0_1, .slice A0_2 l0_2.length c0_2]] rfl (by (try simp only [List.map_toArray, List.map_cons, List.map_nil]); first | done | rfl | (simp only [List.length_drop, List.length_take]; rfl)) ?_; (with_reducible refine (rillmeterlaw11_ref.calls a0_0 a0_1 (fun k_ => k_ < w.heap.size) _ _ l0_2 t272 t273 t274 _ ?side1 A13.out).mono ?_); (case side1 => exact Kd.V_mk HC0_2.out (Kd.F_below (Kd.C_F (Kd.heap_slice 3 (Kd.heap_int .i64)) HR0_2.out) (bl_ HB))); rintro e w81 ⟨v275, rfl, ho0, hb⟩; refine ⟨_, rfl, ?_⟩; have n0_ := Aside0.mk (Kd.V_lower (Kd.V_mono (ok' := fun k_ => k_ ≠ gb269) ho0 (fun k_ hk_ => Or.elim hk_ (fun hs_ => fun e_ => Nat.not_le.2 hs_ (by rw [e_]; exact GW269.out)) (fun hn_ => (Kd.freshB (g := gb269) (o := .cells #[.int .u64 a0_0, .int .i64 a0_1, .slice A0_2 l0_2.length c0_2] 25 (0, 0)) (bk_ BK269) k_ hn_)))) (below_size (bl_ HB))); have n1_ := Aside0.mk (blk_below (bk_ BK269) hb); have n2_ := Aside0.mk (below_step (bl_ HB) hb); clear BK269; clear HB; have HO276 := n0_; have BK269 := n1_; have HB := n2_; clear n0_ n1_ n2_; (try clear hb); (try clear hb2); (try clear hk); (try clear hi); (try clear ho0)) | ((with_reducible refine gate_dst (N := 7) rfl ?_); (try (refine gate_guard (by rfl) ?_; dsimp only)); refine box_event ?hg (N := 7) ?hd (cs := #[.int .u64 0, .int .i64 0, .slice none 0 0]) (t := 30) ?hr ?_; (case hd => rfl); (case hg => rfl); (case hr => first | (go_simp; done) | (go_simp; rfl)); intro gb277 hg w82 hbox hb; have n0_ := Aside0.mk (Kd.V_below (Kd.V_elderB (by (with_reducible repeat (first | apply Kd.V_alloc | apply Kd.V_drewN | apply Kd.V_drew)); exact HO276.out) gb277 (Nat.le_of_eq hg.symm)) hb); have n1_ := Aside0.mk (blk_below (bk_ BK269) hb); have n2_ := Aside0.mk (below_step (bl_ HB) hb); have n3_ := Aside0.mk (hbox); have n4_ := Aside0.mk ((by rw [hg]; exact (below_size (bl_ HB)) : w.heap.size ≤ gb277)); have n5_ := Aside0.mk ((by rw [hg]; exact (below_size (bl_ HB)) : w.heap.size ≤ gb277)); have n6_ := Aside0.mk ((by rw [hg]; exact Nat.ne_of_lt (blk_lt (g := gb269) (o := .cells #[.int .u64 a0_0, .int .i64 a0_1, .slice A0_2 l0_2.length c0_2] 25 (0, 0)) (bk_ BK269)) : gb269 ≠ gb277)); have n7_ := Aside0.mk ((by rw [hg]; exact Nat.ne_of_gt (blk_lt (g := gb269) (o := .cells #[.int .u64 a0_0, .int .i64 a0_1, .slice A0_2 l0_2.length c0_2] 25 (0, 0)) (bk_ BK269)) : gb277 ≠ gb269)); clear HO276; clear BK269; clear HB; have HO276 := n0_; have BK269 := n1_; have HB := n2_; have BK277 := n3_; have GW277 := n4_; have GE277 := n5_; have NB269_277 := n6_; have NB277_269 := n7_; clear n0_ n1_ n2_ n3_ n4_ n5_ n6_ n7_; clear hb hbox hg; have hnb83 := NB277_269.out; have hnc83 := NB269_277.out; have hcz84_0 : w82.cell? ⟨gb277, 0, none⟩ = some (.int .u64 0) := (blk_cell BK277.out 0).trans rfl; have hcz84_1 : w82.cell? ⟨gb277, 1, none⟩ = some (.int .i64 0) := (blk_cell BK277.out 1).trans rfl; have hcz84_2 : w82.cell? ⟨gb277, 2, none⟩ = some (.slice none 0 0) := (blk_cell BK277.out 2).trans rfl; have hfz84_0 := blk_frozen BK277.out 0; have hfz84_1 := blk_frozen BK277.out 1; have hfz84_2 := blk_frozen BK277.out 2; obtain ⟨Ao85, co85, eo85⟩ := Kd.V_slice HO276.out; subst eo85; have hcz86_0 : w82.cell? ⟨gb269, 0, none⟩ = some (.int .u64 a0_0) := (blk_cell BK269.out 0).trans rfl; have hcz86_1 : w82.cell? ⟨gb269, 1, none⟩ = some (.int .i64 a0_1) := (blk_cell BK269.out 1).trans rfl; have hcz86_2 : w82.cell? ⟨gb269, 2, none⟩ = some (.slice A0_2 l0_2.length c0_2) := (blk_cell BK269.out 2).trans rfl; have hfz86_0 := blk_frozen BK269.out 0; have hfz86_1 := blk_frozen BK269.out 1; have hfz86_2 := blk_frozen BK269.out 2) | ((with_reducible refine gate_callee (f := 15) rfl ?_); refine goesL_ (some 29) rfl rfl Try.func15 (by kernel_rfl) rfl #[.agg #[.int .u64 a0_0, .int .i64 a0_1, .slice A0_2 l0_2.length c0_2], .string a1, .int .i64 a2] rfl (by (try simp only [List.map_toArray, List.map_cons, List.map_nil]); first | done | rfl | (simp only [List.length_drop, List.length_take]; rfl)) ?_; (with_reducible refine (least_Add.calls kj3 a0_0 a0_1 _ _ l0_2 a1 a2 t278 t279 t280 t283 _ ?side1 ?side2 A14.out).mono ?_); (case side1 => exact Kd.C_below HR0_2.out (bl_ HB)); (case side2 => exact HC0_2.out); rintro e w87 ⟨v281, rfl, ho0, hb⟩; refine ⟨_, rfl, ?_⟩; have n0_ := Aside0.mk (Kd.V_elder' (by (with_reducible repeat (first | apply Kd.V_alloc | apply Kd.V_drewN | apply Kd.V_drew)); exact (Kd.V_mono (Kd.V_far (p := ⟨gb277, 2, none⟩) (Kd.V_far (p := ⟨gb277, 1, none⟩) (Kd.V_far (p := ⟨gb277, 0, none⟩) (Kd.V_mono HO276.out (fun k_ hk => (⟨hk, hk.2⟩ : _ ∧ k_ ≠ gb277))) (fun _ hk => hk.2) (.int .u64 t272)) (fun _ hk => hk.2) (.int .i64 t273)) (fun _ hk => hk.2) (.slice Ao85 t274.length co85)) (fun _ h_ => h_.1))) (Kd.S_base ho0) hb); have n1_ := Aside0.mk (Kd.S_lower ho0 (below_size (bl_ HB))); have n2_ := Aside0.mk (blk_below (g := gb269) (o := .cells #[.int .u64 a0_0, .int .i64 a0_1, .slice A0_2 l0_2.length c0_2] 25 (0, 0)) (by (with_reducible repeat (first | refine blk_drewN ?_ _ | refine blk_drew ?_ | refine blk_alloc ?_ _)); refine blk_far ?_ NB269_277.out _; (with_reducible repeat (first | refine blk_drewN ?_ _ | refine blk_drew ?_ | refine blk_alloc ?_ _)); refine blk_far ?_ NB269_277.out _; (with_reducible repeat (first | refine blk_drewN ?_ _ | refine blk_drew ?_ | refine blk_alloc ?_ _)); refine blk_far ?_ NB269_277.out _; (with_reducible repeat (first | refine blk_drewN ?_ _ | refine blk_drew ?_ | refine blk_alloc ?_ _)); exact BK269.out) hb); have n3_ := Aside0.mk (blk_below (g := gb277) (o := .cells #[.int .u64 t272, .int .i64 t273, .slice Ao85 t274.length co85] 30 (0, 0)) (by (with_reducible repeat (first | refine blk_drewN ?_ _ | refine blk_drew ?_ | refine blk_alloc ?_ _)); refine blk_put (cs := #[.int .u64 t272, .int .i64 t273, .slice none 0 0]) ?_ 2 _ rfl; (with_reducible repeat (first | refine blk_drewN ?_ _ | refine blk_drew ?_ | refine blk_alloc ?_ _)); refine blk_put (cs := #[.int .u64 t272, .int .i64 0, .slice none 0 0]) ?_ 1 _ rfl; (with_reducible repeat (first | refine blk_drewN ?_ _ | refine blk_drew ?_ | refine blk_alloc ?_ _)); refine blk_put (cs := #[.int .u64 0, .int .i64 0, .slice none 0 0]) ?_ 0 _ rfl; (with_reducible repeat (first | refine blk_drewN ?_ _ | refine blk_drew ?_ | refine blk_alloc ?_ _)); exact BK277.out) hb); have n4_ := Aside0.mk (below_step (bl_ HB) hb); clear HO276; clear BK269; clear BK277; clear HB; have HO276 := n0_; have HO282 := n1_; have BK269 := n2_; have BK277 := n3_; have HB := n4_; clear n0_ n1_ n2_ n3_ n4_; (try clear hb); (try clear hb2); (try clear hk); (try clear hi); (try clear ho0)) | ((with_reducible refine gate_dst (N := 8) rfl ?_); (try (refine gate_guard (by rfl) ?_; dsimp only)); refine box_event ?hg (N := 8) ?hd (cs := #[.int .u64 0, .int .i64 0, .slice none 0 0]) (t := 25) ?hr ?_; (case hd => rfl); (case hg => rfl); (case hr => first | (go_simp; done) | (go_simp; rfl)); intro gb284 hg w88 hbox hb; have n0_ := Aside0.mk (Kd.V_below (Kd.V_elderB (by (with_reducible repeat (first | apply Kd.V_alloc | apply Kd.V_drewN | apply Kd.V_drew)); exact HO276.out) gb284 (Nat.le_of_eq hg.symm)) hb); have n1_ := Aside0.mk (Kd.S_below (by (with_reducible repeat (first | apply Kd.S_alloc | apply Kd.S_drewN | apply Kd.S_drew)); exact HO282.out) hb); have n2_ := Aside0.mk (blk_below (bk_ BK269) hb); have n3_ := Aside0.mk (blk_below (bk_ BK277) hb); have n4_ := Aside0.mk (below_step (bl_ HB) hb); have n5_ := Aside0.mk (hbox); have n6_ := Aside0.mk ((by rw [hg]; exact (below_size (bl_ HB)) : w.heap.size ≤ gb284)); have n7_ := Aside0.mk ((by rw [hg]; exact (below_size (bl_ HB)) : w.heap.size ≤ gb284)); have n8_ := Aside0.mk ((by rw [hg]; exact Nat.ne_of_lt (blk_lt (g := gb269) (o := .cells #[.int .u64 a0_0, .int .i64 a0_1, .slice A0_2 l0_2.length c0_2] 25 (0, 0)) (bk_ BK269)) : gb269 ≠ gb284)); have n9_ := Aside0.mk ((by rw [hg]; exact Nat.ne_of_gt (blk_lt (g := gb269) (o := .cells #[.int .u64 a0_0, .int .i64 a0_1, .slice A0_2 l0_2.length c0_2] 25 (0, 0)) (bk_ BK269)) : gb284 ≠ gb269)); have n10_ := Aside0.mk ((by rw [hg]; exact Nat.ne_of_lt (blk_lt (g := gb277) (o := .cells #[.int .u64 t272, .int .i64 t273, .slice Ao85 t274.length co85] 30 (0, 0)) (bk_ BK277)) : gb277 ≠ gb284)); have n11_ := Aside0.mk ((by rw [hg]; exact Nat.ne_of_gt (blk_lt (g := gb277) (o := .cells #[.int .u64 t272, .int .i64 t273, .slice Ao85 t274.length co85] 30 (0, 0)) (bk_ BK277)) : gb284 ≠ gb277)); clear HO276; clear HO282; clear BK269; clear BK277; clear HB; have HO276 := n0_; have HO282 := n1_; have BK269 := n2_; have BK277 := n3_; have HB := n4_; have BK284 := n5_; have GW284 := n6_; have GE284 := n7_; have NB269_284 := n8_; have NB284_269 := n9_; have NB277_284 := n10_; have NB284_277 := n11_; clear n0_ n1_ n2_ n3_ n4_ n5_ n6_ n7_ n8_ n9_ n10_ n11_; clear hb hbox hg; have hnb89 := NB284_269.out; have hnc89 := NB269_284.out; have hnb90 := NB284_277.out; have hnc90 := NB277_284.out; have hcz91_0 : w88.cell? ⟨gb284, 0, none⟩ = some (.int .u64 0) := (blk_cell BK284.out 0).trans rfl; have hcz91_1 : w88.cell? ⟨gb284, 1, none⟩ = some (.int .i64 0) := (blk_cell BK284.out 1).trans rfl; have hcz91_2 : w88.cell? ⟨gb284, 2, none⟩ = some (.slice none 0 0) := (blk_cell BK284.out 2).trans rfl; have hfz91_0 := blk_frozen BK284.out 0; have hfz91_1 := blk_frozen BK284.out 1; have hfz91_2 := blk_frozen BK284.out 2; obtain ⟨Ao92, co92, eo92⟩ := Kd.S_slice HO282.out; subst eo92; have hcz93_0 : w88.cell? ⟨gb269, 0, none⟩ = some (.int .u64 a0_0) := (blk_cell BK269.out 0).trans rfl; have hcz93_1 : w88.cell? ⟨gb269, 1, none⟩ = some (.int .i64 a0_1) := (blk_cell BK269.out 1).trans rfl; have hcz93_2 : w88.cell? ⟨gb269, 2, none⟩ = some (.slice A0_2 l0_2.length c0_2) := (blk_cell BK269.out 2).trans rfl; have hfz93_0 := blk_frozen BK269.out 0; have hfz93_1 := blk_frozen BK269.out 1; have hfz93_2 := blk_frozen BK269.out 2) | ((with_reducible refine gate_callee (f := 16) rfl ?_); refine goesL_ (some 35) rfl rfl Try.func16 (by kernel_rfl) rfl #[.agg #[.int .u64 a0_0, .int .i64 a0_1, .slice A0_2 l0_2.length c0_2], .string a1] rfl (by (try simp only [List.map_toArray, List.map_cons, List.map_nil]); first | done | rfl | (simp only [List.length_drop, List.length_take]; rfl)) ?_; (with_reducible refine (least_Get.calls kj3 a0_0 a0_1 _ _ l0_2 a1 t285 false _ ?side1 ?side2 A15.out).mono ?_); (case side1 => exact Kd.C_below HR0_2.out (bl_ HB)); (case side2 => exact HC0_2.out); rintro e w94 ⟨rfl, hb⟩; refine ⟨_, rfl, ?_⟩; have n0_ := Aside0.mk (Kd.V_below (by (with_reducible repeat (first | apply Kd.V_alloc | apply Kd.V_drewN | apply Kd.V_drew)); exact (Kd.V_mono (Kd.V_far (p := ⟨gb284, 2, none⟩) (Kd.V_far (p := ⟨gb284, 1, none⟩) (Kd.V_far (p := ⟨gb284, 0, none⟩) (Kd.V_mono HO276.out (fun k_ hk => (⟨hk, hk.2⟩ : _ ∧ k_ ≠ gb284))) (fun _ hk => hk.2) (.int .u64 t278)) (fun _ hk => hk.2) (.int .i64 t279)) (fun _ hk => hk.2) (.slice Ao92 t280.length co92)) (fun _ h_ => h_.1))) hb); have n1_ := Aside0.mk (Kd.S_below (by (with_reducible repeat (first | apply Kd.S_alloc | apply Kd.S_drewN | apply Kd.S_drew)); exact (Kd.S_mono (Kd.S_far (p := ⟨gb284, 2, none⟩) (Kd.S_far (p := ⟨gb284, 1, none⟩) (Kd.S_far (p := ⟨gb284, 0, none⟩) (Kd.S_types HO282.out BK284.out (by decide)) (fun _ hk => hk.2) (.int .u64 t278)) (fun _ hk => hk.2) (.int .i64 t279)) (fun _ hk => hk.2) (.slice Ao92 t280.length co92)) (fun _ h_ => h_.1))) hb); have n2_ := Aside0.mk (blk_below (g := gb269) (o := .cells #[.int .u64 a0_0, .int .i64 a0_1, .slice A0_2 l0_2.length c0_2] 25 (0, 0)) (by (with_reducible repeat (first | refine blk_drewN ?_ _ | refine blk_drew ?_ | refine blk_alloc ?_ _)); refine blk_far ?_ NB269_284.out _; (with_reducible repeat (first | refine blk_drewN ?_ _ | refine blk_drew ?_ | refine blk_alloc ?_ _)); refine blk_far ?_ NB269_284.out _; (with_reducible repeat (first | refine blk_drewN ?_ _ | refine blk_drew ?_ | refine blk_alloc ?_ _)); refine blk_far ?_ NB269_284.out _; (with_reducible repeat (first | refine blk_drewN ?_ _ | refine blk_drew ?_ | refine blk_alloc ?_ _)); exact BK269.out) hb); have n3_ := Aside0.mk (blk_below (g := gb277) (o := .cells #[.int .u64 t272, .int .i64 t273, .slice Ao85 t274.length co85] 30 (0, 0)) (by (with_reducible repeat (first | refine blk_drewN ?_ _ | refine blk_drew ?_ | refine blk_alloc ?_ _)); refine blk_far ?_ NB277_284.out _; (with_reducible repeat (first | refine blk_drewN ?_ _ | refine blk_drew ?_ | refine blk_alloc ?_ _)); refine blk_far ?_ NB277_284.out _; (with_reducible repeat (first | refine blk_drewN ?_ _ | refine blk_drew ?_ | refine blk_alloc ?_ _)); refine blk_far ?_ NB277_284.out _; (with_reducible repeat (first | refine blk_drewN ?_ _ | refine blk_drew ?_ | refine blk_alloc ?_ _)); exact BK277.out) hb); have n4_ := Aside0.mk (blk_below (g := gb284) (o := .cells #[.int .u64 t278, .int .i64 t279, .slice Ao92 t280.length co92] 25 (0, 0)) (by (with_reducible repeat (first | refine blk_drewN ?_ _ | refine blk_drew ?_ | refine blk_alloc ?_ _)); refine blk_put (cs := #[.int .u64 t278, .int .i64 t279, .slice none 0 0]) ?_ 2 _ rfl; (with_reducible repeat (first | refine blk_drewN ?_ _ | refine blk_drew ?_ | refine blk_alloc ?_ _)); refine blk_put (cs := #[.int .u64 t278, .int .i64 0, .slice none 0 0]) ?_ 1 _ rfl; (with_reducible repeat (first | refine blk_drewN ?_ _ | refine blk_drew ?_ | refine blk_alloc ?_ _)); refine blk_put (cs := #[.int .u64 0, .int .i64 0, .slice none 0 0]) ?_ 0 _ rfl; (with_reducible repeat (first | refine blk_drewN ?_ _ | refine blk_drew ?_ | refine blk_alloc ?_ _)); exact BK284.out) hb); have n5_ := Aside0.mk (below_step (bl_ HB) hb); clear HO276; clear HO282; clear BK269; clear BK277; clear BK284; clear HB; have HO276 := n0_; have HO282 := n1_; have BK269 := n2_; have BK277 := n3_; have BK284 := n4_; have HB := n5_; clear n0_ n1_ n2_ n3_ n4_ n5_; (try clear hb); (try clear hb2); (try clear hk); (try clear hi); have hcz95_0 : w94.cell? ⟨gb277, 0, none⟩ = some (.int .u64 t272) := (blk_cell BK277.out 0).trans rfl; have hcz95_1 : w94.cell? ⟨gb277, 1, none⟩ = some (.int .i64 t273) := (blk_cell BK277.out 1).trans rfl; have hcz95_2 : w94.cell? ⟨gb277, 2, none⟩ = some (.slice Ao85 t274.length co85) := (blk_cell BK277.out 2).trans rfl; have hfz95_0 := blk_frozen BK277.out 0; have hfz95_1 := blk_frozen BK277.out 1; have hfz95_2 := blk_frozen BK277.out 2) | ((with_reducible refine gate_callee (f := 13) rfl ?_); refine goesL_ (some 39) rfl rfl Try.func13 (by kernel_rfl) rfl #[.agg #[.int .u64 t272, .int .i64 t273, .slice Ao85 t274.length co85]] rfl (by (try simp only [List.map_toArray, List.map_cons, List.map_nil]); first | done | rfl | (simp only [List.length_drop, List.length_take]; rfl)) ?_; (with_reducible refine (rillmeterref11_Right.calls kj3 t272 t273 _ _ t274 false _ ?side1 ?side2 A16.out).mono ?_); (case side1 => repeat (first | exact (Kd.V_reads' HO276.out).2.2 | (with_reducible refine Kd.C_alloc ?_ _) | (with_reducible refine Kd.C_drewN ?_ _) | (with_reducible refine Kd.C_drew ?_))); (case side2 => exact (Kd.V_reads' HO276.out).2.1); rintro e w96 ⟨rfl, hb⟩; refine ⟨_, rfl, ?_⟩; have n0_ := Aside0.mk (Kd.V_below (by (with_reducible repeat (first | apply Kd.V_alloc | apply Kd.V_drewN | apply Kd.V_drew)); exact HO276.out) hb); have n1_ := Aside0.mk (Kd.S_below (by (with_reducible repeat (first | apply Kd.S_alloc | apply Kd.S_drewN | apply Kd.S_drew)); exact HO282.out) hb); have n2_ := Aside0.mk (blk_below (bk_ BK269) hb); have n3_ := Aside0.mk (blk_below (bk_ BK277) hb); have n4_ := Aside0.mk (blk_below (bk_ BK284) hb); have n5_ := Aside0.mk (below_step (bl_ HB) hb); clear HO276; clear HO282; clear BK269; clear BK277; clear BK284; clear HB; have HO276 := n0_; have HO282 := n1_; have BK269 := n2_; have BK277 := n3_; have BK284 := n4_; have HB := n5_; clear n0_ n1_ n2_ n3_ n4_ n5_; (try clear hb); (try clear hb2); (try clear hk); (try clear hi); have hcz97_0 : w96.cell? ⟨gb269, 0, none⟩ = some (.int .u64 a0_0) := (blk_cell BK269.out 0).trans rfl; have hcz97_1 : w96.cell? ⟨gb269, 1, none⟩ = some (.int .i64 a0_1) := (blk_cell BK269.out 1).trans rfl; have hcz97_2 : w96.cell? ⟨gb269, 2, none⟩ = some (.slice A0_2 l0_2.length c0_2) := (blk_cell BK269.out 2).trans rfl; have hfz97_0 := blk_frozen BK269.out 0; have hfz97_1 := blk_frozen BK269.out 1; have hfz97_2 := blk_frozen BK269.out 2) | ((with_reducible refine gate_callee (f := 17) rfl ?_); refine goesL_ (some 42) rfl rfl Try.func17 (by kernel_rfl) rfl #[.agg #[.int .u64 a0_0, .int .i64 a0_1, .slice A0_2 l0_2.length c0_2]] rfl (by (try simp only [List.map_toArray, List.map_cons, List.map_nil]); first | done | rfl | (simp only [List.length_drop, List.length_take]; rfl)) ?_; (with_reducible refine (least_Right.calls kj3 a0_0 a0_1 _ _ l0_2 false _ ?side1 ?side2 A73.out).mono ?_); (case side1 => repeat (first | exact (Kd.C_below HR0_2.out HB.out) | (with_reducible refine Kd.C_alloc ?_ _) | (with_reducible refine Kd.C_drewN ?_ _) | (with_reducible refine Kd.C_drew ?_))); (case side2 => exact HC0_2.out); rintro e w98 ⟨rfl, hb⟩; refine ⟨_, rfl, ?_⟩; have n0_ := Aside0.mk (Kd.V_below (by (with_reducible repeat (first | apply Kd.V_alloc | apply Kd.V_drewN | apply Kd.V_drew)); exact HO276.out) hb); have n1_ := Aside0.mk (Kd.S_below (by (with_reducible repeat (first | apply Kd.S_alloc | apply Kd.S_drewN | apply Kd.S_drew)); exact HO282.out) hb); have n2_ := Aside0.mk (blk_below (bk_ BK269) hb); have n3_ := Aside0.mk (blk_below (bk_ BK277) hb); have n4_ := Aside0.mk (blk_below (bk_ BK284) hb); have n5_ := Aside0.mk (below_step (bl_ HB) hb); clear HO276; clear HO282; clear BK269; clear BK277; clear BK284; clear HB; have HO276 := n0_; have HO282 := n1_; have BK269 := n2_; have BK277 := n3_; have BK284 := n4_; have HB := n5_; clear n0_ n1_ n2_ n3_ n4_ n5_; (try clear hb); (try clear hb2); (try clear hk); (try clear hi); have hcz99_0 : w98.cell? ⟨gb284, 0, none⟩ = some (.int .u64 t278) := (blk_cell BK284.out 0).trans rfl; have hcz99_1 : w98.cell? ⟨gb284, 1, none⟩ = some (.int .i64 t279) := (blk_cell BK284.out 1).trans rfl; have hcz99_2 : w98.cell? ⟨gb284, 2, none⟩ = some (.slice Ao92 t280.length co92) := (blk_cell BK284.out 2).trans rfl; have hfz99_0 := blk_frozen BK284.out 0; have hfz99_1 := blk_frozen BK284.out 1; have hfz99_2 := blk_frozen BK284.out 2) | (go_at_call 12; (with_reducible refine (rillmeterlaw11_awake.calls kj3  t289 _ A79.out).mono ?_); rintro e w100 ⟨rfl, hb⟩; have n0_ := Aside0.mk (Kd.V_below (by (with_reducible repeat (first | apply Kd.V_alloc | apply Kd.V_drewN | apply Kd.V_drew)); exact HO276.out) hb); have n1_ := Aside0.mk (Kd.S_below (by (with_reducible repeat (first | apply Kd.S_alloc | apply Kd.S_drewN | apply Kd.S_drew)); exact HO282.out) hb); have n2_ := Aside0.mk (blk_below (bk_ BK269) hb); have n3_ := Aside0.mk (blk_below (bk_ BK277) hb); have n4_ := Aside0.mk (blk_below (bk_ BK284) hb); have n5_ := Aside0.mk (below_step (bl_ HB) hb); clear HO276; clear HO282; clear BK269; clear BK277; clear BK284; clear HB; have HO276 := n0_; have HO282 := n1_; have BK269 := n2_; have BK277 := n3_; have BK284 := n4_; have HB := n5_; clear n0_ n1_ n2_ n3_ n4_ n5_; (try clear hb); (try clear hb2); (try clear hk); (try clear hi)))
                    go_ret
                    exact ⟨by first | rfl | (simp [errW_none, errW_some] <;> rfl) | (simp [*, errW_none, errW_some] <;> rfl), bl_ HB⟩
                · rw [if_neg c77] at H
                  have c77b0 : (t285 == 0) = false := beq_eq_false_iff_ne.mpr c77
                  have c77b1 : (t285 != 0) = true := bne_iff_ne.mpr c77
                  exact absurd ((Option.some.inj H).trans hrt.out) (by decide)
              · rw [if_neg c76] at H
                have c76b0 : ((t280.length : Int) == 0) = false := beq_eq_false_iff_ne.mpr c76
                have c76b1 : ((t280.length : Int) != 0) = true := bne_iff_ne.mpr c76
                have c76b2 : ¬ (t280 = []) := fun h_ => c76 (by rw [h_]; rfl)
                exact absurd ((Option.some.inj H).trans hrt.out) (by decide)
            · rw [if_neg c75] at H
              have c75b0 : (t283 == 1) = false := beq_eq_false_iff_ne.mpr c75
              have c75b1 : (t283 != 1) = true := bne_iff_ne.mpr c75
              exact absurd ((Option.some.inj H).trans hrt.out) (by decide)

end Go.Proofs.Yteendbdmkijpkaa.PLeastTurns
