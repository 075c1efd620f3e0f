/- The functions that a law uses, each as a plain function, with the proof that a call of the Go function comes to its answer. Condition of each: the arguments read as the data that it names, and the plain function has an answer. Written by a program of this session (standin.py). -/
import Derived.Test.YtoplnkbhgpamaaaPSolveSumsx0
import Derived.Test.YtoplnkbhgpamaaaPSolveSumsx1
import Derived.Test.YtoplnkbhgpamaaaPSolveSumsx6
import Derived.Test.YtoplnkbhgpamaaaPSolveSumsx7
import Derived.Test.YtoplnkbhgpamaaaPSolveSumsx8
import Derived.Lib.SliceRun
namespace Go.Proofs.Ytoplnkbhgpamaaa.PSolveSums
open Go.RowKit Go.Proofs.YtoplnkbhgpamaaaW.PrintWords Go.Proofs.YtoplnkbhgpamaaaW.PrintLast Go.Proofs.YtoplnkbhgpamaaaW.PrintMore
attribute [local go_sem] max2_int min2_int max_two min_two max_three min_three max_four min_four   -- for this text's walks alone
set_option linter.unusedVariables false
set_option linter.unusedSimpArgs false

/-! ### rillmeterlaw03_SolveSums: function 8 -/
mutual
def rillmeterlaw03_SolveSums.j0 : Nat → List (List Int) → List Int → List Int → Bool → Option (Bool)
  | 0, _, _, _, _ => none
  | k + 1, x0, x1, x2, x30 => if x30 = true then ((rillmeterlaw03_awake.f k).bind fun t254 => (some t254)) else (rillmeterlaw03_SolveSums.l0 k x0 x1 x2 ([] : List Int) (x1.length : Int) 0)
def rillmeterlaw03_SolveSums.l0 : Nat → List (List Int) → List Int → List Int → List Int → Int → Int → Option (Bool)
  | 0, _, _, _, _, _, _ => none
  | k + 1, x0, x1, x2, x7, x33, x34 => if x34 < x33 then (if 0 ≤ x34 then (if x34 < (x1.length : Int) then (if x34 < (x2.length : Int) then ((rillmeterref01_Add.f (rd x1 x34) (rd x2 x34)).bind fun t257 => (if x7.length < 17592186044416 then (rillmeterlaw03_SolveSums.l0 k x0 x1 x2 (x7 ++ [t257]) x33 (wrap64 (x34 + 1))) else (none))) else (none)) else (none)) else (none)) else ((solve_Times.f k x0 x1).bind fun bt261 => ((solve_Times.f k x0 x2).bind fun bt265 => ((solve_Times.f k x0 x7).bind fun bt269 => (if bt261.2 = 0 then (if (bt261.1.length : Int) = (x0.length : Int) then (if (bt265.1.length : Int) = (x0.length : Int) then (rillmeterlaw03_SolveSums.j2 k bt261.1 bt265.1 bt265.2 bt269.1 bt269.2 ((bt269.1.length : Int) != (x0.length : Int))) else (rillmeterlaw03_SolveSums.j2 k bt261.1 bt265.1 bt265.2 bt269.1 bt269.2 true)) else (rillmeterlaw03_SolveSums.j2 k bt261.1 bt265.1 bt265.2 bt269.1 bt269.2 true)) else (if bt265.2 = bt261.2 then (if bt269.2 = bt261.2 then ((rillmeterlaw03_awake.f k).bind fun t273 => (some t273)) else (some false)) else (some false))))))
def rillmeterlaw03_SolveSums.j2 : Nat → List Int → List Int → Int → List Int → Int → Bool → Option (Bool)
  | 0, _, _, _, _, _, _ => none
  | k + 1, x9, x11, x12, x13, x14, x99 => if x99 = true then (some false) else (rillmeterlaw03_SolveSums.l1 k x9 x11 x12 x13 x14 (x13.length : Int) 0)
def rillmeterlaw03_SolveSums.l1 : Nat → List Int → List Int → Int → List Int → Int → Int → Int → Option (Bool)
  | 0, _, _, _, _, _, _, _ => none
  | k + 1, x9, x11, x12, x13, x14, x101, x102 => if x102 < x101 then (if 0 ≤ x102 then (if x102 < (x13.length : Int) then (if x102 < (x9.length : Int) then (if x102 < (x11.length : Int) then ((rillmeterref01_Add.f (rd x9 x102) (rd x11 x102)).bind fun t277 => (if (rd x13 x102) = t277 then (rillmeterlaw03_SolveSums.l1 k x9 x11 x12 x13 x14 x101 (wrap64 (x102 + 1))) else (some false))) else (none)) else (none)) else (none)) else (none)) else (if x12 = 0 then (if x14 = 0 then ((rillmeterlaw03_awake.f k).bind fun t278 => (some t278)) else (some false)) else (some false))
end
def rillmeterlaw03_SolveSums.f (k : Nat) (l0 : List (List Int)) (l1 : List Int) (l2 : List Int) : Option (Bool) := (rillmeterref03_Small.f k l0 32).bind fun t253 => (if t253 = true then (if (l1.length : Int) > 32 then (rillmeterlaw03_SolveSums.j0 k l0 l1 l2 true) else (rillmeterlaw03_SolveSums.j0 k l0 l1 l2 ((l1.length : Int) != (l2.length : Int)))) else (rillmeterlaw03_SolveSums.j0 k l0 l1 l2 true))
theorem rillmeterlaw03_SolveSums.mono_l : ∀ k, (∀ y0 y1 y2 y3, LeO (rillmeterlaw03_SolveSums.j0 k y0 y1 y2 y3) (rillmeterlaw03_SolveSums.j0 (k + 1) y0 y1 y2 y3)) ∧ (∀ y0 y1 y2 y3 y4 y5, LeO (rillmeterlaw03_SolveSums.l0 k y0 y1 y2 y3 y4 y5) (rillmeterlaw03_SolveSums.l0 (k + 1) y0 y1 y2 y3 y4 y5)) ∧ (∀ y0 y1 y2 y3 y4 y5, LeO (rillmeterlaw03_SolveSums.j2 k y0 y1 y2 y3 y4 y5) (rillmeterlaw03_SolveSums.j2 (k + 1) y0 y1 y2 y3 y4 y5)) ∧ (∀ y0 y1 y2 y3 y4 y5 y6, LeO (rillmeterlaw03_SolveSums.l1 k y0 y1 y2 y3 y4 y5 y6) (rillmeterlaw03_SolveSums.l1 (k + 1) y0 y1 y2 y3 y4 y5 y6))
  | 0 => ⟨fun _ _ _ _ r h => by simp [rillmeterlaw03_SolveSums.j0] at h, fun _ _ _ _ _ _ r h => by simp [rillmeterlaw03_SolveSums.l0] at h, fun _ _ _ _ _ _ r h => by simp [rillmeterlaw03_SolveSums.j2] at h, fun _ _ _ _ _ _ _ r h => by simp [rillmeterlaw03_SolveSums.l1] at h⟩
  | k + 1 => by
    obtain ⟨ih0, ih1, ih2, ih3⟩ := rillmeterlaw03_SolveSums.mono_l k
    refine ⟨?_, ?_, ?_, ?_⟩
    · intro y0 y1 y2 y3
      unfold rillmeterlaw03_SolveSums.j0
      repeat' first
      | (with_reducible exact ih0 _ _ _ _)
      | (with_reducible exact ih1 _ _ _ _ _ _)
      | (with_reducible exact ih2 _ _ _ _ _ _)
      | (with_reducible exact ih3 _ _ _ _ _ _ _)
      | (with_reducible exact rillmeterlaw03_awake.mono _)
      | (with_reducible exact rillmeterref03_Small.mono _ _ _)
      | (with_reducible exact solve_Times.mono _ _ _)
      | (with_reducible exact LeO.refl _)
      | (with_reducible exact LeO.none _)
      | (with_reducible refine LeO.ite ?_ ?_)
      | (with_reducible refine LeO.bind ?_ (fun _ => ?_))
      | exact ih0 _ _ _ _
      | exact ih1 _ _ _ _ _ _
      | exact ih2 _ _ _ _ _ _
      | exact ih3 _ _ _ _ _ _ _
      | exact rillmeterlaw03_awake.mono _
      | exact rillmeterref03_Small.mono _ _ _
      | exact solve_Times.mono _ _ _
      | exact LeO.none _
      | refine LeO.ite ?_ ?_
      | refine LeO.bind ?_ (fun _ => ?_)
    · intro y0 y1 y2 y3 y4 y5
      unfold rillmeterlaw03_SolveSums.l0
      repeat' first
      | (with_reducible exact ih0 _ _ _ _)
      | (with_reducible exact ih1 _ _ _ _ _ _)
      | (with_reducible exact ih2 _ _ _ _ _ _)
      | (with_reducible exact ih3 _ _ _ _ _ _ _)
      | (with_reducible exact rillmeterlaw03_awake.mono _)
      | (with_reducible exact rillmeterref03_Small.mono _ _ _)
      | (with_reducible exact solve_Times.mono _ _ _)
      | (with_reducible exact LeO.refl _)
      | (with_reducible exact LeO.none _)
      | (with_reducible refine LeO.ite ?_ ?_)
      | (with_reducible refine LeO.bind ?_ (fun _ => ?_))
      | exact ih0 _ _ _ _
      | exact ih1 _ _ _ _ _ _
      | exact ih2 _ _ _ _ _ _
      | exact ih3 _ _ _ _ _ _ _
      | exact rillmeterlaw03_awake.mono _
      | exact rillmeterref03_Small.mono _ _ _
      | exact solve_Times.mono _ _ _
      | exact LeO.none _
      | refine LeO.ite ?_ ?_
      | refine LeO.bind ?_ (fun _ => ?_)
    · intro y0 y1 y2 y3 y4 y5
      unfold rillmeterlaw03_SolveSums.j2
      repeat' first
      | (with_reducible exact ih0 _ _ _ _)
      | (with_reducible exact ih1 _ _ _ _ _ _)
      | (with_reducible exact ih2 _ _ _ _ _ _)
      | (with_reducible exact ih3 _ _ _ _ _ _ _)
      | (with_reducible exact rillmeterlaw03_awake.mono _)
      | (with_reducible exact rillmeterref03_Small.mono _ _ _)
      | (with_reducible exact solve_Times.mono _ _ _)
      | (with_reducible exact LeO.refl _)
      | (with_reducible exact LeO.none _)
      | (with_reducible refine LeO.ite ?_ ?_)
      | (with_reducible refine LeO.bind ?_ (fun _ => ?_))
      | exact ih0 _ _ _ _
      | exact ih1 _ _ _ _ _ _
      | exact ih2 _ _ _ _ _ _
      | exact ih3 _ _ _ _ _ _ _
      | exact rillmeterlaw03_awake.mono _
      | exact rillmeterref03_Small.mono _ _ _
      | exact solve_Times.mono _ _ _
      | exact LeO.none _
      | refine LeO.ite ?_ ?_
      | refine LeO.bind ?_ (fun _ => ?_)
    · intro y0 y1 y2 y3 y4 y5 y6
      unfold rillmeterlaw03_SolveSums.l1
      repeat' first
      | (with_reducible exact ih0 _ _ _ _)
      | (with_reducible exact ih1 _ _ _ _ _ _)
      | (with_reducible exact ih2 _ _ _ _ _ _)
      | (with_reducible exact ih3 _ _ _ _ _ _ _)
      | (with_reducible exact rillmeterlaw03_awake.mono _)
      | (with_reducible exact rillmeterref03_Small.mono _ _ _)
      | (with_reducible exact solve_Times.mono _ _ _)
      | (with_reducible exact LeO.refl _)
      | (with_reducible exact LeO.none _)
      | (with_reducible refine LeO.ite ?_ ?_)
      | (with_reducible refine LeO.bind ?_ (fun _ => ?_))
      | exact ih0 _ _ _ _
      | exact ih1 _ _ _ _ _ _
      | exact ih2 _ _ _ _ _ _
      | exact ih3 _ _ _ _ _ _ _
      | exact rillmeterlaw03_awake.mono _
      | exact rillmeterref03_Small.mono _ _ _
      | exact solve_Times.mono _ _ _
      | exact LeO.none _
      | refine LeO.ite ?_ ?_
      | refine LeO.bind ?_ (fun _ => ?_)
theorem rillmeterlaw03_SolveSums.mono : ∀ a0 a1 a2 k, LeO (rillmeterlaw03_SolveSums.f k a0 a1 a2) (rillmeterlaw03_SolveSums.f (k + 1) a0 a1 a2) := by
  intro a0 a1 a2 k
  obtain ⟨ih0, ih1, ih2, ih3⟩ := rillmeterlaw03_SolveSums.mono_l k
  unfold rillmeterlaw03_SolveSums.f
  repeat' first
      | (with_reducible exact ih0 _ _ _ _)
      | (with_reducible exact ih1 _ _ _ _ _ _)
      | (with_reducible exact ih2 _ _ _ _ _ _)
      | (with_reducible exact ih3 _ _ _ _ _ _ _)
      | (with_reducible exact rillmeterlaw03_awake.mono _)
      | (with_reducible exact rillmeterref03_Small.mono _ _ _)
      | (with_reducible exact solve_Times.mono _ _ _)
      | (with_reducible exact LeO.refl _)
      | (with_reducible exact LeO.none _)
      | (with_reducible refine LeO.ite ?_ ?_)
      | (with_reducible refine LeO.bind ?_ (fun _ => ?_))
      | exact ih0 _ _ _ _
      | exact ih1 _ _ _ _ _ _
      | exact ih2 _ _ _ _ _ _
      | exact ih3 _ _ _ _ _ _ _
      | exact rillmeterlaw03_awake.mono _
      | exact rillmeterref03_Small.mono _ _ _
      | exact solve_Times.mono _ _ _
      | exact LeO.none _
      | refine LeO.ite ?_ ?_
      | refine LeO.bind ?_ (fun _ => ?_)
def rillmeterlaw03_SolveSums.T7 : Bool × List (List Nat × List Nat) := (true, [([], []), ([], []), ([], []), ([1, 2], [1, 2]), ([3], [3]), ([], []), ([], []), ([5, 6], [5, 6]), ([7], [7]), ([4, 8], [4, 8]), ([9], [9]), ([0, 10, 9], [0, 10]), ([11, 11, 0, 1, 2, 3, 4, 5, 6, 7, 8, 9, 10, 11], [0, 11])])
def rillmeterlaw03_SolveSums.B7 : List Nat := [0, 0, 0, 6, 14, 0, 0, 96, 224, 510, 1022, 2047, 4095]
theorem rillmeterlaw03_SolveSums.tab7 : rtab .any (opsOf Try.f8 7) = rillmeterlaw03_SolveSums.T7 := by kernel_rfl
theorem rillmeterlaw03_SolveSums.bits7 : waitsOk rillmeterlaw03_SolveSums.T7.2 rillmeterlaw03_SolveSums.B7 = true := by kernel_rfl
def rillmeterlaw03_SolveSums.T19 : Bool × List (List Nat × List Nat) := (true, [([], []), ([], []), ([0, 1], [0, 1]), ([2], [2]), ([], []), ([], []), ([4, 5], [4, 5]), ([6], [6]), ([], []), ([], []), ([8, 9], [8, 9]), ([10], [10]), ([7, 11], [7, 11]), ([3, 12], [3, 12])])
def rillmeterlaw03_SolveSums.B19 : List Nat := [0, 0, 3, 7, 0, 0, 48, 112, 0, 0, 768, 1792, 4080, 8191]
theorem rillmeterlaw03_SolveSums.tab19 : rtab .any (opsOf Try.f8 19) = rillmeterlaw03_SolveSums.T19 := by kernel_rfl
theorem rillmeterlaw03_SolveSums.bits19 : waitsOk rillmeterlaw03_SolveSums.T19.2 rillmeterlaw03_SolveSums.B19 = true := by kernel_rfl
set_option maxHeartbeats 8000000 in
set_option maxRecDepth 100000 in
theorem rillmeterlaw03_SolveSums.calls (k : Nat) (A0 : Option Addr) (c0 : Nat) (l0 : List (List Int)) (A1 : Option Addr) (c1 : Nat) (l1 : List Int) (A2 : Option Addr) (c2 : Nat) (l2 : List Int) (r : Bool) (w : World) (hr0 : Kd.C (Kd.slice 36 (Kd.int .u64)) w A0 l0.length l0) (hc0 : l0.length ≤ c0) (hr1 : Kd.C (Kd.int .u64) w A1 l1.length l1) (hc1 : l1.length ≤ c1) (hr2 : Kd.C (Kd.int .u64) w A2 l2.length l2) (hc2 : l2.length ≤ c2) (h : rillmeterlaw03_SolveSums.f k l0 l1 l2 = some r) (hrt : Aside0 (r = true)) :
    Calls Try.prog 8 #[.slice A0 l0.length c0, .slice A1 l1.length c1, .slice A2 l2.length c2] w fun e w' => e = .returned (.bool r) ∧ Below w.heap.size w w' := by
  have HR0 := Aside0.mk hr0
  have HC0 := Aside0.mk hc0
  clear hr0 hc0
  have HR1 := Aside0.mk hr1
  have HC1 := Aside0.mk hc1
  clear hr1 hc1
  have HR2 := Aside0.mk hr2
  have HC2 := Aside0.mk hc2
  clear hr2 hc2
  have HB := Aside0.mk (Below.refl w.heap.size w)
  have H : ((rillmeterref03_Small.f k l0 32).bind fun t253 => (if t253 = true then (if (l1.length : Int) > 32 then (rillmeterlaw03_SolveSums.j0 k l0 l1 l2 true) else (rillmeterlaw03_SolveSums.j0 k l0 l1 l2 ((l1.length : Int) != (l2.length : Int)))) else (rillmeterlaw03_SolveSums.j0 k l0 l1 l2 true))) = some r := h
  clear h
  have HC4 := Aside0.mk H
  clear H
  go_enter Try.func8, Try.ntmps8
  go_upto_region 1 with (fail)
  go_cut [30] (fun v30 wc => ∃ (kq : Nat) (x30_3 : Bool), v30 = .bool x30_3 ∧ Aside0 (rillmeterlaw03_SolveSums.j0 kq l0 l1 l2 x30_3 = some r) ∧ Aside0 (kq ≤ k) ∧ Aside0 (Below w.heap.size w wc))
  case first =>
    have H := HC4.out
    clear HC4
    replace H := Option.bind_eq_some_iff.mp H
    obtain ⟨t253, A50, H⟩ := H
    replace H : (if t253 = true then (if (l1.length : Int) > 32 then (rillmeterlaw03_SolveSums.j0 k l0 l1 l2 true) else (rillmeterlaw03_SolveSums.j0 k l0 l1 l2 ((l1.length : Int) != (l2.length : Int)))) else (rillmeterlaw03_SolveSums.j0 k l0 l1 l2 true)) = some r := H
    have A5 := Aside0.mk A50
    clear A50
    by_cases c6 : t253 = true
    · subst c6
      have H1 : (if (l1.length : Int) > 32 then (rillmeterlaw03_SolveSums.j0 k l0 l1 l2 true) else (rillmeterlaw03_SolveSums.j0 k l0 l1 l2 ((l1.length : Int) != (l2.length : Int)))) = some r := by rw [if_pos rfl] at H; exact H
      clear H
      have H := H1
      clear H1
      by_cases c7 : (l1.length : Int) > 32
      · rw [if_pos c7] at H
        have c7b0 : decide (32 < (l1.length : Int)) = true := decide_eq_true c7
        have c7b1 : decide (32 < l1.length) = true := decide_eq_true (by omega)
        clear c7
        (first | rw [c7b0] | (simp only [i64_w, i32_w]; rw [c7b0]) | skip)
        have H' := Aside0.mk H
        clear H
        go_wp2_with (first | ((with_reducible refine gate_callee (f := 9) rfl ?_); refine goesL_ (some 17) rfl rfl Try.func9 (by kernel_rfl) rfl #[.slice A0 l0.length c0, .int .i64 32] rfl (by (try simp only [List.map_toArray, List.map_cons, List.map_nil]); first | done | rfl | (simp only [List.length_drop, List.length_take]; rfl)) ?_; (with_reducible refine (rillmeterref03_Small.calls k _ _ l0 32 true _ ?side1 ?side2 A5.out).mono ?_); (case side1 => repeat (first | exact (Kd.C_below HR0.out HB.out) | (with_reducible refine Kd.C_alloc ?_ _) | (with_reducible refine Kd.C_drewN ?_ _) | (with_reducible refine Kd.C_drew ?_))); (case side2 => exact HC0.out); rintro e w' ⟨rfl, ⟨nd, rfl⟩⟩; refine ⟨_, rfl, ?_⟩))
        go_meet
        case rel => exact ⟨_, (true), (by first | rfl | (simp; done) | (simp [*]; done)), H', ⟨by first | omega | exact Nat.le_refl _⟩, ⟨by repeat (first | (with_reducible first | exact HB.out | apply below_alloc | apply pw_below_drewN | apply below_drew1) | exact HB.out)⟩⟩
      · rw [if_neg c7] at H
        have c7b0 : decide (32 < (l1.length : Int)) = false := decide_eq_false c7
        have c7b1 : decide (32 < l1.length) = false := decide_eq_false (by omega)
        clear c7
        (first | rw [c7b0] | (simp only [i64_w, i32_w]; rw [c7b0]) | skip)
        have H' := Aside0.mk H
        clear H
        go_wp2_with (first | ((with_reducible refine gate_callee (f := 9) rfl ?_); refine goesL_ (some 17) rfl rfl Try.func9 (by kernel_rfl) rfl #[.slice A0 l0.length c0, .int .i64 32] rfl (by (try simp only [List.map_toArray, List.map_cons, List.map_nil]); first | done | rfl | (simp only [List.length_drop, List.length_take]; rfl)) ?_; (with_reducible refine (rillmeterref03_Small.calls k _ _ l0 32 true _ ?side1 ?side2 A5.out).mono ?_); (case side1 => repeat (first | exact (Kd.C_below HR0.out HB.out) | (with_reducible refine Kd.C_alloc ?_ _) | (with_reducible refine Kd.C_drewN ?_ _) | (with_reducible refine Kd.C_drew ?_))); (case side2 => exact HC0.out); rintro e w' ⟨rfl, ⟨nd, rfl⟩⟩; refine ⟨_, rfl, ?_⟩))
        go_meet
        case rel => exact ⟨_, (((l1.length : Int) != (l2.length : Int))), (by first | rfl | (simp; done) | (simp [*]; done)), H', ⟨by first | omega | exact Nat.le_refl _⟩, ⟨by repeat (first | (with_reducible first | exact HB.out | apply below_alloc | apply pw_below_drewN | apply below_drew1) | exact HB.out)⟩⟩
    · replace c6 := Bool.eq_false_iff.mpr c6
      subst c6
      have H1 : (rillmeterlaw03_SolveSums.j0 k l0 l1 l2 true) = some r := by rw [if_neg (show ¬ (false = true) by decide)] at H; exact H
      clear H
      have H := H1
      clear H1
      have H' := Aside0.mk H
      clear H
      go_wp2_with (first | ((with_reducible refine gate_callee (f := 9) rfl ?_); refine goesL_ (some 17) rfl rfl Try.func9 (by kernel_rfl) rfl #[.slice A0 l0.length c0, .int .i64 32] rfl (by (try simp only [List.map_toArray, List.map_cons, List.map_nil]); first | done | rfl | (simp only [List.length_drop, List.length_take]; rfl)) ?_; (with_reducible refine (rillmeterref03_Small.calls k _ _ l0 32 false _ ?side1 ?side2 A5.out).mono ?_); (case side1 => repeat (first | exact (Kd.C_below HR0.out HB.out) | (with_reducible refine Kd.C_alloc ?_ _) | (with_reducible refine Kd.C_drewN ?_ _) | (with_reducible refine Kd.C_drew ?_))); (case side2 => exact HC0.out); rintro e w' ⟨rfl, ⟨nd, rfl⟩⟩; refine ⟨_, rfl, ?_⟩))
      go_meet
      case rel => exact ⟨_, (true), (by first | rfl | (simp; done) | (simp [*]; done)), H', ⟨by first | omega | exact Nat.le_refl _⟩, ⟨by repeat (first | (with_reducible first | exact HB.out | apply below_alloc | apply pw_below_drewN | apply below_drew1) | exact HB.out)⟩⟩
  case rest =>
    clear HC4
    try clear c1
    try clear c2
    try clear p2
    try clear c6
    try clear c7
    try clear c7b0
    try clear c7b1
    obtain ⟨kq, x30_3, rfl, HA, HJ3, HB⟩ := hcut
    cases kq with
    | zero => exact absurd HA.out (by simp [rillmeterlaw03_SolveSums.j0])
    | succ kj3 =>
      have H := HA.out
      clear HA
      simp only [rillmeterlaw03_SolveSums.j0] at H
      by_cases c8 : x30_3 = true
      · subst c8
        have H1 : ((rillmeterlaw03_awake.f kj3).bind fun t254 => (some t254)) = some r := by rw [if_pos rfl] at H; exact H
        clear H
        have H := H1
        clear H1
        replace H := Option.bind_eq_some_iff.mp H
        obtain ⟨t254, A90, H⟩ := H
        replace H : (some t254) = some r := H
        have A9 := Aside0.mk A90
        clear A90
        obtain rfl := Option.some.inj H
        go_wp2_with (first | ((with_reducible refine gate_callee (f := 10) rfl ?_); refine goesL_ (some 31) rfl rfl Try.func10 (by kernel_rfl) rfl #[] rfl (by (try simp only [List.map_toArray, List.map_cons, List.map_nil]); first | done | rfl | (simp only [List.length_drop, List.length_take]; rfl)) ?_; (with_reducible refine (rillmeterlaw03_awake.calls kj3  t254 _ A9.out).mono ?_); rintro e w10 ⟨rfl, hb⟩; refine ⟨_, rfl, ?_⟩; have n0_ := Aside0.mk (below_step (by repeat (first | (with_reducible first | exact HB.out | apply below_alloc | apply pw_below_drewN | apply below_drew1) | exact HB.out)) hb); clear HB; have HB := n0_; clear n0_; (try clear hb); (try clear hb2); (try clear hk); (try clear hi)))
        go_ret
        exact ⟨by first | rfl | (simp [errW_none, errW_some] <;> rfl) | (simp [*, errW_none, errW_some] <;> rfl), by repeat (first | (with_reducible first | exact HB.out | apply below_alloc | apply pw_below_drewN | apply below_drew1) | exact HB.out)⟩
      · replace c8 := Bool.eq_false_iff.mpr c8
        subst c8
        have H1 : (rillmeterlaw03_SolveSums.l0 kj3 l0 l1 l2 ([] : List Int) (l1.length : Int) 0) = some r := by rw [if_neg (show ¬ (false = true) by decide)] at H; exact H
        clear H
        have H := H1
        clear H1
        have H' := Aside0.mk H
        clear H
        go_wp2
        go_loopg [7, 34] kj3 (fun kq v7 v34 w' => ∃ (x7_2 : List Int) (x34_2 : Int), v34 = .int .i64 x34_2 ∧ Aside0 (rillmeterlaw03_SolveSums.l0 kq l0 l1 l2 x7_2 (l1.length : Int) x34_2 = some r) ∧ Aside0 (kq ≤ kj3) ∧ Aside0 (Kd.R (Kd.int .u64) 36 w' w.heap.size (fun _ => True) v7 x7_2) ∧ Aside0 (Below w.heap.size w w'))
        case atStart => exact ⟨(([] : List Int)), (0), (by first | rfl | (simp; done) | (simp [*]; done)), H', ⟨Nat.le_refl _⟩, ⟨by first | exact Kd.R_nil _ _ _ _ _ | exact Kd.N_nil _ _ _ _ _ | exact Kd.V_nil _ _ _ _ _ | exact Kd.Q_nil _ _ _ _ _ | exact Kd.S_nil _ _ _ _ _⟩, ⟨by repeat (first | (with_reducible first | exact HB.out | apply below_alloc | apply pw_below_drewN | apply below_drew1) | exact HB.out)⟩⟩
        case round =>
          clear H'
          try clear c1
          try clear c2
          try clear p2
          try clear c6
          try clear c7
          try clear c7b0
          try clear c7b1
          try clear c8
          try clear c9
          try clear c10
          try clear p2
          obtain ⟨x7_2, x34_2, rfl, HA, HK2, HO_7, HB⟩ := hrel
          cases gk with
          | zero => exact absurd HA.out (by simp [rillmeterlaw03_SolveSums.l0])
          | succ k2 =>
            have H := HA.out
            clear HA
            simp only [rillmeterlaw03_SolveSums.l0] at H
            by_cases c11 : x34_2 < (l1.length : Int)
            · rw [if_pos c11] at H
              have c11b0 : decide (x34_2 < (l1.length : Int)) = true := decide_eq_true c11
              clear c11
              by_cases c12 : 0 ≤ x34_2
              · rw [if_pos c12] at H
                have c12b0 : decide (0 ≤ x34_2) = true := decide_eq_true c12
                clear c12
                by_cases c13 : x34_2 < (l1.length : Int)
                · rw [if_pos c13] at H
                  have c13b0 : decide (x34_2 < (l1.length : Int)) = true := decide_eq_true c13
                  clear c13
                  by_cases c14 : x34_2 < (l2.length : Int)
                  · rw [if_pos c14] at H
                    have c14b0 : decide (x34_2 < (l2.length : Int)) = true := decide_eq_true c14
                    clear c14
                    replace H := Option.bind_eq_some_iff.mp H
                    obtain ⟨t257, A150, H⟩ := H
                    replace H : (if x7_2.length < 17592186044416 then (rillmeterlaw03_SolveSums.l0 k2 l0 l1 l2 (x7_2 ++ [t257]) (l1.length : Int) (wrap64 (x34_2 + 1))) else (none)) = some r := H
                    have A15 := Aside0.mk A150
                    clear A150
                    by_cases c16 : x7_2.length < 17592186044416
                    · rw [if_pos c16] at H
                      have LMc16 := Aside0.mk c16
                      clear c16
                      obtain ⟨y258, hy258⟩ : ∃ y_ : List Int, y_ = (x7_2 ++ [t257]) := ⟨_, rfl⟩
                      replace H : (rillmeterlaw03_SolveSums.l0 k2 l0 l1 l2 y258 (l1.length : Int) (wrap64 (x34_2 + 1))) = some r := by first | (rw [hy258]; with_reducible exact H) | (have H2_ := (Option.bind_some _ _).symm.trans H; rw [hy258]; with_reducible exact H2_) | (have H2_ := (Option.bind_some _ _).symm.trans H; with_reducible exact H2_) | with_reducible exact H | (rw [hy258]; exact H) | exact H
                      have Ny258 := Aside0.mk hy258
                      clear hy258
                      have H' := Aside0.mk H
                      clear H
                      try go_wp2
                      have n0_ := Aside0.mk (Kd.R_drew HO_7.out)
                      have n1_ := Aside0.mk (below_drew1 HB.out)
                      clear HO_7
                      clear HB
                      have HO_7 := n0_
                      have HB := n1_
                      clear n0_ n1_
                      have p255 : 0 ≤ (x34_2 : Int) := of_decide_eq_true (by first | (with_reducible assumption) | assumption)
                      have q255 : x34_2 < (l1.length : Int) := of_decide_eq_true (by first | (with_reducible assumption) | assumption)
                      obtain ⟨ad255, e255, hx255_0⟩ := Kd.at_int HR1.out x34_2 p255 q255
                      have hw255_0 := hx255_0
                      cases e255
                      (try replace hx255_0 := (HB.out.cell (World.block_lt_of_cell? w _ hx255_0)).trans hx255_0)
                      replace p255 := eq_true p255
                      replace q255 := eq_true q255
                      have p256 : 0 ≤ (x34_2 : Int) := of_decide_eq_true (by first | (with_reducible assumption) | assumption)
                      have q256 : x34_2 < (l2.length : Int) := of_decide_eq_true (by first | (with_reducible assumption) | assumption)
                      obtain ⟨ad256, e256, hx256_0⟩ := Kd.at_int HR2.out x34_2 p256 q256
                      have hw256_0 := hx256_0
                      cases e256
                      (try replace hx256_0 := (HB.out.cell (World.block_lt_of_cell? w _ hx256_0)).trans hx256_0)
                      replace p256 := eq_true p256
                      replace q256 := eq_true q256
                      refine start_ (n := 13) (S := fun w' => w'.cell? (ad255.add (x34_2).toNat) = some (.int .u64 (rd l1 x34_2)) ∧ w'.cell? (ad256.add (x34_2).toNat) = some (.int .u64 (rd l2 x34_2))) (ds := []) #[false, false, false, false, false, false, false, false, false, false, false, false, false] (by kernel_rfl) rfl rfl ⟨((HB.out.cell (World.block_lt_of_cell? w _ hw255_0)).trans hw255_0), ((HB.out.cell (World.block_lt_of_cell? w _ hw256_0)).trans hw256_0)⟩ (fun hHeld => ?_); refine with_tabW rillmeterlaw03_SolveSums.tab7 rillmeterlaw03_SolveSums.bits7 (fun HT_ HW_ => ?_)
                      generalize wr.drew = w17 at HO_7 HB hx255_0 hx256_0 hHeld ⊢
                      refine pure_ (i := 0) (N := some 37) (v := ?_) (a' := ?_) #[true, false, false, false, false, false, false, false, false, false, false, false, false] rfl rfl (any_of HT_.out (by kernel_rfl)) (fun _ _ _ h => h) (Or.inl ⟨by rfl, ?_⟩) ?_ ?_
                      rotate_left
                      · intro w'
                        go_simp
                        with_reducible rfl
                      rotate_left
                      · simp only [Act.put, List.setIfInBounds_toArray, List.set_cons_zero, List.set_cons_succ, i64_w, i32_w]
                        rfl
                      refine pure_ (i := 1) (N := some 38) (v := ?_) (a' := ?_) #[true, true, false, false, false, false, false, false, false, false, false, false, false] rfl rfl (any_of HT_.out (by kernel_rfl)) (fun _ _ _ h => h) (Or.inl ⟨by rfl, ?_⟩) ?_ ?_
                      rotate_left
                      · intro w'
                        go_simp
                        with_reducible rfl
                      rotate_left
                      · simp only [Act.put, List.setIfInBounds_toArray, List.set_cons_zero, List.set_cons_succ, i64_w, i32_w]
                        rfl
                      refine pure_ (i := 2) (N := some 39) (v := ?_) (a' := ?_) #[true, true, true, false, false, false, false, false, false, false, false, false, false] rfl rfl (any_of HT_.out (by kernel_rfl)) (fun _ _ _ h => h) (Or.inl ⟨by rfl, ?_⟩) ?_ ?_
                      rotate_left
                      · intro w'
                        go_simp
                        with_reducible rfl
                      rotate_left
                      · simp only [Act.put, List.setIfInBounds_toArray, List.set_cons_zero, List.set_cons_succ, i64_w, i32_w]
                        rfl
                      refine pure_ (i := 3) (N := some 40) (v := ?_) (a' := ?_) #[true, true, true, true, false, false, false, false, false, false, false, false, false] rfl rfl (any_of HT_.out (by kernel_rfl)) (fun _ _ _ h => h) (Or.inl ⟨by rfl, ?_⟩) ?_ ?_
                      rotate_left
                      · intro w'
                        go_simp
                        with_reducible rfl
                      rotate_left
                      · simp only [Act.put, List.setIfInBounds_toArray, List.set_cons_zero, List.set_cons_succ, i64_w, i32_w]
                        rfl
                      refine pure_ (i := 5) (N := some 42) (v := ?_) (a' := ?_) #[true, true, true, true, false, true, false, false, false, false, false, false, false] rfl rfl (any_of HT_.out (by kernel_rfl)) (fun _ _ _ h => h) (Or.inl ⟨by rfl, ?_⟩) ?_ ?_
                      rotate_left
                      · intro w'
                        go_simp
                        with_reducible rfl
                      rotate_left
                      · simp only [Act.put, List.setIfInBounds_toArray, List.set_cons_zero, List.set_cons_succ, i64_w, i32_w]
                        rfl
                      refine pure_ (i := 6) (N := some 43) (v := ?_) (a' := ?_) #[true, true, true, true, false, true, true, false, false, false, false, false, false] rfl rfl (any_of HT_.out (by kernel_rfl)) (fun _ _ _ h => h) (Or.inl ⟨by rfl, ?_⟩) ?_ ?_
                      rotate_left
                      · intro w'
                        go_simp
                        with_reducible rfl
                      rotate_left
                      · simp only [Act.put, List.setIfInBounds_toArray, List.set_cons_zero, List.set_cons_succ, i64_w, i32_w]
                        rfl
                      refine pure_ (i := 7) (N := some 44) (v := ?_) (a' := ?_) #[true, true, true, true, false, true, true, true, false, false, false, false, false] rfl rfl (any_of HT_.out (by kernel_rfl)) (fun _ _ _ h => h) (Or.inl ⟨by rfl, ?_⟩) ?_ ?_
                      rotate_left
                      · intro w'
                        go_simp
                        with_reducible rfl
                      rotate_left
                      · simp only [Act.put, List.setIfInBounds_toArray, List.set_cons_zero, List.set_cons_succ, i64_w, i32_w]
                        rfl
                      refine take_ (i := 4) (N := some 41) (v := ?_) (a' := ?_) #[true, true, true, true, true, true, true, true, false, false, false, false, false] rfl rfl (take_ofW HT_.out HW_.out (by kernel_rfl)) (fun _ _ _ h => h) (Or.inl ⟨by rfl, ?_⟩) hHeld ?_ ?_
                      rotate_left
                      · rintro w' ⟨s0, s1⟩
                        go_simp
                        with_reducible rfl
                      rotate_left
                      · simp only [Act.put, List.setIfInBounds_toArray, List.set_cons_zero, List.set_cons_succ, i64_w, i32_w]
                        rfl
                      refine take_ (i := 8) (N := some 45) (v := ?_) (a' := ?_) #[true, true, true, true, true, true, true, true, true, false, false, false, false] rfl rfl (take_ofW HT_.out HW_.out (by kernel_rfl)) (fun _ _ _ h => h) (Or.inl ⟨by rfl, ?_⟩) hHeld ?_ ?_
                      rotate_left
                      · rintro w' ⟨s0, s1⟩
                        go_simp
                        with_reducible rfl
                      rotate_left
                      · simp only [Act.put, List.setIfInBounds_toArray, List.set_cons_zero, List.set_cons_succ, i64_w, i32_w]
                        rfl
                      refine one_ (i := 9) (N := some 46) #[true, true, true, true, true, true, true, true, true, true, false, false, false] rfl rfl (one_of HT_.out (by kernel_rfl)) (by decide) (fun K hK => ?_)
                      refine goes_ Try.func19 (by kernel_rfl) rfl #[.int .u64 (rd l1 x34_2), .int .u64 (rd l2 x34_2)] (by rfl) rfl rfl (by (try simp only [List.map_toArray, List.map_cons, List.map_nil]); first | done | rfl | (simp only [List.length_drop, List.length_take]; rfl)) ?_
                      with_reducible refine (rillmeterref01_Add.calls (rd l1 x34_2) (rd l2 x34_2) t257 _ A15.out).mono ?_
                      rintro e w' ⟨rfl, ⟨nd, rfl⟩⟩
                      refine ⟨_, rfl, ?_⟩
                      refine hK.out _ _ ⟨((HB.out.cell (World.block_lt_of_cell? w _ hw255_0)).trans hw255_0), ((HB.out.cell (World.block_lt_of_cell? w _ hw256_0)).trans hw256_0)⟩ (fun hHeld => ?_)
                      clear hK K
                      refine norm_ (a' := ?_) ?_ ?_
                      rotate_left
                      · show Act.put _ (some 46) _ = _
                        simp only [Act.put, List.setIfInBounds_toArray, List.set_cons_zero, List.set_cons_succ, i64_w, i32_w]
                        rfl
                      refine one_ (i := 10) (N := some 47) #[true, true, true, true, true, true, true, true, true, true, true, false, false] rfl rfl (one_of HT_.out (by kernel_rfl)) (by decide) (fun K hK => ?_)
                      refine value_ (w1 := ?_) (v := ?_) (by rfl) rfl ?_ ?_
                      rotate_left 2
                      · go_simp
                        constructor
                        · rfl
                        · rfl
                      refine hK.out _ _ ⟨(World.cell?_alloc_lt _ _ _ (World.block_lt_of_cell? _ _ (((HB.out.cell (World.block_lt_of_cell? w _ hw255_0)).trans hw255_0)))).trans (((HB.out.cell (World.block_lt_of_cell? w _ hw255_0)).trans hw255_0)), (World.cell?_alloc_lt _ _ _ (World.block_lt_of_cell? _ _ (((HB.out.cell (World.block_lt_of_cell? w _ hw256_0)).trans hw256_0)))).trans (((HB.out.cell (World.block_lt_of_cell? w _ hw256_0)).trans hw256_0))⟩ (fun hHeld => ?_)
                      clear hK K
                      refine norm_ (a' := ?_) ?_ ?_
                      rotate_left
                      · show Act.put _ (some 47) _ = _
                        simp only [Act.put, List.setIfInBounds_toArray, List.set_cons_zero, List.set_cons_succ, i64_w, i32_w]
                        rfl
                      refine one_ (i := 11) (N := some 48) #[true, true, true, true, true, true, true, true, true, true, true, true, false] rfl rfl (one_of HT_.out (by kernel_rfl)) (by decide) (fun K hK => ?_)
                      refine Kd.R_append_step (Kd.int .u64) (w0 := w) w.heap.size (by rfl) (.tmp 37) (.tmp 47) 30 36 (.int .u64 0) 8 rfl Try.underlying30 info36 rfl (by decide) (by omega) u7 x7_2 t257 [.int .u64 t257] (fun _ => True) (fun _ => False) rfl rfl ?aP (fun _ hk => hk.elim) ?aF ?aO ?aB ?aS ?aL ?_
                      (case aP => exact rfl)
                      (case aB => exact (by repeat (first | (with_reducible first | exact HB.out | apply below_alloc | apply pw_below_drewN | apply below_drew1) | exact HB.out)))
                      (case aF => exact (fun _ _ => trivial))
                      (case aO => exact (by (with_reducible repeat (first | apply Kd.R_alloc | apply Kd.R_drewN | apply Kd.R_drew)); exact HO_7.out))
                      (case aS => exact (below_size (by repeat (first | (with_reducible first | exact HB.out | apply below_alloc | apply pw_below_drewN | apply below_drew1) | exact HB.out))))
                      (case aL => have := LMc16.out; omega)
                      intro v259 w18 ho hb hg hat
                      rw [← Ny258.out] at ho
                      have n0_ := Aside0.mk (hb)
                      have n1_ := Aside0.mk (ho)
                      clear HB
                      clear HO_7
                      have HB := n0_
                      have HO260 := n1_
                      clear n0_ n1_
                      clear ho hb hg hat
                      refine hK.out _ _ ⟨((HB.out.cell (World.block_lt_of_cell? w _ hw255_0)).trans hw255_0), ((HB.out.cell (World.block_lt_of_cell? w _ hw256_0)).trans hw256_0)⟩ (fun hHeld => ?_)
                      clear hK K
                      refine norm_ (a' := ?_) ?_ ?_
                      rotate_left
                      · show Act.put _ (some 48) _ = _
                        simp only [Act.put, List.setIfInBounds_toArray, List.set_cons_zero, List.set_cons_succ, i64_w, i32_w]
                        rfl
                      refine pure_ (i := 12) (N := some 7) (v := ?_) (a' := ?_) #[true, true, true, true, true, true, true, true, true, true, true, true, true] rfl rfl (any_of HT_.out (by kernel_rfl)) (fun _ _ _ h => h) (Or.inl ⟨by rfl, ?_⟩) ?_ ?_
                      rotate_left
                      · intro w'
                        go_simp
                        with_reducible rfl
                      rotate_left
                      · simp only [Act.put, List.setIfInBounds_toArray, List.set_cons_zero, List.set_cons_succ, i64_w, i32_w]
                        rfl
                      refine done_ (done_of HT_.out (by kernel_rfl)) ?_
                      try go_wp2
                      go_roundg k2
                      case measure => have := HJ3.out; have := HK2.out; omega
                      case rel => exact ⟨(y258), (wrap64 (x34_2 + 1)), (by first | rfl | (simp; done) | (simp [*]; done)), H', ⟨by have := HJ3.out; have := HK2.out; omega⟩, ⟨by (with_reducible repeat (first | apply Kd.R_alloc | apply Kd.R_drewN | apply Kd.R_drew)); exact HO260.out⟩, ⟨by repeat (first | (with_reducible first | exact HB.out | apply below_alloc | apply pw_below_drewN | apply below_drew1) | exact HB.out)⟩⟩
                    · rw [if_neg c16] at H
                      exact absurd H (by simp)
                  · rw [if_neg c14] at H
                    exact absurd H (by simp)
                · rw [if_neg c13] at H
                  exact absurd H (by simp)
              · rw [if_neg c12] at H
                exact absurd H (by simp)
            · rw [if_neg c11] at H
              have c11b0 : decide (x34_2 < (l1.length : Int)) = false := decide_eq_false c11
              clear c11
              replace H := Option.bind_eq_some_iff.mp H
              obtain ⟨⟨t261, t262⟩, A190, H⟩ := H
              replace H : ((solve_Times.f k2 l0 l2).bind fun bt265 => ((solve_Times.f k2 l0 x7_2).bind fun bt269 => (if t262 = 0 then (if (t261.length : Int) = (l0.length : Int) then (if (bt265.1.length : Int) = (l0.length : Int) then (rillmeterlaw03_SolveSums.j2 k2 t261 bt265.1 bt265.2 bt269.1 bt269.2 ((bt269.1.length : Int) != (l0.length : Int))) else (rillmeterlaw03_SolveSums.j2 k2 t261 bt265.1 bt265.2 bt269.1 bt269.2 true)) else (rillmeterlaw03_SolveSums.j2 k2 t261 bt265.1 bt265.2 bt269.1 bt269.2 true)) else (if bt265.2 = t262 then (if bt269.2 = t262 then ((rillmeterlaw03_awake.f k2).bind fun t273 => (some t273)) else (some false)) else (some false))))) = some r := H
              have A19 := Aside0.mk A190
              clear A190
              replace H := Option.bind_eq_some_iff.mp H
              obtain ⟨⟨t265, t266⟩, A200, H⟩ := H
              replace H : ((solve_Times.f k2 l0 x7_2).bind fun bt269 => (if t262 = 0 then (if (t261.length : Int) = (l0.length : Int) then (if (t265.length : Int) = (l0.length : Int) then (rillmeterlaw03_SolveSums.j2 k2 t261 t265 t266 bt269.1 bt269.2 ((bt269.1.length : Int) != (l0.length : Int))) else (rillmeterlaw03_SolveSums.j2 k2 t261 t265 t266 bt269.1 bt269.2 true)) else (rillmeterlaw03_SolveSums.j2 k2 t261 t265 t266 bt269.1 bt269.2 true)) else (if t266 = t262 then (if bt269.2 = t262 then ((rillmeterlaw03_awake.f k2).bind fun t273 => (some t273)) else (some false)) else (some false)))) = some r := H
              have A20 := Aside0.mk A200
              clear A200
              replace H := Option.bind_eq_some_iff.mp H
              obtain ⟨⟨t269, t270⟩, A210, H⟩ := H
              replace H : (if t262 = 0 then (if (t261.length : Int) = (l0.length : Int) then (if (t265.length : Int) = (l0.length : Int) then (rillmeterlaw03_SolveSums.j2 k2 t261 t265 t266 t269 t270 ((t269.length : Int) != (l0.length : Int))) else (rillmeterlaw03_SolveSums.j2 k2 t261 t265 t266 t269 t270 true)) else (rillmeterlaw03_SolveSums.j2 k2 t261 t265 t266 t269 t270 true)) else (if t266 = t262 then (if t270 = t262 then ((rillmeterlaw03_awake.f k2).bind fun t273 => (some t273)) else (some false)) else (some false))) = some r := H
              have A21 := Aside0.mk A210
              clear A210
              by_cases c22 : t262 = 0
              · rw [if_pos c22] at H
                have c22b0 : (t262 == 0) = true := beq_iff_eq.mpr c22
                have c22b1 : (t262 != 0) = false := bne_eq_false_iff_eq.mpr c22
                clear c22
                have HC23 := Aside0.mk H
                clear H
                go_upto_region 14 with (first | ((with_reducible refine gate_callee (f := 18) rfl ?_); refine goesL_ (some 53) rfl rfl Try.func18 (by kernel_rfl) rfl #[.slice A0 l0.length c0, .slice A1 l1.length c1] rfl (by (try simp only [List.map_toArray, List.map_cons, List.map_nil]); first | done | rfl | (simp only [List.length_drop, List.length_take]; rfl)) ?_; (with_reducible refine (solve_Times.calls k2 _ _ l0 _ _ l1 t261 t262 _ ?side1 ?side2 ?side3 ?side4 A19.out).mono ?_); (case side1 => repeat (first | exact (Kd.C_below HR0.out HB.out) | (with_reducible refine Kd.C_alloc ?_ _) | (with_reducible refine Kd.C_drewN ?_ _) | (with_reducible refine Kd.C_drew ?_))); (case side2 => exact HC0.out); (case side3 => repeat (first | exact (Kd.C_below HR1.out HB.out) | (with_reducible refine Kd.C_alloc ?_ _) | (with_reducible refine Kd.C_drewN ?_ _) | (with_reducible refine Kd.C_drew ?_))); (case side4 => exact HC1.out); rintro e w24 ⟨v263, rfl, ho0, hb⟩; refine ⟨_, rfl, ?_⟩; have n0_ := Aside0.mk (Kd.R_elder' (by (with_reducible repeat (first | apply Kd.R_alloc | apply Kd.R_drewN | apply Kd.R_drew)); exact HO_7.out) (Kd.R_base ho0) hb); have n1_ := Aside0.mk (Kd.R_lower (Kd.R_new' ho0 (Kd.R_lt (by (with_reducible repeat (first | apply Kd.R_alloc | apply Kd.R_drewN | apply Kd.R_drew)); exact HO_7.out))) (below_size (by repeat (first | (with_reducible first | exact HB.out | apply below_alloc | apply pw_below_drewN | apply below_drew1) | exact HB.out)))); have n2_ := Aside0.mk (below_step (by repeat (first | (with_reducible first | exact HB.out | apply below_alloc | apply pw_below_drewN | apply below_drew1) | exact HB.out)) hb); clear HO_7; clear HB; have HO_7 := n0_; have HO264 := n1_; have HB := n2_; clear n0_ n1_ n2_; (try clear hb); (try clear hb2); (try clear hk); (try clear hi); (try clear ho0)) | ((with_reducible refine gate_callee (f := 18) rfl ?_); refine goesL_ (some 59) rfl rfl Try.func18 (by kernel_rfl) rfl #[.slice A0 l0.length c0, .slice A2 l2.length c2] rfl (by (try simp only [List.map_toArray, List.map_cons, List.map_nil]); first | done | rfl | (simp only [List.length_drop, List.length_take]; rfl)) ?_; (with_reducible refine (solve_Times.calls k2 _ _ l0 _ _ l2 t265 t266 _ ?side1 ?side2 ?side3 ?side4 A20.out).mono ?_); (case side1 => repeat (first | exact (Kd.C_below HR0.out HB.out) | (with_reducible refine Kd.C_alloc ?_ _) | (with_reducible refine Kd.C_drewN ?_ _) | (with_reducible refine Kd.C_drew ?_))); (case side2 => exact HC0.out); (case side3 => repeat (first | exact (Kd.C_below HR2.out HB.out) | (with_reducible refine Kd.C_alloc ?_ _) | (with_reducible refine Kd.C_drewN ?_ _) | (with_reducible refine Kd.C_drew ?_))); (case side4 => exact HC2.out); rintro e w25 ⟨v267, rfl, ho0, hb⟩; refine ⟨_, rfl, ?_⟩; have n0_ := Aside0.mk (Kd.R_elder' (by (with_reducible repeat (first | apply Kd.R_alloc | apply Kd.R_drewN | apply Kd.R_drew)); exact HO_7.out) (Kd.R_base ho0) hb); have n1_ := Aside0.mk (Kd.R_elder' (by (with_reducible repeat (first | apply Kd.R_alloc | apply Kd.R_drewN | apply Kd.R_drew)); exact HO264.out) (Kd.R_base ho0) hb); have n2_ := Aside0.mk (Kd.R_lower (Kd.R_new' (Kd.R_new' ho0 (Kd.R_lt (by (with_reducible repeat (first | apply Kd.R_alloc | apply Kd.R_drewN | apply Kd.R_drew)); exact HO_7.out))) (Kd.R_lt (by (with_reducible repeat (first | apply Kd.R_alloc | apply Kd.R_drewN | apply Kd.R_drew)); exact HO264.out))) (below_size (by repeat (first | (with_reducible first | exact HB.out | apply below_alloc | apply pw_below_drewN | apply below_drew1) | exact HB.out)))); have n3_ := Aside0.mk (below_step (by repeat (first | (with_reducible first | exact HB.out | apply below_alloc | apply pw_below_drewN | apply below_drew1) | exact HB.out)) hb); clear HO_7; clear HO264; clear HB; have HO_7 := n0_; have HO264 := n1_; have HO268 := n2_; have HB := n3_; clear n0_ n1_ n2_ n3_; (try clear hb); (try clear hb2); (try clear hk); (try clear hi); (try clear ho0); obtain ⟨Ao26, co26, eo26⟩ := Kd.R_slice HO_7.out; subst eo26) | ((with_reducible refine gate_callee (f := 18) rfl ?_); refine goesL_ (some 65) rfl rfl Try.func18 (by kernel_rfl) rfl #[.slice A0 l0.length c0, .slice Ao26 x7_2.length co26] rfl (by (try simp only [List.map_toArray, List.map_cons, List.map_nil]); first | done | rfl | (simp only [List.length_drop, List.length_take]; rfl)) ?_; (with_reducible refine (solve_Times.calls k2 _ _ l0 _ _ x7_2 t269 t270 _ ?side1 ?side2 ?side3 ?side4 A21.out).mono ?_); (case side1 => repeat (first | exact (Kd.C_below HR0.out HB.out) | (with_reducible refine Kd.C_alloc ?_ _) | (with_reducible refine Kd.C_drewN ?_ _) | (with_reducible refine Kd.C_drew ?_))); (case side2 => exact HC0.out); (case side3 => repeat (first | exact (Kd.R_reads' HO_7.out).2.2 | (with_reducible refine Kd.C_alloc ?_ _) | (with_reducible refine Kd.C_drewN ?_ _) | (with_reducible refine Kd.C_drew ?_))); (case side4 => exact (Kd.R_reads' HO_7.out).2.1); rintro e w27 ⟨v271, rfl, ho0, hb⟩; refine ⟨_, rfl, ?_⟩; have n0_ := Aside0.mk (Kd.R_elder' (by (with_reducible repeat (first | apply Kd.R_alloc | apply Kd.R_drewN | apply Kd.R_drew)); exact HO_7.out) (Kd.R_base ho0) hb); have n1_ := Aside0.mk (Kd.R_elder' (by (with_reducible repeat (first | apply Kd.R_alloc | apply Kd.R_drewN | apply Kd.R_drew)); exact HO264.out) (Kd.R_base ho0) hb); have n2_ := Aside0.mk (Kd.R_elder' (by (with_reducible repeat (first | apply Kd.R_alloc | apply Kd.R_drewN | apply Kd.R_drew)); exact HO268.out) (Kd.R_base ho0) hb); have n3_ := Aside0.mk (Kd.R_lower (Kd.R_new' (Kd.R_new' (Kd.R_new' ho0 (Kd.R_lt (by (with_reducible repeat (first | apply Kd.R_alloc | apply Kd.R_drewN | apply Kd.R_drew)); exact HO_7.out))) (Kd.R_lt (by (with_reducible repeat (first | apply Kd.R_alloc | apply Kd.R_drewN | apply Kd.R_drew)); exact HO264.out))) (Kd.R_lt (by (with_reducible repeat (first | apply Kd.R_alloc | apply Kd.R_drewN | apply Kd.R_drew)); exact HO268.out))) (below_size (by repeat (first | (with_reducible first | exact HB.out | apply below_alloc | apply pw_below_drewN | apply below_drew1) | exact HB.out)))); have n4_ := Aside0.mk (below_step (by repeat (first | (with_reducible first | exact HB.out | apply below_alloc | apply pw_below_drewN | apply below_drew1) | exact HB.out)) hb); clear HO_7; clear HO264; clear HO268; clear HB; have HO_7 := n0_; have HO264 := n1_; have HO268 := n2_; have HO272 := n3_; have HB := n4_; clear n0_ n1_ n2_ n3_ n4_; (try clear hb); (try clear hb2); (try clear hk); (try clear hi); (try clear ho0)))
                (try simp only [Act.put, List.setIfInBounds_toArray, List.set_cons_zero, List.set_cons_succ])
                go_cut [99] (fun v99 wc => ∃ (kq : Nat) (x99_22 : Bool), v99 = .bool x99_22 ∧ Aside0 (rillmeterlaw03_SolveSums.j2 kq t261 t265 t266 t269 t270 x99_22 = some r) ∧ Aside0 (kq ≤ k2) ∧ Aside0 (Kd.R (Kd.int .u64) 36 wc w.heap.size (fun k_ => some k_ ≠ (v267 : Value).ownBlock ∧ some k_ ≠ (v271 : Value).ownBlock) v263 t261) ∧ Aside0 (Kd.R (Kd.int .u64) 36 wc w.heap.size (fun k_ => some k_ ≠ (v263 : Value).ownBlock ∧ some k_ ≠ (v271 : Value).ownBlock) v267 t265) ∧ Aside0 (Kd.R (Kd.int .u64) 36 wc w.heap.size (fun k_ => some k_ ≠ (v263 : Value).ownBlock ∧ some k_ ≠ (v267 : Value).ownBlock) v271 t269) ∧ Aside0 (Below w.heap.size w wc))
                case first =>
                  have H := HC23.out
                  clear HC23
                  by_cases c28 : (t261.length : Int) = (l0.length : Int)
                  · rw [if_pos c28] at H
                    have c28b0 : ((t261.length : Int) == (l0.length : Int)) = true := beq_iff_eq.mpr c28
                    have c28b1 : ((t261.length : Int) != (l0.length : Int)) = false := bne_eq_false_iff_eq.mpr c28
                    have c28b2 : (t261.length == l0.length) = true := by first | simpa using c28 | (simp at c28 ⊢; omega)
                    clear c28
                    (first | rw [c28b0] | (simp only [i64_w, i32_w]; rw [c28b0]) | skip)
                    by_cases c29 : (t265.length : Int) = (l0.length : Int)
                    · rw [if_pos c29] at H
                      have c29b0 : ((t265.length : Int) == (l0.length : Int)) = true := beq_iff_eq.mpr c29
                      have c29b1 : ((t265.length : Int) != (l0.length : Int)) = false := bne_eq_false_iff_eq.mpr c29
                      have c29b2 : (t265.length == l0.length) = true := by first | simpa using c29 | (simp at c29 ⊢; omega)
                      clear c29
                      have H' := Aside0.mk H
                      clear H
                      obtain ⟨Ao30, co30, eo30⟩ := Kd.R_slice HO264.out
                      subst eo30
                      obtain ⟨Ao31, co31, eo31⟩ := Kd.R_slice HO268.out
                      subst eo31
                      obtain ⟨Ao32, co32, eo32⟩ := Kd.R_slice HO272.out
                      subst eo32
                      go_wp2
                      go_meet
                      case rel => exact ⟨_, (((t269.length : Int) != (l0.length : Int))), (by first | rfl | (simp; done) | (simp [*]; done)), H', ⟨by have := HJ3.out; have := HK2.out; first | omega | exact Nat.le_refl _⟩, ⟨by (with_reducible repeat (first | apply Kd.R_alloc | apply Kd.R_drewN | apply Kd.R_drew)); exact Kd.R_mono HO264.out (fun _ hk => ⟨hk.1.2, hk.2⟩)⟩, ⟨by (with_reducible repeat (first | apply Kd.R_alloc | apply Kd.R_drewN | apply Kd.R_drew)); exact Kd.R_mono HO268.out (fun _ hk => ⟨hk.1.2, hk.2⟩)⟩, ⟨by (with_reducible repeat (first | apply Kd.R_alloc | apply Kd.R_drewN | apply Kd.R_drew)); exact Kd.R_mono HO272.out (fun _ hk => ⟨hk.1.2, hk.2⟩)⟩, ⟨by repeat (first | (with_reducible first | exact HB.out | apply below_alloc | apply pw_below_drewN | apply below_drew1) | exact HB.out)⟩⟩
                    · rw [if_neg c29] at H
                      have c29b0 : ((t265.length : Int) == (l0.length : Int)) = false := beq_eq_false_iff_ne.mpr c29
                      have c29b1 : ((t265.length : Int) != (l0.length : Int)) = true := bne_iff_ne.mpr c29
                      have c29b2 : (t265.length == l0.length) = false := by first | simpa using c29 | (simp at c29 ⊢; omega)
                      have H' := Aside0.mk H
                      clear H
                      obtain ⟨Ao33, co33, eo33⟩ := Kd.R_slice HO264.out
                      subst eo33
                      obtain ⟨Ao34, co34, eo34⟩ := Kd.R_slice HO268.out
                      subst eo34
                      go_wp2
                      go_meet
                      case rel => exact ⟨_, (true), (by first | rfl | (simp; done) | (simp [*]; done)), H', ⟨by have := HJ3.out; have := HK2.out; first | omega | exact Nat.le_refl _⟩, ⟨by (with_reducible repeat (first | apply Kd.R_alloc | apply Kd.R_drewN | apply Kd.R_drew)); exact Kd.R_mono HO264.out (fun _ hk => ⟨hk.1.2, hk.2⟩)⟩, ⟨by (with_reducible repeat (first | apply Kd.R_alloc | apply Kd.R_drewN | apply Kd.R_drew)); exact Kd.R_mono HO268.out (fun _ hk => ⟨hk.1.2, hk.2⟩)⟩, ⟨by (with_reducible repeat (first | apply Kd.R_alloc | apply Kd.R_drewN | apply Kd.R_drew)); exact Kd.R_mono HO272.out (fun _ hk => ⟨hk.1.2, hk.2⟩)⟩, ⟨by repeat (first | (with_reducible first | exact HB.out | apply below_alloc | apply pw_below_drewN | apply below_drew1) | exact HB.out)⟩⟩
                  · rw [if_neg c28] at H
                    have c28b0 : ((t261.length : Int) == (l0.length : Int)) = false := beq_eq_false_iff_ne.mpr c28
                    have c28b1 : ((t261.length : Int) != (l0.length : Int)) = true := bne_iff_ne.mpr c28
                    have c28b2 : (t261.length == l0.length) = false := by first | simpa using c28 | (simp at c28 ⊢; omega)
                    (first | rw [c28b0] | (simp only [i64_w, i32_w]; rw [c28b0]) | skip)
                    have H' := Aside0.mk H
                    clear H
                    obtain ⟨Ao35, co35, eo35⟩ := Kd.R_slice HO264.out
                    subst eo35
                    go_wp2
                    go_meet
                    case rel => exact ⟨_, (true), (by first | rfl | (simp; done) | (simp [*]; done)), H', ⟨by have := HJ3.out; have := HK2.out; first | omega | exact Nat.le_refl _⟩, ⟨by (with_reducible repeat (first | apply Kd.R_alloc | apply Kd.R_drewN | apply Kd.R_drew)); exact Kd.R_mono HO264.out (fun _ hk => ⟨hk.1.2, hk.2⟩)⟩, ⟨by (with_reducible repeat (first | apply Kd.R_alloc | apply Kd.R_drewN | apply Kd.R_drew)); exact Kd.R_mono HO268.out (fun _ hk => ⟨hk.1.2, hk.2⟩)⟩, ⟨by (with_reducible repeat (first | apply Kd.R_alloc | apply Kd.R_drewN | apply Kd.R_drew)); exact Kd.R_mono HO272.out (fun _ hk => ⟨hk.1.2, hk.2⟩)⟩, ⟨by repeat (first | (with_reducible first | exact HB.out | apply below_alloc | apply pw_below_drewN | apply below_drew1) | exact HB.out)⟩⟩
                case rest =>
                  clear HC23
                  try clear c1
                  try clear c2
                  try clear p2
                  try clear q2
                  try clear hx2
                  try clear c6
                  try clear p6
                  try clear c7
                  try clear c7b0
                  try clear c7b1
                  try clear c8
                  try clear c9
                  try clear c10
                  try clear c11
                  try clear c11b0
                  try clear c12
                  try clear c12b0
                  try clear c13
                  try clear c13b0
                  try clear c14
                  try clear c14b0
                  try clear c16
                  try clear c18
                  try clear c19
                  try clear c22
                  try clear c22b0
                  try clear c22b1
                  try clear p25
                  try clear q25
                  try clear hx25
                  try clear c28
                  try clear c28b0
                  try clear c28b1
                  try clear c28b2
                  try clear c29
                  try clear c29b0
                  try clear c29b1
                  try clear c29b2
                  try clear hx255_0
                  try clear hx256_0
                  try clear p2
                  try clear p255
                  try clear p256
                  try clear q255
                  try clear q256
                  obtain ⟨kq, x99_22, rfl, HA, HJ22, HO_9, HO_11, HO_13, HB⟩ := hcut
                  cases kq with
                  | zero => exact absurd HA.out (by simp [rillmeterlaw03_SolveSums.j2])
                  | succ kj22 =>
                    have H := HA.out
                    clear HA
                    simp only [rillmeterlaw03_SolveSums.j2] at H
                    by_cases c36 : x99_22 = true
                    · subst c36
                      have H1 : (some false) = some r := by rw [if_pos rfl] at H; exact H
                      clear H
                      have H := H1
                      clear H1
                      exact absurd ((Option.some.inj H).trans hrt.out) (by decide)
                    · replace c36 := Bool.eq_false_iff.mpr c36
                      subst c36
                      have H1 : (rillmeterlaw03_SolveSums.l1 kj22 t261 t265 t266 t269 t270 (t269.length : Int) 0) = some r := by rw [if_neg (show ¬ (false = true) by decide)] at H; exact H
                      clear H
                      have H := H1
                      clear H1
                      have H' := Aside0.mk H
                      clear H
                      obtain ⟨Ao37, co37, eo37⟩ := Kd.R_slice HO_13.out
                      subst eo37
                      go_wp2
                      go_loopg [102] kj22 (fun kq v102 w' => ∃ (x102_4 : Int), v102 = .int .i64 x102_4 ∧ Aside0 (rillmeterlaw03_SolveSums.l1 kq t261 t265 t266 t269 t270 (t269.length : Int) x102_4 = some r) ∧ Aside0 (kq ≤ kj22) ∧ Aside0 (Kd.R (Kd.int .u64) 36 w' w.heap.size (fun k_ => some k_ ≠ (v267 : Value).ownBlock ∧ some k_ ≠ ((.slice Ao37 t269.length co37) : Value).ownBlock) v263 t261) ∧ Aside0 (Kd.R (Kd.int .u64) 36 w' w.heap.size (fun k_ => some k_ ≠ (v263 : Value).ownBlock ∧ some k_ ≠ ((.slice Ao37 t269.length co37) : Value).ownBlock) v267 t265) ∧ Aside0 (Kd.R (Kd.int .u64) 36 w' w.heap.size (fun k_ => some k_ ≠ (v263 : Value).ownBlock ∧ some k_ ≠ (v267 : Value).ownBlock) (.slice Ao37 t269.length co37) t269) ∧ Aside0 (Below w.heap.size w w'))
                      case atStart => exact ⟨(0), (by first | rfl | (simp; done) | (simp [*]; done)), H', ⟨Nat.le_refl _⟩, ⟨by (with_reducible repeat (first | apply Kd.R_alloc | apply Kd.R_drewN | apply Kd.R_drew)); exact HO_9.out⟩, ⟨by (with_reducible repeat (first | apply Kd.R_alloc | apply Kd.R_drewN | apply Kd.R_drew)); exact HO_11.out⟩, ⟨by (with_reducible repeat (first | apply Kd.R_alloc | apply Kd.R_drewN | apply Kd.R_drew)); exact HO_13.out⟩, ⟨by repeat (first | (with_reducible first | exact HB.out | apply below_alloc | apply pw_below_drewN | apply below_drew1) | exact HB.out)⟩⟩
                      case round =>
                        clear H'
                        try clear c1
                        try clear c2
                        try clear p2
                        try clear q2
                        try clear hx2
                        try clear c3
                        try clear c6
                        try clear p6
                        try clear c7
                        try clear c7b0
                        try clear c7b1
                        try clear c8
                        try clear c9
                        try clear c10
                        try clear c11
                        try clear c11b0
                        try clear c12
                        try clear c12b0
                        try clear c13
                        try clear c13b0
                        try clear c14
                        try clear c14b0
                        try clear c16
                        try clear c18
                        try clear c19
                        try clear c22
                        try clear c22b0
                        try clear c22b1
                        try clear p25
                        try clear q25
                        try clear hx25
                        try clear c28
                        try clear c28b0
                        try clear c28b1
                        try clear c28b2
                        try clear c29
                        try clear c29b0
                        try clear c29b1
                        try clear c29b2
                        try clear c36
                        try clear hx255_0
                        try clear hx256_0
                        try clear p2
                        try clear p25
                        try clear p255
                        try clear p256
                        try clear p6
                        try clear q2
                        try clear q25
                        try clear q255
                        try clear q256
                        obtain ⟨x102_4, rfl, HA, HK4, HO_9, HO_11, HO_13, HB⟩ := hrel
                        cases gk with
                        | zero => exact absurd HA.out (by simp [rillmeterlaw03_SolveSums.l1])
                        | succ k4 =>
                          have H := HA.out
                          clear HA
                          simp only [rillmeterlaw03_SolveSums.l1] at H
                          by_cases c38 : x102_4 < (t269.length : Int)
                          · rw [if_pos c38] at H
                            have c38b0 : decide (x102_4 < (t269.length : Int)) = true := decide_eq_true c38
                            clear c38
                            by_cases c39 : 0 ≤ x102_4
                            · rw [if_pos c39] at H
                              have c39b0 : decide (0 ≤ x102_4) = true := decide_eq_true c39
                              clear c39
                              by_cases c40 : x102_4 < (t269.length : Int)
                              · rw [if_pos c40] at H
                                have c40b0 : decide (x102_4 < (t269.length : Int)) = true := decide_eq_true c40
                                clear c40
                                by_cases c41 : x102_4 < (t261.length : Int)
                                · rw [if_pos c41] at H
                                  have c41b0 : decide (x102_4 < (t261.length : Int)) = true := decide_eq_true c41
                                  clear c41
                                  by_cases c42 : x102_4 < (t265.length : Int)
                                  · rw [if_pos c42] at H
                                    have c42b0 : decide (x102_4 < (t265.length : Int)) = true := decide_eq_true c42
                                    clear c42
                                    replace H := Option.bind_eq_some_iff.mp H
                                    obtain ⟨t277, A430, H⟩ := H
                                    replace H : (if (rd t269 x102_4) = t277 then (rillmeterlaw03_SolveSums.l1 k4 t261 t265 t266 t269 t270 (t269.length : Int) (wrap64 (x102_4 + 1))) else (some false)) = some r := H
                                    have A43 := Aside0.mk A430
                                    clear A430
                                    by_cases c44 : (rd t269 x102_4) = t277
                                    · rw [if_pos c44] at H
                                      have c44b0 : ((rd t269 x102_4) == t277) = true := beq_iff_eq.mpr c44
                                      have c44b1 : ((rd t269 x102_4) != t277) = false := bne_eq_false_iff_eq.mpr c44
                                      clear c44
                                      have H' := Aside0.mk H
                                      clear H
                                      try go_wp2
                                      have n0_ := Aside0.mk (Kd.R_drew HO_9.out)
                                      have n1_ := Aside0.mk (Kd.R_drew HO_11.out)
                                      have n2_ := Aside0.mk (Kd.R_drew HO_13.out)
                                      have n3_ := Aside0.mk (below_drew1 HB.out)
                                      clear HO_9
                                      clear HO_11
                                      clear HO_13
                                      clear HB
                                      have HO_9 := n0_
                                      have HO_11 := n1_
                                      have HO_13 := n2_
                                      have HB := n3_
                                      clear n0_ n1_ n2_ n3_
                                      have p274 : 0 ≤ (x102_4 : Int) := of_decide_eq_true (by first | (with_reducible assumption) | assumption)
                                      have q274 : x102_4 < (t269.length : Int) := of_decide_eq_true (by first | (with_reducible assumption) | assumption)
                                      obtain ⟨ad274, e274, hx274_0⟩ := Kd.at_int (Kd.R_reads' HO_13.out).2.2 x102_4 p274 q274
                                      cases e274
                                      replace p274 := eq_true p274
                                      replace q274 := eq_true q274
                                      obtain ⟨Ao46, co46, eo46⟩ := Kd.R_slice HO_9.out
                                      (first | subst eo46 | (injection eo46 with f1_ f2_ f3_; have f4_ := f1_.symm; have f5_ := f3_.symm; clear f1_ f2_ f3_; subst f4_; subst f5_))
                                      have p275 : 0 ≤ (x102_4 : Int) := of_decide_eq_true (by first | (with_reducible assumption) | assumption)
                                      have q275 : x102_4 < (t261.length : Int) := of_decide_eq_true (by first | (with_reducible assumption) | assumption)
                                      obtain ⟨ad275, e275, hx275_0⟩ := Kd.at_int (Kd.R_reads' HO_9.out).2.2 x102_4 p275 q275
                                      cases e275
                                      replace p275 := eq_true p275
                                      replace q275 := eq_true q275
                                      obtain ⟨Ao47, co47, eo47⟩ := Kd.R_slice HO_11.out
                                      (first | subst eo47 | (injection eo47 with f1_ f2_ f3_; have f4_ := f1_.symm; have f5_ := f3_.symm; clear f1_ f2_ f3_; subst f4_; subst f5_))
                                      have p276 : 0 ≤ (x102_4 : Int) := of_decide_eq_true (by first | (with_reducible assumption) | assumption)
                                      have q276 : x102_4 < (t265.length : Int) := of_decide_eq_true (by first | (with_reducible assumption) | assumption)
                                      obtain ⟨ad276, e276, hx276_0⟩ := Kd.at_int (Kd.R_reads' HO_11.out).2.2 x102_4 p276 q276
                                      cases e276
                                      replace p276 := eq_true p276
                                      replace q276 := eq_true q276
                                      refine start_ (n := 14) (S := fun w' => w'.cell? (ad274.add (x102_4).toNat) = some (.int .u64 (rd t269 x102_4)) ∧ w'.cell? (ad275.add (x102_4).toNat) = some (.int .u64 (rd t261 x102_4)) ∧ w'.cell? (ad276.add (x102_4).toNat) = some (.int .u64 (rd t265 x102_4))) (ds := []) #[false, false, false, false, false, false, false, false, false, false, false, false, false, false] (by kernel_rfl) rfl rfl ⟨hx274_0, hx275_0, hx276_0⟩ (fun hHeld => ?_); refine with_tabW rillmeterlaw03_SolveSums.tab19 rillmeterlaw03_SolveSums.bits19 (fun HT_ HW_ => ?_)
                                      generalize wr.drew = w45 at HO_9 HO_11 HO_13 HB hx274_0 hx275_0 hx276_0 hHeld ⊢
                                      refine pure_ (i := 0) (N := some 105) (v := ?_) (a' := ?_) #[true, false, false, false, false, false, false, false, false, false, false, false, false, false] rfl rfl (any_of HT_.out (by kernel_rfl)) (fun _ _ _ h => h) (Or.inl ⟨by rfl, ?_⟩) ?_ ?_
                                      rotate_left
                                      · intro w'
                                        go_simp
                                        with_reducible rfl
                                      rotate_left
                                      · simp only [Act.put, List.setIfInBounds_toArray, List.set_cons_zero, List.set_cons_succ, i64_w, i32_w]
                                        rfl
                                      refine pure_ (i := 1) (N := some 106) (v := ?_) (a' := ?_) #[true, true, false, false, false, false, false, false, false, false, false, false, false, false] rfl rfl (any_of HT_.out (by kernel_rfl)) (fun _ _ _ h => h) (Or.inl ⟨by rfl, ?_⟩) ?_ ?_
                                      rotate_left
                                      · intro w'
                                        go_simp
                                        with_reducible rfl
                                      rotate_left
                                      · simp only [Act.put, List.setIfInBounds_toArray, List.set_cons_zero, List.set_cons_succ, i64_w, i32_w]
                                        rfl
                                      refine pure_ (i := 2) (N := some 107) (v := ?_) (a' := ?_) #[true, true, true, false, false, false, false, false, false, false, false, false, false, false] rfl rfl (any_of HT_.out (by kernel_rfl)) (fun _ _ _ h => h) (Or.inl ⟨by rfl, ?_⟩) ?_ ?_
                                      rotate_left
                                      · intro w'
                                        go_simp
                                        with_reducible rfl
                                      rotate_left
                                      · simp only [Act.put, List.setIfInBounds_toArray, List.set_cons_zero, List.set_cons_succ, i64_w, i32_w]
                                        rfl
                                      refine pure_ (i := 4) (N := some 109) (v := ?_) (a' := ?_) #[true, true, true, false, true, false, false, false, false, false, false, false, false, false] rfl rfl (any_of HT_.out (by kernel_rfl)) (fun _ _ _ h => h) (Or.inl ⟨by rfl, ?_⟩) ?_ ?_
                                      rotate_left
                                      · intro w'
                                        go_simp
                                        with_reducible rfl
                                      rotate_left
                                      · simp only [Act.put, List.setIfInBounds_toArray, List.set_cons_zero, List.set_cons_succ, i64_w, i32_w]
                                        rfl
                                      refine pure_ (i := 5) (N := some 110) (v := ?_) (a' := ?_) #[true, true, true, false, true, true, false, false, false, false, false, false, false, false] rfl rfl (any_of HT_.out (by kernel_rfl)) (fun _ _ _ h => h) (Or.inl ⟨by rfl, ?_⟩) ?_ ?_
                                      rotate_left
                                      · intro w'
                                        go_simp
                                        with_reducible rfl
                                      rotate_left
                                      · simp only [Act.put, List.setIfInBounds_toArray, List.set_cons_zero, List.set_cons_succ, i64_w, i32_w]
                                        rfl
                                      refine pure_ (i := 6) (N := some 111) (v := ?_) (a' := ?_) #[true, true, true, false, true, true, true, false, false, false, false, false, false, false] rfl rfl (any_of HT_.out (by kernel_rfl)) (fun _ _ _ h => h) (Or.inl ⟨by rfl, ?_⟩) ?_ ?_
                                      rotate_left
                                      · intro w'
                                        go_simp
                                        with_reducible rfl
                                      rotate_left
                                      · simp only [Act.put, List.setIfInBounds_toArray, List.set_cons_zero, List.set_cons_succ, i64_w, i32_w]
                                        rfl
                                      refine pure_ (i := 8) (N := some 113) (v := ?_) (a' := ?_) #[true, true, true, false, true, true, true, false, true, false, false, false, false, false] rfl rfl (any_of HT_.out (by kernel_rfl)) (fun _ _ _ h => h) (Or.inl ⟨by rfl, ?_⟩) ?_ ?_
                                      rotate_left
                                      · intro w'
                                        go_simp
                                        with_reducible rfl
                                      rotate_left
                                      · simp only [Act.put, List.setIfInBounds_toArray, List.set_cons_zero, List.set_cons_succ, i64_w, i32_w]
                                        rfl
                                      refine pure_ (i := 9) (N := some 114) (v := ?_) (a' := ?_) #[true, true, true, false, true, true, true, false, true, true, false, false, false, false] rfl rfl (any_of HT_.out (by kernel_rfl)) (fun _ _ _ h => h) (Or.inl ⟨by rfl, ?_⟩) ?_ ?_
                                      rotate_left
                                      · intro w'
                                        go_simp
                                        with_reducible rfl
                                      rotate_left
                                      · simp only [Act.put, List.setIfInBounds_toArray, List.set_cons_zero, List.set_cons_succ, i64_w, i32_w]
                                        rfl
                                      refine pure_ (i := 10) (N := some 115) (v := ?_) (a' := ?_) #[true, true, true, false, true, true, true, false, true, true, true, false, false, false] rfl rfl (any_of HT_.out (by kernel_rfl)) (fun _ _ _ h => h) (Or.inl ⟨by rfl, ?_⟩) ?_ ?_
                                      rotate_left
                                      · intro w'
                                        go_simp
                                        with_reducible rfl
                                      rotate_left
                                      · simp only [Act.put, List.setIfInBounds_toArray, List.set_cons_zero, List.set_cons_succ, i64_w, i32_w]
                                        rfl
                                      refine take_ (i := 3) (N := some 108) (v := ?_) (a' := ?_) #[true, true, true, true, true, true, true, false, true, true, true, false, false, false] rfl rfl (take_ofW HT_.out HW_.out (by kernel_rfl)) (fun _ _ _ h => h) (Or.inl ⟨by rfl, ?_⟩) hHeld ?_ ?_
                                      rotate_left
                                      · rintro w' ⟨s0, s1, s2⟩
                                        go_simp
                                        with_reducible rfl
                                      rotate_left
                                      · simp only [Act.put, List.setIfInBounds_toArray, List.set_cons_zero, List.set_cons_succ, i64_w, i32_w]
                                        rfl
                                      refine take_ (i := 7) (N := some 112) (v := ?_) (a' := ?_) #[true, true, true, true, true, true, true, true, true, true, true, false, false, false] rfl rfl (take_ofW HT_.out HW_.out (by kernel_rfl)) (fun _ _ _ h => h) (Or.inl ⟨by rfl, ?_⟩) hHeld ?_ ?_
                                      rotate_left
                                      · rintro w' ⟨s0, s1, s2⟩
                                        go_simp
                                        with_reducible rfl
                                      rotate_left
                                      · simp only [Act.put, List.setIfInBounds_toArray, List.set_cons_zero, List.set_cons_succ, i64_w, i32_w]
                                        rfl
                                      refine take_ (i := 11) (N := some 116) (v := ?_) (a' := ?_) #[true, true, true, true, true, true, true, true, true, true, true, true, false, false] rfl rfl (take_ofW HT_.out HW_.out (by kernel_rfl)) (fun _ _ _ h => h) (Or.inl ⟨by rfl, ?_⟩) hHeld ?_ ?_
                                      rotate_left
                                      · rintro w' ⟨s0, s1, s2⟩
                                        go_simp
                                        with_reducible rfl
                                      rotate_left
                                      · simp only [Act.put, List.setIfInBounds_toArray, List.set_cons_zero, List.set_cons_succ, i64_w, i32_w]
                                        rfl
                                      refine one_ (i := 12) (N := some 117) #[true, true, true, true, true, true, true, true, true, true, true, true, true, false] rfl rfl (one_of HT_.out (by kernel_rfl)) (by decide) (fun K hK => ?_)
                                      refine goes_ Try.func19 (by kernel_rfl) rfl #[.int .u64 (rd t261 x102_4), .int .u64 (rd t265 x102_4)] (by rfl) rfl rfl (by (try simp only [List.map_toArray, List.map_cons, List.map_nil]); first | done | rfl | (simp only [List.length_drop, List.length_take]; rfl)) ?_
                                      with_reducible refine (rillmeterref01_Add.calls (rd t261 x102_4) (rd t265 x102_4) t277 _ A43.out).mono ?_
                                      rintro e w' ⟨rfl, ⟨nd, rfl⟩⟩
                                      refine ⟨_, rfl, ?_⟩
                                      refine hK.out _ _ ⟨hHeld.1, hHeld.2.1, hHeld.2.2⟩ (fun hHeld => ?_)
                                      clear hK K
                                      refine norm_ (a' := ?_) ?_ ?_
                                      rotate_left
                                      · show Act.put _ (some 117) _ = _
                                        simp only [Act.put, List.setIfInBounds_toArray, List.set_cons_zero, List.set_cons_succ, i64_w, i32_w]
                                        rfl
                                      refine pure_ (i := 13) (N := some 118) (v := ?_) (a' := ?_) #[true, true, true, true, true, true, true, true, true, true, true, true, true, true] rfl rfl (any_of HT_.out (by kernel_rfl)) (fun _ _ _ h => h) (Or.inl ⟨by rfl, ?_⟩) ?_ ?_
                                      rotate_left
                                      · intro w'
                                        go_simp
                                        with_reducible rfl
                                      rotate_left
                                      · simp only [Act.put, List.setIfInBounds_toArray, List.set_cons_zero, List.set_cons_succ, i64_w, i32_w]
                                        rfl
                                      refine done_ (done_of HT_.out (by kernel_rfl)) ?_
                                      try go_wp2
                                      go_roundg k4
                                      case measure => have := HJ3.out; have := HK2.out; have := HJ22.out; have := HK4.out; omega
                                      case rel => exact ⟨(wrap64 (x102_4 + 1)), (by first | rfl | (simp; done) | (simp [*]; done)), H', ⟨by have := HJ3.out; have := HK2.out; have := HJ22.out; have := HK4.out; omega⟩, ⟨by (with_reducible repeat (first | apply Kd.R_alloc | apply Kd.R_drewN | apply Kd.R_drew)); exact HO_9.out⟩, ⟨by (with_reducible repeat (first | apply Kd.R_alloc | apply Kd.R_drewN | apply Kd.R_drew)); exact HO_11.out⟩, ⟨by (with_reducible repeat (first | apply Kd.R_alloc | apply Kd.R_drewN | apply Kd.R_drew)); exact HO_13.out⟩, ⟨by repeat (first | (with_reducible first | exact HB.out | apply below_alloc | apply pw_below_drewN | apply below_drew1) | exact HB.out)⟩⟩
                                    · rw [if_neg c44] at H
                                      have c44b0 : ((rd t269 x102_4) == t277) = false := beq_eq_false_iff_ne.mpr c44
                                      have c44b1 : ((rd t269 x102_4) != t277) = true := bne_iff_ne.mpr c44
                                      exact absurd ((Option.some.inj H).trans hrt.out) (by decide)
                                  · rw [if_neg c42] at H
                                    exact absurd H (by simp)
                                · rw [if_neg c41] at H
                                  exact absurd H (by simp)
                              · rw [if_neg c40] at H
                                exact absurd H (by simp)
                            · rw [if_neg c39] at H
                              exact absurd H (by simp)
                          · rw [if_neg c38] at H
                            have c38b0 : decide (x102_4 < (t269.length : Int)) = false := decide_eq_false c38
                            clear c38
                            by_cases c48 : t266 = 0
                            · rw [if_pos c48] at H
                              have c48b0 : (t266 == 0) = true := beq_iff_eq.mpr c48
                              have c48b1 : (t266 != 0) = false := bne_eq_false_iff_eq.mpr c48
                              clear c48
                              by_cases c49 : t270 = 0
                              · rw [if_pos c49] at H
                                have c49b0 : (t270 == 0) = true := beq_iff_eq.mpr c49
                                have c49b1 : (t270 != 0) = false := bne_eq_false_iff_eq.mpr c49
                                clear c49
                                replace H := Option.bind_eq_some_iff.mp H
                                obtain ⟨t278, A500, H⟩ := H
                                replace H : (some t278) = some r := H
                                have A50 := Aside0.mk A500
                                clear A500
                                obtain rfl := Option.some.inj H
                                go_wp2_with (first | (go_at_call 10; (with_reducible refine (rillmeterlaw03_awake.calls k4  t278 _ A50.out).mono ?_); rintro e w51 ⟨rfl, hb⟩; have n0_ := Aside0.mk (Kd.R_below (by (with_reducible repeat (first | apply Kd.R_alloc | apply Kd.R_drewN | apply Kd.R_drew)); exact HO_9.out) hb); have n1_ := Aside0.mk (Kd.R_below (by (with_reducible repeat (first | apply Kd.R_alloc | apply Kd.R_drewN | apply Kd.R_drew)); exact HO_11.out) hb); have n2_ := Aside0.mk (Kd.R_below (by (with_reducible repeat (first | apply Kd.R_alloc | apply Kd.R_drewN | apply Kd.R_drew)); exact HO_13.out) hb); have n3_ := Aside0.mk (below_step (by repeat (first | (with_reducible first | exact HB.out | apply below_alloc | apply pw_below_drewN | apply below_drew1) | exact HB.out)) hb); clear HO_9; clear HO_11; clear HO_13; clear HB; have HO_9 := n0_; have HO_11 := n1_; have HO_13 := n2_; have HB := n3_; clear n0_ n1_ n2_ n3_; (try clear hb); (try clear hb2); (try clear hk); (try clear hi)))
                                go_ret
                                exact ⟨by first | rfl | (simp [errW_none, errW_some] <;> rfl) | (simp [*, errW_none, errW_some] <;> rfl), by repeat (first | (with_reducible first | exact HB.out | apply below_alloc | apply pw_below_drewN | apply below_drew1) | exact HB.out)⟩
                              · rw [if_neg c49] at H
                                have c49b0 : (t270 == 0) = false := beq_eq_false_iff_ne.mpr c49
                                have c49b1 : (t270 != 0) = true := bne_iff_ne.mpr c49
                                exact absurd ((Option.some.inj H).trans hrt.out) (by decide)
                            · rw [if_neg c48] at H
                              have c48b0 : (t266 == 0) = false := beq_eq_false_iff_ne.mpr c48
                              have c48b1 : (t266 != 0) = true := bne_iff_ne.mpr c48
                              exact absurd ((Option.some.inj H).trans hrt.out) (by decide)
              · rw [if_neg c22] at H
                have c22b0 : (t262 == 0) = false := beq_eq_false_iff_ne.mpr c22
                have c22b1 : (t262 != 0) = true := bne_iff_ne.mpr c22
                by_cases c52 : t266 = t262
                · rw [if_pos c52] at H
                  have c52b0 : (t266 == t262) = true := beq_iff_eq.mpr c52
                  have c52b1 : (t266 != t262) = false := bne_eq_false_iff_eq.mpr c52
                  clear c52
                  by_cases c53 : t270 = t262
                  · rw [if_pos c53] at H
                    have c53b0 : (t270 == t262) = true := beq_iff_eq.mpr c53
                    have c53b1 : (t270 != t262) = false := bne_eq_false_iff_eq.mpr c53
                    clear c53
                    replace H := Option.bind_eq_some_iff.mp H
                    obtain ⟨t273, A540, H⟩ := H
                    replace H : (some t273) = some r := H
                    have A54 := Aside0.mk A540
                    clear A540
                    obtain rfl := Option.some.inj H
                    go_wp2_with (first | ((with_reducible refine gate_callee (f := 18) rfl ?_); refine goesL_ (some 53) rfl rfl Try.func18 (by kernel_rfl) rfl #[.slice A0 l0.length c0, .slice A1 l1.length c1] rfl (by (try simp only [List.map_toArray, List.map_cons, List.map_nil]); first | done | rfl | (simp only [List.length_drop, List.length_take]; rfl)) ?_; (with_reducible refine (solve_Times.calls k2 _ _ l0 _ _ l1 t261 t262 _ ?side1 ?side2 ?side3 ?side4 A19.out).mono ?_); (case side1 => repeat (first | exact (Kd.C_below HR0.out HB.out) | (with_reducible refine Kd.C_alloc ?_ _) | (with_reducible refine Kd.C_drewN ?_ _) | (with_reducible refine Kd.C_drew ?_))); (case side2 => exact HC0.out); (case side3 => repeat (first | exact (Kd.C_below HR1.out HB.out) | (with_reducible refine Kd.C_alloc ?_ _) | (with_reducible refine Kd.C_drewN ?_ _) | (with_reducible refine Kd.C_drew ?_))); (case side4 => exact HC1.out); rintro e w55 ⟨v263, rfl, ho0, hb⟩; refine ⟨_, rfl, ?_⟩; have n0_ := Aside0.mk (Kd.R_elder' (by (with_reducible repeat (first | apply Kd.R_alloc | apply Kd.R_drewN | apply Kd.R_drew)); exact HO_7.out) (Kd.R_base ho0) hb); have n1_ := Aside0.mk (Kd.R_lower (Kd.R_new' ho0 (Kd.R_lt (by (with_reducible repeat (first | apply Kd.R_alloc | apply Kd.R_drewN | apply Kd.R_drew)); exact HO_7.out))) (below_size (by repeat (first | (with_reducible first | exact HB.out | apply below_alloc | apply pw_below_drewN | apply below_drew1) | exact HB.out)))); have n2_ := Aside0.mk (below_step (by repeat (first | (with_reducible first | exact HB.out | apply below_alloc | apply pw_below_drewN | apply below_drew1) | exact HB.out)) hb); clear HO_7; clear HB; have HO_7 := n0_; have HO264 := n1_; have HB := n2_; clear n0_ n1_ n2_; (try clear hb); (try clear hb2); (try clear hk); (try clear hi); (try clear ho0)) | ((with_reducible refine gate_callee (f := 18) rfl ?_); refine goesL_ (some 59) rfl rfl Try.func18 (by kernel_rfl) rfl #[.slice A0 l0.length c0, .slice A2 l2.length c2] rfl (by (try simp only [List.map_toArray, List.map_cons, List.map_nil]); first | done | rfl | (simp only [List.length_drop, List.length_take]; rfl)) ?_; (with_reducible refine (solve_Times.calls k2 _ _ l0 _ _ l2 t265 t266 _ ?side1 ?side2 ?side3 ?side4 A20.out).mono ?_); (case side1 => repeat (first | exact (Kd.C_below HR0.out HB.out) | (with_reducible refine Kd.C_alloc ?_ _) | (with_reducible refine Kd.C_drewN ?_ _) | (with_reducible refine Kd.C_drew ?_))); (case side2 => exact HC0.out); (case side3 => repeat (first | exact (Kd.C_below HR2.out HB.out) | (with_reducible refine Kd.C_alloc ?_ _) | (with_reducible refine Kd.C_drewN ?_ _) | (with_reducible refine Kd.C_drew ?_))); (case side4 => exact HC2.out); rintro e w56 ⟨v267, rfl, ho0, hb⟩; refine ⟨_, rfl, ?_⟩; have n0_ := Aside0.mk (Kd.R_elder' (by (with_reducible repeat (first | apply Kd.R_alloc | apply Kd.R_drewN | apply Kd.R_drew)); exact HO_7.out) (Kd.R_base ho0) hb); have n1_ := Aside0.mk (Kd.R_elder' (by (with_reducible repeat (first | apply Kd.R_alloc | apply Kd.R_drewN | apply Kd.R_drew)); exact HO264.out) (Kd.R_base ho0) hb); have n2_ := Aside0.mk (Kd.R_lower (Kd.R_new' (Kd.R_new' ho0 (Kd.R_lt (by (with_reducible repeat (first | apply Kd.R_alloc | apply Kd.R_drewN | apply Kd.R_drew)); exact HO_7.out))) (Kd.R_lt (by (with_reducible repeat (first | apply Kd.R_alloc | apply Kd.R_drewN | apply Kd.R_drew)); exact HO264.out))) (below_size (by repeat (first | (with_reducible first | exact HB.out | apply below_alloc | apply pw_below_drewN | apply below_drew1) | exact HB.out)))); have n3_ := Aside0.mk (below_step (by repeat (first | (with_reducible first | exact HB.out | apply below_alloc | apply pw_below_drewN | apply below_drew1) | exact HB.out)) hb); clear HO_7; clear HO264; clear HB; have HO_7 := n0_; have HO264 := n1_; have HO268 := n2_; have HB := n3_; clear n0_ n1_ n2_ n3_; (try clear hb); (try clear hb2); (try clear hk); (try clear hi); (try clear ho0); obtain ⟨Ao57, co57, eo57⟩ := Kd.R_slice HO_7.out; subst eo57) | ((with_reducible refine gate_callee (f := 18) rfl ?_); refine goesL_ (some 65) rfl rfl Try.func18 (by kernel_rfl) rfl #[.slice A0 l0.length c0, .slice Ao57 x7_2.length co57] rfl (by (try simp only [List.map_toArray, List.map_cons, List.map_nil]); first | done | rfl | (simp only [List.length_drop, List.length_take]; rfl)) ?_; (with_reducible refine (solve_Times.calls k2 _ _ l0 _ _ x7_2 t269 t270 _ ?side1 ?side2 ?side3 ?side4 A21.out).mono ?_); (case side1 => repeat (first | exact (Kd.C_below HR0.out HB.out) | (with_reducible refine Kd.C_alloc ?_ _) | (with_reducible refine Kd.C_drewN ?_ _) | (with_reducible refine Kd.C_drew ?_))); (case side2 => exact HC0.out); (case side3 => repeat (first | exact (Kd.R_reads' HO_7.out).2.2 | (with_reducible refine Kd.C_alloc ?_ _) | (with_reducible refine Kd.C_drewN ?_ _) | (with_reducible refine Kd.C_drew ?_))); (case side4 => exact (Kd.R_reads' HO_7.out).2.1); rintro e w58 ⟨v271, rfl, ho0, hb⟩; refine ⟨_, rfl, ?_⟩; have n0_ := Aside0.mk (Kd.R_elder' (by (with_reducible repeat (first | apply Kd.R_alloc | apply Kd.R_drewN | apply Kd.R_drew)); exact HO_7.out) (Kd.R_base ho0) hb); have n1_ := Aside0.mk (Kd.R_elder' (by (with_reducible repeat (first | apply Kd.R_alloc | apply Kd.R_drewN | apply Kd.R_drew)); exact HO264.out) (Kd.R_base ho0) hb); have n2_ := Aside0.mk (Kd.R_elder' (by (with_reducible repeat (first | apply Kd.R_alloc | apply Kd.R_drewN | apply Kd.R_drew)); exact HO268.out) (Kd.R_base ho0) hb); have n3_ := Aside0.mk (Kd.R_lower (Kd.R_new' (Kd.R_new' (Kd.R_new' ho0 (Kd.R_lt (by (with_reducible repeat (first | apply Kd.R_alloc | apply Kd.R_drewN | apply Kd.R_drew)); exact HO_7.out))) (Kd.R_lt (by (with_reducible repeat (first | apply Kd.R_alloc | apply Kd.R_drewN | apply Kd.R_drew)); exact HO264.out))) (Kd.R_lt (by (with_reducible repeat (first | apply Kd.R_alloc | apply Kd.R_drewN | apply Kd.R_drew)); exact HO268.out))) (below_size (by repeat (first | (with_reducible first | exact HB.out | apply below_alloc | apply pw_below_drewN | apply below_drew1) | exact HB.out)))); have n4_ := Aside0.mk (below_step (by repeat (first | (with_reducible first | exact HB.out | apply below_alloc | apply pw_below_drewN | apply below_drew1) | exact HB.out)) hb); clear HO_7; clear HO264; clear HO268; clear HB; have HO_7 := n0_; have HO264 := n1_; have HO268 := n2_; have HO272 := n3_; have HB := n4_; clear n0_ n1_ n2_ n3_ n4_; (try clear hb); (try clear hb2); (try clear hk); (try clear hi); (try clear ho0)) | (go_at_call 10; (with_reducible refine (rillmeterlaw03_awake.calls k2  t273 _ A54.out).mono ?_); rintro e w59 ⟨rfl, hb⟩; have n0_ := Aside0.mk (Kd.R_below (by (with_reducible repeat (first | apply Kd.R_alloc | apply Kd.R_drewN | apply Kd.R_drew)); exact HO_7.out) hb); have n1_ := Aside0.mk (Kd.R_below (by (with_reducible repeat (first | apply Kd.R_alloc | apply Kd.R_drewN | apply Kd.R_drew)); exact HO264.out) hb); have n2_ := Aside0.mk (Kd.R_below (by (with_reducible repeat (first | apply Kd.R_alloc | apply Kd.R_drewN | apply Kd.R_drew)); exact HO268.out) hb); have n3_ := Aside0.mk (Kd.R_below (by (with_reducible repeat (first | apply Kd.R_alloc | apply Kd.R_drewN | apply Kd.R_drew)); exact HO272.out) hb); have n4_ := Aside0.mk (below_step (by repeat (first | (with_reducible first | exact HB.out | apply below_alloc | apply pw_below_drewN | apply below_drew1) | exact HB.out)) hb); clear HO_7; clear HO264; clear HO268; clear HO272; clear HB; have HO_7 := n0_; have HO264 := n1_; have HO268 := n2_; have HO272 := n3_; have HB := n4_; clear n0_ n1_ n2_ n3_ n4_; (try clear hb); (try clear hb2); (try clear hk); (try clear hi)))
                    go_ret
                    exact ⟨by first | rfl | (simp [errW_none, errW_some] <;> rfl) | (simp [*, errW_none, errW_some] <;> rfl), by repeat (first | (with_reducible first | exact HB.out | apply below_alloc | apply pw_below_drewN | apply below_drew1) | exact HB.out)⟩
                  · rw [if_neg c53] at H
                    have c53b0 : (t270 == t262) = false := beq_eq_false_iff_ne.mpr c53
                    have c53b1 : (t270 != t262) = true := bne_iff_ne.mpr c53
                    exact absurd ((Option.some.inj H).trans hrt.out) (by decide)
                · rw [if_neg c52] at H
                  have c52b0 : (t266 == t262) = false := beq_eq_false_iff_ne.mpr c52
                  have c52b1 : (t266 != t262) = true := bne_iff_ne.mpr c52
                  exact absurd ((Option.some.inj H).trans hrt.out) (by decide)

end Go.Proofs.Ytoplnkbhgpamaaa.PSolveSums
