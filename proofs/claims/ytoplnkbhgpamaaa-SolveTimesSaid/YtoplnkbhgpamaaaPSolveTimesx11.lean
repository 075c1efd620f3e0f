/- The functions that a law uses, each as a plain function, with the proof that a call of the Go function comes to its answer. Condition of each: the arguments read as the data that it names, and the plain function has an answer. Written by a program of this session (standin.py). -/
import Derived.Test.YtoplnkbhgpamaaaPSolveTimesx0
import Derived.Test.YtoplnkbhgpamaaaPSolveTimesx1
import Derived.Test.YtoplnkbhgpamaaaPSolveTimesx6
import Derived.Test.YtoplnkbhgpamaaaPSolveTimesx7
import Derived.Test.YtoplnkbhgpamaaaPSolveTimesx8
import Derived.Test.YtoplnkbhgpamaaaPSolveTimesx9
import Derived.Test.YtoplnkbhgpamaaaPSolveTimesx10
import Derived.Lib.SliceRun
namespace Go.Proofs.Ytoplnkbhgpamaaa.PSolveTimes
open Go.RowKit Go.Proofs.YtoplnkbhgpamaaaW.PrintWords Go.Proofs.YtoplnkbhgpamaaaW.PrintLast Go.Proofs.YtoplnkbhgpamaaaW.PrintMore
attribute [local go_sem] max2_int min2_int max_two min_two max_three min_three max_four min_four   -- for this text's walks alone
set_option linter.unusedVariables false
set_option linter.unusedSimpArgs false

/-! ### rillmeterlaw03_SolveTimes: function 6 -/
mutual
def rillmeterlaw03_SolveTimes.j0 : Nat → List (List Int) → List Int → Bool → Option (Bool)
  | 0, _, _, _ => none
  | k + 1, x0, x1, x14 => if x14 = true then ((rillmeterlaw03_awake.f k).bind fun t269 => (some t269)) else ((solve_Times.f k x0 x1).bind fun bt270 => ((rillmeterref03_Even.f k x0).bind fun t274 => (if t274 = true then (if (x0.length : Int) > 0 then (if 0 < (x0.length : Int) then (rillmeterlaw03_SolveTimes.j1 k x0 x1 bt270.1 bt270.2 ((x1.length : Int) != ((rd_L1 x0 0).length : Int))) else (none)) else (rillmeterlaw03_SolveTimes.j1 k x0 x1 bt270.1 bt270.2 false)) else (rillmeterlaw03_SolveTimes.j1 k x0 x1 bt270.1 bt270.2 true))))
def rillmeterlaw03_SolveTimes.j1 : Nat → List (List Int) → List Int → List Int → Int → Bool → Option (Bool)
  | 0, _, _, _, _, _ => none
  | k + 1, x0, x1, x5, x6, x38 => if x38 = true then (if (x5.length : Int) = 0 then (if x6 = 1 then ((rillmeterlaw03_awake.f k).bind fun t276 => (some t276)) else (some false)) else (some false)) else ((rillmeterref03_Times.f k x0 x1).bind fun t277 => ((rillmeterref03_Same.f k x5 t277).bind fun t280 => (if t280 = true then (if (x5.length : Int) = (x0.length : Int) then (if x6 = 0 then ((rillmeterlaw03_awake.f k).bind fun t281 => (some t281)) else (some false)) else (some false)) else (some false))))
end
def rillmeterlaw03_SolveTimes.f (k : Nat) (l0 : List (List Int)) (l1 : List Int) : Option (Bool) := (rillmeterref03_Small.f k l0 40).bind fun t268 => (if t268 = true then (rillmeterlaw03_SolveTimes.j0 k l0 l1 (decide ((l1.length : Int) > 40))) else (rillmeterlaw03_SolveTimes.j0 k l0 l1 true))
theorem rillmeterlaw03_SolveTimes.mono_l : ∀ k, (∀ y0 y1 y2, LeO (rillmeterlaw03_SolveTimes.j0 k y0 y1 y2) (rillmeterlaw03_SolveTimes.j0 (k + 1) y0 y1 y2)) ∧ (∀ y0 y1 y2 y3 y4, LeO (rillmeterlaw03_SolveTimes.j1 k y0 y1 y2 y3 y4) (rillmeterlaw03_SolveTimes.j1 (k + 1) y0 y1 y2 y3 y4))
  | 0 => ⟨fun _ _ _ r h => by simp [rillmeterlaw03_SolveTimes.j0] at h, fun _ _ _ _ _ r h => by simp [rillmeterlaw03_SolveTimes.j1] at h⟩
  | k + 1 => by
    obtain ⟨ih0, ih1⟩ := rillmeterlaw03_SolveTimes.mono_l k
    refine ⟨?_, ?_⟩
    · intro y0 y1 y2
      unfold rillmeterlaw03_SolveTimes.j0
      repeat' first
      | (with_reducible exact ih0 _ _ _)
      | (with_reducible exact ih1 _ _ _ _ _)
      | (with_reducible exact rillmeterlaw03_awake.mono _)
      | (with_reducible exact rillmeterref03_Even.mono _ _)
      | (with_reducible exact rillmeterref03_Same.mono _ _ _)
      | (with_reducible exact rillmeterref03_Small.mono _ _ _)
      | (with_reducible exact rillmeterref03_Times.mono _ _ _)
      | (with_reducible exact solve_Times.mono _ _ _)
      | (with_reducible exact LeO.refl _)
      | (with_reducible exact LeO.none _)
      | (with_reducible refine LeO.ite ?_ ?_)
      | (with_reducible refine LeO.bind ?_ (fun _ => ?_))
      | exact ih0 _ _ _
      | exact ih1 _ _ _ _ _
      | exact rillmeterlaw03_awake.mono _
      | exact rillmeterref03_Even.mono _ _
      | exact rillmeterref03_Same.mono _ _ _
      | exact rillmeterref03_Small.mono _ _ _
      | exact rillmeterref03_Times.mono _ _ _
      | exact solve_Times.mono _ _ _
      | exact LeO.none _
      | refine LeO.ite ?_ ?_
      | refine LeO.bind ?_ (fun _ => ?_)
    · intro y0 y1 y2 y3 y4
      unfold rillmeterlaw03_SolveTimes.j1
      repeat' first
      | (with_reducible exact ih0 _ _ _)
      | (with_reducible exact ih1 _ _ _ _ _)
      | (with_reducible exact rillmeterlaw03_awake.mono _)
      | (with_reducible exact rillmeterref03_Even.mono _ _)
      | (with_reducible exact rillmeterref03_Same.mono _ _ _)
      | (with_reducible exact rillmeterref03_Small.mono _ _ _)
      | (with_reducible exact rillmeterref03_Times.mono _ _ _)
      | (with_reducible exact solve_Times.mono _ _ _)
      | (with_reducible exact LeO.refl _)
      | (with_reducible exact LeO.none _)
      | (with_reducible refine LeO.ite ?_ ?_)
      | (with_reducible refine LeO.bind ?_ (fun _ => ?_))
      | exact ih0 _ _ _
      | exact ih1 _ _ _ _ _
      | exact rillmeterlaw03_awake.mono _
      | exact rillmeterref03_Even.mono _ _
      | exact rillmeterref03_Same.mono _ _ _
      | exact rillmeterref03_Small.mono _ _ _
      | exact rillmeterref03_Times.mono _ _ _
      | exact solve_Times.mono _ _ _
      | exact LeO.none _
      | refine LeO.ite ?_ ?_
      | refine LeO.bind ?_ (fun _ => ?_)
theorem rillmeterlaw03_SolveTimes.mono : ∀ a0 a1 k, LeO (rillmeterlaw03_SolveTimes.f k a0 a1) (rillmeterlaw03_SolveTimes.f (k + 1) a0 a1) := by
  intro a0 a1 k
  obtain ⟨ih0, ih1⟩ := rillmeterlaw03_SolveTimes.mono_l k
  unfold rillmeterlaw03_SolveTimes.f
  repeat' first
      | (with_reducible exact ih0 _ _ _)
      | (with_reducible exact ih1 _ _ _ _ _)
      | (with_reducible exact rillmeterlaw03_awake.mono _)
      | (with_reducible exact rillmeterref03_Even.mono _ _)
      | (with_reducible exact rillmeterref03_Same.mono _ _ _)
      | (with_reducible exact rillmeterref03_Small.mono _ _ _)
      | (with_reducible exact rillmeterref03_Times.mono _ _ _)
      | (with_reducible exact solve_Times.mono _ _ _)
      | (with_reducible exact LeO.refl _)
      | (with_reducible exact LeO.none _)
      | (with_reducible refine LeO.ite ?_ ?_)
      | (with_reducible refine LeO.bind ?_ (fun _ => ?_))
      | exact ih0 _ _ _
      | exact ih1 _ _ _ _ _
      | exact rillmeterlaw03_awake.mono _
      | exact rillmeterref03_Even.mono _ _
      | exact rillmeterref03_Same.mono _ _ _
      | exact rillmeterref03_Small.mono _ _ _
      | exact rillmeterref03_Times.mono _ _ _
      | exact solve_Times.mono _ _ _
      | exact LeO.none _
      | refine LeO.ite ?_ ?_
      | refine LeO.bind ?_ (fun _ => ?_)
set_option maxHeartbeats 8000000 in
set_option maxRecDepth 100000 in
theorem rillmeterlaw03_SolveTimes.calls (k : Nat) (A0 : Option Addr) (c0 : Nat) (l0 : List (List Int)) (A1 : Option Addr) (c1 : Nat) (l1 : List Int) (r : Bool) (w : World) (hr0 : Kd.C (Kd.slice 36 (Kd.int .u64)) w A0 l0.length l0) (hc0 : l0.length ≤ c0) (hr1 : Kd.C (Kd.int .u64) w A1 l1.length l1) (hc1 : l1.length ≤ c1) (h : rillmeterlaw03_SolveTimes.f k l0 l1 = some r) (hrt : Aside0 (r = true)) :
    Calls Try.prog 6 #[.slice A0 l0.length c0, .slice A1 l1.length c1] w fun e w' => e = .returned (.bool r) ∧ Below w.heap.size w w' := by
  have HR0 := Aside0.mk hr0
  have HC0 := Aside0.mk hc0
  clear hr0 hc0
  have HR1 := Aside0.mk hr1
  have HC1 := Aside0.mk hc1
  clear hr1 hc1
  have HB := Aside0.mk (Below.refl w.heap.size w)
  have H : ((rillmeterref03_Small.f k l0 40).bind fun t268 => (if t268 = true then (rillmeterlaw03_SolveTimes.j0 k l0 l1 (decide ((l1.length : Int) > 40))) else (rillmeterlaw03_SolveTimes.j0 k l0 l1 true))) = some r := h
  clear h
  have HC3 := Aside0.mk H
  clear H
  go_enter Try.func6, Try.ntmps6
  go_upto_region 1 with (fail)
  go_cut [14] (fun v14 wc => ∃ (kq : Nat) (x14_2 : Bool), v14 = .bool x14_2 ∧ Aside0 (rillmeterlaw03_SolveTimes.j0 kq l0 l1 x14_2 = some r) ∧ Aside0 (kq ≤ k) ∧ Aside0 (Below w.heap.size w wc))
  case first =>
    have H := HC3.out
    clear HC3
    replace H := Option.bind_eq_some_iff.mp H
    obtain ⟨t268, A40, H⟩ := H
    replace H : (if t268 = true then (rillmeterlaw03_SolveTimes.j0 k l0 l1 (decide ((l1.length : Int) > 40))) else (rillmeterlaw03_SolveTimes.j0 k l0 l1 true)) = some r := H
    have A4 := Aside0.mk A40
    clear A40
    by_cases c5 : t268 = true
    · subst c5
      have H1 : (rillmeterlaw03_SolveTimes.j0 k l0 l1 (decide ((l1.length : Int) > 40))) = some r := by rw [if_pos rfl] at H; exact H
      clear H
      have H := H1
      clear H1
      have H' := Aside0.mk H
      clear H
      go_wp2_with (first | ((with_reducible refine gate_callee (f := 9) rfl ?_); refine goesL_ (some 8) rfl rfl Try.func9 (by kernel_rfl) rfl #[.slice A0 l0.length c0, .int .i64 40] rfl (by (try simp only [List.map_toArray, List.map_cons, List.map_nil]); first | done | rfl | (simp only [List.length_drop, List.length_take]; rfl)) ?_; (with_reducible refine (rillmeterref03_Small.calls k _ _ l0 40 true _ ?side1 ?side2 A4.out).mono ?_); (case side1 => repeat (first | exact (Kd.C_below HR0.out HB.out) | (with_reducible refine Kd.C_alloc ?_ _) | (with_reducible refine Kd.C_drewN ?_ _) | (with_reducible refine Kd.C_drew ?_))); (case side2 => exact HC0.out); rintro e w' ⟨rfl, ⟨nd, rfl⟩⟩; refine ⟨_, rfl, ?_⟩))
      go_meet
      case rel => exact ⟨_, (decide ((l1.length : Int) > 40)), (by first | rfl | (simp; done) | (simp [*]; done)), H', ⟨by first | omega | exact Nat.le_refl _⟩, ⟨by repeat (first | (with_reducible first | exact HB.out | apply below_alloc | apply pw_below_drewN | apply below_drew1) | exact HB.out)⟩⟩
    · replace c5 := Bool.eq_false_iff.mpr c5
      subst c5
      have H1 : (rillmeterlaw03_SolveTimes.j0 k l0 l1 true) = some r := by rw [if_neg (show ¬ (false = true) by decide)] at H; exact H
      clear H
      have H := H1
      clear H1
      have H' := Aside0.mk H
      clear H
      go_wp2_with (first | ((with_reducible refine gate_callee (f := 9) rfl ?_); refine goesL_ (some 8) rfl rfl Try.func9 (by kernel_rfl) rfl #[.slice A0 l0.length c0, .int .i64 40] rfl (by (try simp only [List.map_toArray, List.map_cons, List.map_nil]); first | done | rfl | (simp only [List.length_drop, List.length_take]; rfl)) ?_; (with_reducible refine (rillmeterref03_Small.calls k _ _ l0 40 false _ ?side1 ?side2 A4.out).mono ?_); (case side1 => repeat (first | exact (Kd.C_below HR0.out HB.out) | (with_reducible refine Kd.C_alloc ?_ _) | (with_reducible refine Kd.C_drewN ?_ _) | (with_reducible refine Kd.C_drew ?_))); (case side2 => exact HC0.out); rintro e w' ⟨rfl, ⟨nd, rfl⟩⟩; refine ⟨_, rfl, ?_⟩))
      go_meet
      case rel => exact ⟨_, (true), (by first | rfl | (simp; done) | (simp [*]; done)), H', ⟨by first | omega | exact Nat.le_refl _⟩, ⟨by repeat (first | (with_reducible first | exact HB.out | apply below_alloc | apply pw_below_drewN | apply below_drew1) | exact HB.out)⟩⟩
  case rest =>
    clear HC3
    try clear c1
    try clear p2
    try clear c5
    obtain ⟨kq, x14_2, rfl, HA, HJ2, HB⟩ := hcut
    cases kq with
    | zero => exact absurd HA.out (by simp [rillmeterlaw03_SolveTimes.j0])
    | succ kj2 =>
      have H := HA.out
      clear HA
      simp only [rillmeterlaw03_SolveTimes.j0] at H
      by_cases c6 : x14_2 = true
      · subst c6
        have H1 : ((rillmeterlaw03_awake.f kj2).bind fun t269 => (some t269)) = some r := by rw [if_pos rfl] at H; exact H
        clear H
        have H := H1
        clear H1
        replace H := Option.bind_eq_some_iff.mp H
        obtain ⟨t269, A70, H⟩ := H
        replace H : (some t269) = some r := H
        have A7 := Aside0.mk A70
        clear A70
        obtain rfl := Option.some.inj H
        go_wp2_with (first | ((with_reducible refine gate_callee (f := 10) rfl ?_); refine goesL_ (some 15) rfl rfl Try.func10 (by kernel_rfl) rfl #[] rfl (by (try simp only [List.map_toArray, List.map_cons, List.map_nil]); first | done | rfl | (simp only [List.length_drop, List.length_take]; rfl)) ?_; (with_reducible refine (rillmeterlaw03_awake.calls kj2  t269 _ A7.out).mono ?_); rintro e w8 ⟨rfl, hb⟩; refine ⟨_, rfl, ?_⟩; have n0_ := Aside0.mk (below_step (by repeat (first | (with_reducible first | exact HB.out | apply below_alloc | apply pw_below_drewN | apply below_drew1) | exact HB.out)) hb); clear HB; have HB := n0_; clear n0_; (try clear hb); (try clear hb2); (try clear hk); (try clear hi)))
        go_ret
        exact ⟨by first | rfl | (simp [errW_none, errW_some] <;> rfl) | (simp [*, errW_none, errW_some] <;> rfl), by repeat (first | (with_reducible first | exact HB.out | apply below_alloc | apply pw_below_drewN | apply below_drew1) | exact HB.out)⟩
      · replace c6 := Bool.eq_false_iff.mpr c6
        subst c6
        have H1 : ((solve_Times.f kj2 l0 l1).bind fun bt270 => ((rillmeterref03_Even.f kj2 l0).bind fun t274 => (if t274 = true then (if (l0.length : Int) > 0 then (if 0 < (l0.length : Int) then (rillmeterlaw03_SolveTimes.j1 kj2 l0 l1 bt270.1 bt270.2 ((l1.length : Int) != ((rd_L1 l0 0).length : Int))) else (none)) else (rillmeterlaw03_SolveTimes.j1 kj2 l0 l1 bt270.1 bt270.2 false)) else (rillmeterlaw03_SolveTimes.j1 kj2 l0 l1 bt270.1 bt270.2 true)))) = some r := by rw [if_neg (show ¬ (false = true) by decide)] at H; exact H
        clear H
        have H := H1
        clear H1
        replace H := Option.bind_eq_some_iff.mp H
        obtain ⟨⟨t270, t271⟩, A90, H⟩ := H
        replace H : ((rillmeterref03_Even.f kj2 l0).bind fun t274 => (if t274 = true then (if (l0.length : Int) > 0 then (if 0 < (l0.length : Int) then (rillmeterlaw03_SolveTimes.j1 kj2 l0 l1 t270 t271 ((l1.length : Int) != ((rd_L1 l0 0).length : Int))) else (none)) else (rillmeterlaw03_SolveTimes.j1 kj2 l0 l1 t270 t271 false)) else (rillmeterlaw03_SolveTimes.j1 kj2 l0 l1 t270 t271 true))) = some r := H
        have A9 := Aside0.mk A90
        clear A90
        have HC10 := Aside0.mk H
        clear H
        go_upto_region 4 with (first | ((with_reducible refine gate_callee (f := 18) rfl ?_); refine goesL_ (some 19) rfl rfl Try.func18 (by kernel_rfl) rfl #[.slice A0 l0.length c0, .slice A1 l1.length c1] rfl (by (try simp only [List.map_toArray, List.map_cons, List.map_nil]); first | done | rfl | (simp only [List.length_drop, List.length_take]; rfl)) ?_; (with_reducible refine (solve_Times.calls kj2 _ _ l0 _ _ l1 t270 t271 _ ?side1 ?side2 ?side3 ?side4 A9.out).mono ?_); (case side1 => repeat (first | exact (Kd.C_below HR0.out HB.out) | (with_reducible refine Kd.C_alloc ?_ _) | (with_reducible refine Kd.C_drewN ?_ _) | (with_reducible refine Kd.C_drew ?_))); (case side2 => exact HC0.out); (case side3 => repeat (first | exact (Kd.C_below HR1.out HB.out) | (with_reducible refine Kd.C_alloc ?_ _) | (with_reducible refine Kd.C_drewN ?_ _) | (with_reducible refine Kd.C_drew ?_))); (case side4 => exact HC1.out); rintro e w11 ⟨v272, rfl, ho0, hb⟩; refine ⟨_, rfl, ?_⟩; have n0_ := Aside0.mk (Kd.R_lower ho0 (below_size (by repeat (first | (with_reducible first | exact HB.out | apply below_alloc | apply pw_below_drewN | apply below_drew1) | exact HB.out)))); have n1_ := Aside0.mk (below_step (by repeat (first | (with_reducible first | exact HB.out | apply below_alloc | apply pw_below_drewN | apply below_drew1) | exact HB.out)) hb); clear HB; have HO273 := n0_; have HB := n1_; clear n0_ n1_; (try clear hb); (try clear hb2); (try clear hk); (try clear hi); (try clear ho0)))
        (try simp only [Act.put, List.setIfInBounds_toArray, List.set_cons_zero, List.set_cons_succ])
        go_cut [38] (fun v38 wc => ∃ (kq : Nat) (x38_9 : Bool), v38 = .bool x38_9 ∧ Aside0 (rillmeterlaw03_SolveTimes.j1 kq l0 l1 t270 t271 x38_9 = some r) ∧ Aside0 (kq ≤ kj2) ∧ Aside0 (Kd.R (Kd.int .u64) 36 wc w.heap.size (fun _ => True) v272 t270) ∧ Aside0 (Below w.heap.size w wc))
        case first =>
          have H := HC10.out
          clear HC10
          replace H := Option.bind_eq_some_iff.mp H
          obtain ⟨t274, A120, H⟩ := H
          replace H : (if t274 = true then (if (l0.length : Int) > 0 then (if 0 < (l0.length : Int) then (rillmeterlaw03_SolveTimes.j1 kj2 l0 l1 t270 t271 ((l1.length : Int) != ((rd_L1 l0 0).length : Int))) else (none)) else (rillmeterlaw03_SolveTimes.j1 kj2 l0 l1 t270 t271 false)) else (rillmeterlaw03_SolveTimes.j1 kj2 l0 l1 t270 t271 true)) = some r := H
          have A12 := Aside0.mk A120
          clear A120
          by_cases c13 : t274 = true
          · subst c13
            have H1 : (if (l0.length : Int) > 0 then (if 0 < (l0.length : Int) then (rillmeterlaw03_SolveTimes.j1 kj2 l0 l1 t270 t271 ((l1.length : Int) != ((rd_L1 l0 0).length : Int))) else (none)) else (rillmeterlaw03_SolveTimes.j1 kj2 l0 l1 t270 t271 false)) = some r := by rw [if_pos rfl] at H; exact H
            clear H
            have H := H1
            clear H1
            by_cases c14 : (l0.length : Int) > 0
            · rw [if_pos c14] at H
              have c14b0 : decide (0 < (l0.length : Int)) = true := decide_eq_true c14
              have c14b1 : decide (0 < l0.length) = true := decide_eq_true (by omega)
              clear c14
              (first | rw [c14b0] | (simp only [i64_w, i32_w]; rw [c14b0]) | skip)
              by_cases c15 : 0 < (l0.length : Int)
              · rw [if_pos c15] at H
                have c15b0 : decide (0 < (l0.length : Int)) = true := decide_eq_true c15
                have c15b1 : decide (0 < l0.length) = true := decide_eq_true (by omega)
                clear c15
                have H' := Aside0.mk H
                clear H
                go_wp2_with (first | ((with_reducible refine gate_callee (f := 12) rfl ?_); refine goesL_ (some 23) rfl rfl Try.func12 (by kernel_rfl) rfl #[.slice A0 l0.length c0] rfl (by (try simp only [List.map_toArray, List.map_cons, List.map_nil]); first | done | rfl | (simp only [List.length_drop, List.length_take]; rfl)) ?_; (with_reducible refine (rillmeterref03_Even.calls kj2 _ _ l0 true _ ?side1 ?side2 A12.out).mono ?_); (case side1 => repeat (first | exact (Kd.C_below HR0.out HB.out) | (with_reducible refine Kd.C_alloc ?_ _) | (with_reducible refine Kd.C_drewN ?_ _) | (with_reducible refine Kd.C_drew ?_))); (case side2 => exact HC0.out); rintro e w' ⟨rfl, ⟨nd, rfl⟩⟩; refine ⟨_, rfl, ?_⟩; have p275 : 0 ≤ (0 : Int) := (by omega); have q275 : 0 < (l0.length : Int) := of_decide_eq_true (by first | (with_reducible assumption) | assumption); obtain ⟨ad275, A275_0, c275_0, e275, hx275_0, hl275_0, hi275_0⟩ := at_L1 HR0.out 0 p275 q275; cases e275; have qi275 : (0 < l0.length) = True := eq_true (by omega); (try rw [show ((0 : Int)).toNat = 0 from rfl] at hx275_0); (try rw [Addr.add_zero'] at hx275_0); replace hx275_0 := (HB.out.cell (World.block_lt_of_cell? w _ hx275_0)).trans hx275_0; have HR275_0 := Aside0.mk hi275_0; have HC275_0 := Aside0.mk hl275_0; clear hi275_0 hl275_0; replace p275 := eq_true p275; replace q275 := eq_true q275))
                go_meet
                case rel => exact ⟨_, (((l1.length : Int) != ((rd_L1 l0 0).length : Int))), (by first | rfl | (simp; done) | (simp [*]; done)), H', ⟨by have := HJ2.out; first | omega | exact Nat.le_refl _⟩, ⟨by (with_reducible repeat (first | apply Kd.R_alloc | apply Kd.R_drewN | apply Kd.R_drew)); exact HO273.out⟩, ⟨by repeat (first | (with_reducible first | exact HB.out | apply below_alloc | apply pw_below_drewN | apply below_drew1) | exact HB.out)⟩⟩
              · rw [if_neg c15] at H
                exact absurd H (by simp)
            · rw [if_neg c14] at H
              have c14b0 : decide (0 < (l0.length : Int)) = false := decide_eq_false c14
              have c14b1 : decide (0 < l0.length) = false := decide_eq_false (by omega)
              clear c14
              (first | rw [c14b0] | (simp only [i64_w, i32_w]; rw [c14b0]) | skip)
              have H' := Aside0.mk H
              clear H
              go_wp2_with (first | ((with_reducible refine gate_callee (f := 12) rfl ?_); refine goesL_ (some 23) rfl rfl Try.func12 (by kernel_rfl) rfl #[.slice A0 l0.length c0] rfl (by (try simp only [List.map_toArray, List.map_cons, List.map_nil]); first | done | rfl | (simp only [List.length_drop, List.length_take]; rfl)) ?_; (with_reducible refine (rillmeterref03_Even.calls kj2 _ _ l0 true _ ?side1 ?side2 A12.out).mono ?_); (case side1 => repeat (first | exact (Kd.C_below HR0.out HB.out) | (with_reducible refine Kd.C_alloc ?_ _) | (with_reducible refine Kd.C_drewN ?_ _) | (with_reducible refine Kd.C_drew ?_))); (case side2 => exact HC0.out); rintro e w' ⟨rfl, ⟨nd, rfl⟩⟩; refine ⟨_, rfl, ?_⟩))
              go_meet
              case rel => exact ⟨_, (false), (by first | rfl | (simp; done) | (simp [*]; done)), H', ⟨by have := HJ2.out; first | omega | exact Nat.le_refl _⟩, ⟨by (with_reducible repeat (first | apply Kd.R_alloc | apply Kd.R_drewN | apply Kd.R_drew)); exact HO273.out⟩, ⟨by repeat (first | (with_reducible first | exact HB.out | apply below_alloc | apply pw_below_drewN | apply below_drew1) | exact HB.out)⟩⟩
          · replace c13 := Bool.eq_false_iff.mpr c13
            subst c13
            have H1 : (rillmeterlaw03_SolveTimes.j1 kj2 l0 l1 t270 t271 true) = some r := by rw [if_neg (show ¬ (false = true) by decide)] at H; exact H
            clear H
            have H := H1
            clear H1
            have H' := Aside0.mk H
            clear H
            go_wp2_with (first | ((with_reducible refine gate_callee (f := 12) rfl ?_); refine goesL_ (some 23) rfl rfl Try.func12 (by kernel_rfl) rfl #[.slice A0 l0.length c0] rfl (by (try simp only [List.map_toArray, List.map_cons, List.map_nil]); first | done | rfl | (simp only [List.length_drop, List.length_take]; rfl)) ?_; (with_reducible refine (rillmeterref03_Even.calls kj2 _ _ l0 false _ ?side1 ?side2 A12.out).mono ?_); (case side1 => repeat (first | exact (Kd.C_below HR0.out HB.out) | (with_reducible refine Kd.C_alloc ?_ _) | (with_reducible refine Kd.C_drewN ?_ _) | (with_reducible refine Kd.C_drew ?_))); (case side2 => exact HC0.out); rintro e w' ⟨rfl, ⟨nd, rfl⟩⟩; refine ⟨_, rfl, ?_⟩))
            go_meet
            case rel => exact ⟨_, (true), (by first | rfl | (simp; done) | (simp [*]; done)), H', ⟨by have := HJ2.out; first | omega | exact Nat.le_refl _⟩, ⟨by (with_reducible repeat (first | apply Kd.R_alloc | apply Kd.R_drewN | apply Kd.R_drew)); exact HO273.out⟩, ⟨by repeat (first | (with_reducible first | exact HB.out | apply below_alloc | apply pw_below_drewN | apply below_drew1) | exact HB.out)⟩⟩
        case rest =>
          clear HC10
          try clear c1
          try clear c2
          try clear p2
          try clear q2
          try clear hx2
          try clear qi2
          try clear c5
          try clear c6
          try clear c9
          try clear c10
          try clear c12
          try clear c13
          try clear c14
          try clear c14b0
          try clear c14b1
          try clear c15
          try clear c15b0
          try clear c15b1
          try clear hx275_0
          try clear p2
          try clear p275
          try clear q275
          obtain ⟨kq, x38_9, rfl, HA, HJ9, HO_5, HB⟩ := hcut
          cases kq with
          | zero => exact absurd HA.out (by simp [rillmeterlaw03_SolveTimes.j1])
          | succ kj9 =>
            have H := HA.out
            clear HA
            simp only [rillmeterlaw03_SolveTimes.j1] at H
            by_cases c16 : x38_9 = true
            · subst c16
              have H1 : (if (t270.length : Int) = 0 then (if t271 = 1 then ((rillmeterlaw03_awake.f kj9).bind fun t276 => (some t276)) else (some false)) else (some false)) = some r := by rw [if_pos rfl] at H; exact H
              clear H
              have H := H1
              clear H1
              by_cases c17 : (t270.length : Int) = 0
              · rw [if_pos c17] at H
                have c17b0 : ((t270.length : Int) == 0) = true := beq_iff_eq.mpr c17
                have c17b1 : ((t270.length : Int) != 0) = false := bne_eq_false_iff_eq.mpr c17
                clear c17
                by_cases c18 : t271 = 1
                · rw [if_pos c18] at H
                  have c18b0 : (t271 == 1) = true := beq_iff_eq.mpr c18
                  have c18b1 : (t271 != 1) = false := bne_eq_false_iff_eq.mpr c18
                  clear c18
                  replace H := Option.bind_eq_some_iff.mp H
                  obtain ⟨t276, A190, H⟩ := H
                  replace H : (some t276) = some r := H
                  have A19 := Aside0.mk A190
                  clear A190
                  obtain rfl := Option.some.inj H
                  obtain ⟨Ao20, co20, eo20⟩ := Kd.R_slice HO_5.out
                  subst eo20
                  go_wp2_with (first | (go_at_call 10; (with_reducible refine (rillmeterlaw03_awake.calls kj9  t276 _ A19.out).mono ?_); rintro e w21 ⟨rfl, hb⟩; have n0_ := Aside0.mk (Kd.R_below (by (with_reducible repeat (first | apply Kd.R_alloc | apply Kd.R_drewN | apply Kd.R_drew)); exact HO_5.out) hb); have n1_ := Aside0.mk (below_step (by repeat (first | (with_reducible first | exact HB.out | apply below_alloc | apply pw_below_drewN | apply below_drew1) | exact HB.out)) hb); clear HO_5; clear HB; have HO_5 := n0_; have HB := n1_; clear n0_ n1_; (try clear hb); (try clear hb2); (try clear hk); (try clear hi)))
                  go_ret
                  exact ⟨by first | rfl | (simp [errW_none, errW_some] <;> rfl) | (simp [*, errW_none, errW_some] <;> rfl), by repeat (first | (with_reducible first | exact HB.out | apply below_alloc | apply pw_below_drewN | apply below_drew1) | exact HB.out)⟩
                · rw [if_neg c18] at H
                  have c18b0 : (t271 == 1) = false := beq_eq_false_iff_ne.mpr c18
                  have c18b1 : (t271 != 1) = true := bne_iff_ne.mpr c18
                  exact absurd ((Option.some.inj H).trans hrt.out) (by decide)
              · rw [if_neg c17] at H
                have c17b0 : ((t270.length : Int) == 0) = false := beq_eq_false_iff_ne.mpr c17
                have c17b1 : ((t270.length : Int) != 0) = true := bne_iff_ne.mpr c17
                have c17b2 : ¬ (t270 = []) := fun h_ => c17 (by rw [h_]; rfl)
                exact absurd ((Option.some.inj H).trans hrt.out) (by decide)
            · replace c16 := Bool.eq_false_iff.mpr c16
              subst c16
              have H1 : ((rillmeterref03_Times.f kj9 l0 l1).bind fun t277 => ((rillmeterref03_Same.f kj9 t270 t277).bind fun t280 => (if t280 = true then (if (t270.length : Int) = (l0.length : Int) then (if t271 = 0 then ((rillmeterlaw03_awake.f kj9).bind fun t281 => (some t281)) else (some false)) else (some false)) else (some false)))) = some r := by rw [if_neg (show ¬ (false = true) by decide)] at H; exact H
              clear H
              have H := H1
              clear H1
              replace H := Option.bind_eq_some_iff.mp H
              obtain ⟨t277, A220, H⟩ := H
              replace H : ((rillmeterref03_Same.f kj9 t270 t277).bind fun t280 => (if t280 = true then (if (t270.length : Int) = (l0.length : Int) then (if t271 = 0 then ((rillmeterlaw03_awake.f kj9).bind fun t281 => (some t281)) else (some false)) else (some false)) else (some false))) = some r := H
              have A22 := Aside0.mk A220
              clear A220
              replace H := Option.bind_eq_some_iff.mp H
              obtain ⟨t280, A230, H⟩ := H
              replace H : (if t280 = true then (if (t270.length : Int) = (l0.length : Int) then (if t271 = 0 then ((rillmeterlaw03_awake.f kj9).bind fun t281 => (some t281)) else (some false)) else (some false)) else (some false)) = some r := H
              have A23 := Aside0.mk A230
              clear A230
              by_cases c24 : t280 = true
              · subst c24
                have H1 : (if (t270.length : Int) = (l0.length : Int) then (if t271 = 0 then ((rillmeterlaw03_awake.f kj9).bind fun t281 => (some t281)) else (some false)) else (some false)) = some r := by rw [if_pos rfl] at H; exact H
                clear H
                have H := H1
                clear H1
                by_cases c25 : (t270.length : Int) = (l0.length : Int)
                · rw [if_pos c25] at H
                  have c25b0 : ((t270.length : Int) == (l0.length : Int)) = true := beq_iff_eq.mpr c25
                  have c25b1 : ((t270.length : Int) != (l0.length : Int)) = false := bne_eq_false_iff_eq.mpr c25
                  have c25b2 : (t270.length == l0.length) = true := by first | simpa using c25 | (simp at c25 ⊢; omega)
                  clear c25
                  by_cases c26 : t271 = 0
                  · rw [if_pos c26] at H
                    have c26b0 : (t271 == 0) = true := beq_iff_eq.mpr c26
                    have c26b1 : (t271 != 0) = false := bne_eq_false_iff_eq.mpr c26
                    clear c26
                    replace H := Option.bind_eq_some_iff.mp H
                    obtain ⟨t281, A270, H⟩ := H
                    replace H : (some t281) = some r := H
                    have A27 := Aside0.mk A270
                    clear A270
                    obtain rfl := Option.some.inj H
                    go_wp2_with (first | ((with_reducible refine gate_callee (f := 17) rfl ?_); refine goesL_ (some 52) rfl rfl Try.func17 (by kernel_rfl) rfl #[.slice A0 l0.length c0, .slice A1 l1.length c1] rfl (by (try simp only [List.map_toArray, List.map_cons, List.map_nil]); first | done | rfl | (simp only [List.length_drop, List.length_take]; rfl)) ?_; (with_reducible refine (rillmeterref03_Times.calls kj9 _ _ l0 _ _ l1 t277 _ ?side1 ?side2 ?side3 ?side4 A22.out).mono ?_); (case side1 => repeat (first | exact (Kd.C_below HR0.out HB.out) | (with_reducible refine Kd.C_alloc ?_ _) | (with_reducible refine Kd.C_drewN ?_ _) | (with_reducible refine Kd.C_drew ?_))); (case side2 => exact HC0.out); (case side3 => repeat (first | exact (Kd.C_below HR1.out HB.out) | (with_reducible refine Kd.C_alloc ?_ _) | (with_reducible refine Kd.C_drewN ?_ _) | (with_reducible refine Kd.C_drew ?_))); (case side4 => exact HC1.out); rintro e w28 ⟨v278, rfl, ho0, hb⟩; refine ⟨_, rfl, ?_⟩; have n0_ := Aside0.mk (Kd.R_elder' (by (with_reducible repeat (first | apply Kd.R_alloc | apply Kd.R_drewN | apply Kd.R_drew)); exact HO_5.out) (Kd.R_base ho0) hb); have n1_ := Aside0.mk (Kd.R_lower (Kd.R_new' ho0 (Kd.R_lt (by (with_reducible repeat (first | apply Kd.R_alloc | apply Kd.R_drewN | apply Kd.R_drew)); exact HO_5.out))) (below_size (by repeat (first | (with_reducible first | exact HB.out | apply below_alloc | apply pw_below_drewN | apply below_drew1) | exact HB.out)))); have n2_ := Aside0.mk (below_step (by repeat (first | (with_reducible first | exact HB.out | apply below_alloc | apply pw_below_drewN | apply below_drew1) | exact HB.out)) hb); clear HO_5; clear HB; have HO_5 := n0_; have HO279 := n1_; have HB := n2_; clear n0_ n1_ n2_; (try clear hb); (try clear hb2); (try clear hk); (try clear hi); (try clear ho0); obtain ⟨Ao29, co29, eo29⟩ := Kd.R_slice HO_5.out; subst eo29; obtain ⟨Ao30, co30, eo30⟩ := Kd.R_slice HO279.out; subst eo30) | ((with_reducible refine gate_callee (f := 16) rfl ?_); refine goesL_ (some 53) rfl rfl Try.func16 (by kernel_rfl) rfl #[.slice Ao29 t270.length co29, .slice Ao30 t277.length co30] rfl (by (try simp only [List.map_toArray, List.map_cons, List.map_nil]); first | done | rfl | (simp only [List.length_drop, List.length_take]; rfl)) ?_; (with_reducible refine (rillmeterref03_Same.calls kj9 _ _ t270 _ _ t277 true _ ?side1 ?side2 ?side3 ?side4 A23.out).mono ?_); (case side1 => repeat (first | exact (Kd.R_reads' HO_5.out).2.2 | (with_reducible refine Kd.C_alloc ?_ _) | (with_reducible refine Kd.C_drewN ?_ _) | (with_reducible refine Kd.C_drew ?_))); (case side2 => exact (Kd.R_reads' HO_5.out).2.1); (case side3 => repeat (first | exact (Kd.R_reads' HO279.out).2.2 | (with_reducible refine Kd.C_alloc ?_ _) | (with_reducible refine Kd.C_drewN ?_ _) | (with_reducible refine Kd.C_drew ?_))); (case side4 => exact (Kd.R_reads' HO279.out).2.1); rintro e w' ⟨rfl, ⟨nd, rfl⟩⟩; refine ⟨_, rfl, ?_⟩) | (go_at_call 10; (with_reducible refine (rillmeterlaw03_awake.calls kj9  t281 _ A27.out).mono ?_); rintro e w31 ⟨rfl, hb⟩; have n0_ := Aside0.mk (Kd.R_below (by (with_reducible repeat (first | apply Kd.R_alloc | apply Kd.R_drewN | apply Kd.R_drew)); exact HO_5.out) hb); have n1_ := Aside0.mk (Kd.R_below (by (with_reducible repeat (first | apply Kd.R_alloc | apply Kd.R_drewN | apply Kd.R_drew)); exact HO279.out) hb); have n2_ := Aside0.mk (below_step (by repeat (first | (with_reducible first | exact HB.out | apply below_alloc | apply pw_below_drewN | apply below_drew1) | exact HB.out)) hb); clear HO_5; clear HO279; clear HB; have HO_5 := n0_; have HO279 := n1_; have HB := n2_; clear n0_ n1_ n2_; (try clear hb); (try clear hb2); (try clear hk); (try clear hi)))
                    go_ret
                    exact ⟨by first | rfl | (simp [errW_none, errW_some] <;> rfl) | (simp [*, errW_none, errW_some] <;> rfl), by repeat (first | (with_reducible first | exact HB.out | apply below_alloc | apply pw_below_drewN | apply below_drew1) | exact HB.out)⟩
                  · rw [if_neg c26] at H
                    have c26b0 : (t271 == 0) = false := beq_eq_false_iff_ne.mpr c26
                    have c26b1 : (t271 != 0) = true := bne_iff_ne.mpr c26
                    exact absurd ((Option.some.inj H).trans hrt.out) (by decide)
                · rw [if_neg c25] at H
                  have c25b0 : ((t270.length : Int) == (l0.length : Int)) = false := beq_eq_false_iff_ne.mpr c25
                  have c25b1 : ((t270.length : Int) != (l0.length : Int)) = true := bne_iff_ne.mpr c25
                  have c25b2 : (t270.length == l0.length) = false := by first | simpa using c25 | (simp at c25 ⊢; omega)
                  exact absurd ((Option.some.inj H).trans hrt.out) (by decide)
              · replace c24 := Bool.eq_false_iff.mpr c24
                subst c24
                have H1 : (some false) = some r := by rw [if_neg (show ¬ (false = true) by decide)] at H; exact H
                clear H
                have H := H1
                clear H1
                exact absurd ((Option.some.inj H).trans hrt.out) (by decide)

end Go.Proofs.Ytoplnkbhgpamaaa.PSolveTimes
