/- The functions that a law uses, each as a plain function, with the proof that a call of the Go function comes to its answer. Condition of each: the arguments read as the data that it names, and the plain function has an answer. Written by a program of this session (standin.py). -/
import Derived.Test.YtoplnkbhgpamaaaPSolveBackx0
import Derived.Test.YtoplnkbhgpamaaaPSolveBackx1
import Derived.Test.YtoplnkbhgpamaaaPSolveBackx4
import Derived.Test.YtoplnkbhgpamaaaPSolveBackx5
import Derived.Test.YtoplnkbhgpamaaaPSolveBackx6
import Derived.Test.YtoplnkbhgpamaaaPSolveBackx7
import Derived.Test.YtoplnkbhgpamaaaPSolveBackx8
import Derived.Lib.SliceRun
namespace Go.Proofs.Ytoplnkbhgpamaaa.PSolveBack
open Go.RowKit Go.Proofs.YtoplnkbhgpamaaaW.PrintWords Go.Proofs.YtoplnkbhgpamaaaW.PrintLast Go.Proofs.YtoplnkbhgpamaaaW.PrintMore
attribute [local go_sem] max2_int min2_int max_two min_two max_three min_three max_four min_four   -- for this text's walks alone
set_option linter.unusedVariables false
set_option linter.unusedSimpArgs false

/-! ### rillmeterlaw03_SolveBack: function 7 -/
mutual
def rillmeterlaw03_SolveBack.j0 : Nat → List (List Int) → List Int → Bool → Option (Bool)
  | 0, _, _, _ => none
  | k + 1, x0, x1, x18 => if x18 = true then ((rillmeterlaw03_awake.f k).bind fun t258 => (some t258)) else ((solve_Times.f k x0 x1).bind fun bt259 => ((solve_Rank.f k x0).bind fun bt263 => ((solve_Solve.f k x0 bt259.1).bind fun bt265 => (if bt259.2 = 0 then (if bt263.2 = 0 then (rillmeterlaw03_SolveBack.j1 k x0 x1 bt263.1 bt265.1 bt265.2 ((x0.length : Int) == 0)) else (rillmeterlaw03_SolveBack.j1 k x0 x1 bt263.1 bt265.1 bt265.2 true)) else (rillmeterlaw03_SolveBack.j1 k x0 x1 bt263.1 bt265.1 bt265.2 true)))))
def rillmeterlaw03_SolveBack.j1 : Nat → List (List Int) → List Int → Int → List Int → Int → Bool → Option (Bool)
  | 0, _, _, _, _, _, _ => none
  | k + 1, x0, x1, x7, x9, x10, x47 => if x47 = true then ((rillmeterlaw03_awake.f k).bind fun t269 => (some t269)) else (if 0 < (x0.length : Int) then (if x7 < ((rd_L1 x0 0).length : Int) then (if (x9.length : Int) = 0 then (if x10 = 7 then ((rillmeterlaw03_awake.f k).bind fun t271 => (some t271)) else (some false)) else (some false)) else (if x10 = 0 then ((rillmeterref03_Same.f k x1 x9).bind fun t272 => (if t272 = true then ((rillmeterlaw03_awake.f k).bind fun t273 => (some t273)) else (some false))) else (some false))) else (none))
end
def rillmeterlaw03_SolveBack.f (k : Nat) (l0 : List (List Int)) (l1 : List Int) : Option (Bool) := (rillmeterref03_Small.f k l0 32).bind fun t257 => (if t257 = true then (rillmeterlaw03_SolveBack.j0 k l0 l1 (decide ((l1.length : Int) > 32))) else (rillmeterlaw03_SolveBack.j0 k l0 l1 true))
theorem rillmeterlaw03_SolveBack.mono_l : ∀ k, (∀ y0 y1 y2, LeO (rillmeterlaw03_SolveBack.j0 k y0 y1 y2) (rillmeterlaw03_SolveBack.j0 (k + 1) y0 y1 y2)) ∧ (∀ y0 y1 y2 y3 y4 y5, LeO (rillmeterlaw03_SolveBack.j1 k y0 y1 y2 y3 y4 y5) (rillmeterlaw03_SolveBack.j1 (k + 1) y0 y1 y2 y3 y4 y5))
  | 0 => ⟨fun _ _ _ r h => by simp [rillmeterlaw03_SolveBack.j0] at h, fun _ _ _ _ _ _ r h => by simp [rillmeterlaw03_SolveBack.j1] at h⟩
  | k + 1 => by
    obtain ⟨ih0, ih1⟩ := rillmeterlaw03_SolveBack.mono_l k
    refine ⟨?_, ?_⟩
    · intro y0 y1 y2
      unfold rillmeterlaw03_SolveBack.j0
      repeat' first
      | (with_reducible exact ih0 _ _ _)
      | (with_reducible exact ih1 _ _ _ _ _ _)
      | (with_reducible exact rillmeterlaw03_awake.mono _)
      | (with_reducible exact rillmeterref03_Same.mono _ _ _)
      | (with_reducible exact rillmeterref03_Small.mono _ _ _)
      | (with_reducible exact solve_Rank.mono _ _)
      | (with_reducible exact solve_Solve.mono _ _ _)
      | (with_reducible exact solve_Times.mono _ _ _)
      | (with_reducible exact LeO.refl _)
      | (with_reducible exact LeO.none _)
      | (with_reducible refine LeO.ite ?_ ?_)
      | (with_reducible refine LeO.bind ?_ (fun _ => ?_))
      | exact ih0 _ _ _
      | exact ih1 _ _ _ _ _ _
      | exact rillmeterlaw03_awake.mono _
      | exact rillmeterref03_Same.mono _ _ _
      | exact rillmeterref03_Small.mono _ _ _
      | exact solve_Rank.mono _ _
      | exact solve_Solve.mono _ _ _
      | exact solve_Times.mono _ _ _
      | exact LeO.none _
      | refine LeO.ite ?_ ?_
      | refine LeO.bind ?_ (fun _ => ?_)
    · intro y0 y1 y2 y3 y4 y5
      unfold rillmeterlaw03_SolveBack.j1
      repeat' first
      | (with_reducible exact ih0 _ _ _)
      | (with_reducible exact ih1 _ _ _ _ _ _)
      | (with_reducible exact rillmeterlaw03_awake.mono _)
      | (with_reducible exact rillmeterref03_Same.mono _ _ _)
      | (with_reducible exact rillmeterref03_Small.mono _ _ _)
      | (with_reducible exact solve_Rank.mono _ _)
      | (with_reducible exact solve_Solve.mono _ _ _)
      | (with_reducible exact solve_Times.mono _ _ _)
      | (with_reducible exact LeO.refl _)
      | (with_reducible exact LeO.none _)
      | (with_reducible refine LeO.ite ?_ ?_)
      | (with_reducible refine LeO.bind ?_ (fun _ => ?_))
      | exact ih0 _ _ _
      | exact ih1 _ _ _ _ _ _
      | exact rillmeterlaw03_awake.mono _
      | exact rillmeterref03_Same.mono _ _ _
      | exact rillmeterref03_Small.mono _ _ _
      | exact solve_Rank.mono _ _
      | exact solve_Solve.mono _ _ _
      | exact solve_Times.mono _ _ _
      | exact LeO.none _
      | refine LeO.ite ?_ ?_
      | refine LeO.bind ?_ (fun _ => ?_)
theorem rillmeterlaw03_SolveBack.mono : ∀ a0 a1 k, LeO (rillmeterlaw03_SolveBack.f k a0 a1) (rillmeterlaw03_SolveBack.f (k + 1) a0 a1) := by
  intro a0 a1 k
  obtain ⟨ih0, ih1⟩ := rillmeterlaw03_SolveBack.mono_l k
  unfold rillmeterlaw03_SolveBack.f
  repeat' first
      | (with_reducible exact ih0 _ _ _)
      | (with_reducible exact ih1 _ _ _ _ _ _)
      | (with_reducible exact rillmeterlaw03_awake.mono _)
      | (with_reducible exact rillmeterref03_Same.mono _ _ _)
      | (with_reducible exact rillmeterref03_Small.mono _ _ _)
      | (with_reducible exact solve_Rank.mono _ _)
      | (with_reducible exact solve_Solve.mono _ _ _)
      | (with_reducible exact solve_Times.mono _ _ _)
      | (with_reducible exact LeO.refl _)
      | (with_reducible exact LeO.none _)
      | (with_reducible refine LeO.ite ?_ ?_)
      | (with_reducible refine LeO.bind ?_ (fun _ => ?_))
      | exact ih0 _ _ _
      | exact ih1 _ _ _ _ _ _
      | exact rillmeterlaw03_awake.mono _
      | exact rillmeterref03_Same.mono _ _ _
      | exact rillmeterref03_Small.mono _ _ _
      | exact solve_Rank.mono _ _
      | exact solve_Solve.mono _ _ _
      | exact solve_Times.mono _ _ _
      | exact LeO.none _
      | refine LeO.ite ?_ ?_
      | refine LeO.bind ?_ (fun _ => ?_)
set_option maxHeartbeats 8000000 in
set_option maxRecDepth 100000 in
theorem rillmeterlaw03_SolveBack.calls (k : Nat) (A0 : Option Addr) (c0 : Nat) (l0 : List (List Int)) (A1 : Option Addr) (c1 : Nat) (l1 : List Int) (r : Bool) (w : World) (hr0 : Kd.C (Kd.slice 36 (Kd.int .u64)) w A0 l0.length l0) (hc0 : l0.length ≤ c0) (hr1 : Kd.C (Kd.int .u64) w A1 l1.length l1) (hc1 : l1.length ≤ c1) (h : rillmeterlaw03_SolveBack.f k l0 l1 = some r) (hrt : Aside0 (r = true)) :
    Calls Try.prog 7 #[.slice A0 l0.length c0, .slice A1 l1.length c1] w fun e w' => e = .returned (.bool r) ∧ Below w.heap.size w w' := by
  have HR0 := Aside0.mk hr0
  have HC0 := Aside0.mk hc0
  clear hr0 hc0
  have HR1 := Aside0.mk hr1
  have HC1 := Aside0.mk hc1
  clear hr1 hc1
  have HB := Aside0.mk (Below.refl w.heap.size w)
  have H : ((rillmeterref03_Small.f k l0 32).bind fun t257 => (if t257 = true then (rillmeterlaw03_SolveBack.j0 k l0 l1 (decide ((l1.length : Int) > 32))) else (rillmeterlaw03_SolveBack.j0 k l0 l1 true))) = some r := h
  clear h
  have HC3 := Aside0.mk H
  clear H
  go_enter Try.func7, Try.ntmps7
  go_upto_region 1 with (fail)
  go_cut [18] (fun v18 wc => ∃ (kq : Nat) (x18_2 : Bool), v18 = .bool x18_2 ∧ Aside0 (rillmeterlaw03_SolveBack.j0 kq l0 l1 x18_2 = some r) ∧ Aside0 (kq ≤ k) ∧ Aside0 (Below w.heap.size w wc))
  case first =>
    have H := HC3.out
    clear HC3
    replace H := Option.bind_eq_some_iff.mp H
    obtain ⟨t257, A40, H⟩ := H
    replace H : (if t257 = true then (rillmeterlaw03_SolveBack.j0 k l0 l1 (decide ((l1.length : Int) > 32))) else (rillmeterlaw03_SolveBack.j0 k l0 l1 true)) = some r := H
    have A4 := Aside0.mk A40
    clear A40
    by_cases c5 : t257 = true
    · subst c5
      have H1 : (rillmeterlaw03_SolveBack.j0 k l0 l1 (decide ((l1.length : Int) > 32))) = some r := by rw [if_pos rfl] at H; exact H
      clear H
      have H := H1
      clear H1
      have H' := Aside0.mk H
      clear H
      go_wp2_with (first | ((with_reducible refine gate_callee (f := 9) rfl ?_); refine goesL_ (some 12) rfl rfl Try.func9 (by kernel_rfl) rfl #[.slice A0 l0.length c0, .int .i64 32] rfl (by (try simp only [List.map_toArray, List.map_cons, List.map_nil]); first | done | rfl | (simp only [List.length_drop, List.length_take]; rfl)) ?_; (with_reducible refine (rillmeterref03_Small.calls k _ _ l0 32 true _ ?side1 ?side2 A4.out).mono ?_); (case side1 => repeat (first | exact (Kd.C_below HR0.out HB.out) | (with_reducible refine Kd.C_alloc ?_ _) | (with_reducible refine Kd.C_drewN ?_ _) | (with_reducible refine Kd.C_drew ?_))); (case side2 => exact HC0.out); rintro e w' ⟨rfl, ⟨nd, rfl⟩⟩; refine ⟨_, rfl, ?_⟩))
      go_meet
      case rel => exact ⟨_, (decide ((l1.length : Int) > 32)), (by first | rfl | (simp; done) | (simp [*]; done)), H', ⟨by first | omega | exact Nat.le_refl _⟩, ⟨by repeat (first | (with_reducible first | exact HB.out | apply below_alloc | apply pw_below_drewN | apply below_drew1) | exact HB.out)⟩⟩
    · replace c5 := Bool.eq_false_iff.mpr c5
      subst c5
      have H1 : (rillmeterlaw03_SolveBack.j0 k l0 l1 true) = some r := by rw [if_neg (show ¬ (false = true) by decide)] at H; exact H
      clear H
      have H := H1
      clear H1
      have H' := Aside0.mk H
      clear H
      go_wp2_with (first | ((with_reducible refine gate_callee (f := 9) rfl ?_); refine goesL_ (some 12) rfl rfl Try.func9 (by kernel_rfl) rfl #[.slice A0 l0.length c0, .int .i64 32] rfl (by (try simp only [List.map_toArray, List.map_cons, List.map_nil]); first | done | rfl | (simp only [List.length_drop, List.length_take]; rfl)) ?_; (with_reducible refine (rillmeterref03_Small.calls k _ _ l0 32 false _ ?side1 ?side2 A4.out).mono ?_); (case side1 => repeat (first | exact (Kd.C_below HR0.out HB.out) | (with_reducible refine Kd.C_alloc ?_ _) | (with_reducible refine Kd.C_drewN ?_ _) | (with_reducible refine Kd.C_drew ?_))); (case side2 => exact HC0.out); rintro e w' ⟨rfl, ⟨nd, rfl⟩⟩; refine ⟨_, rfl, ?_⟩))
      go_meet
      case rel => exact ⟨_, (true), (by first | rfl | (simp; done) | (simp [*]; done)), H', ⟨by first | omega | exact Nat.le_refl _⟩, ⟨by repeat (first | (with_reducible first | exact HB.out | apply below_alloc | apply pw_below_drewN | apply below_drew1) | exact HB.out)⟩⟩
  case rest =>
    clear HC3
    try clear c1
    try clear p2
    try clear c5
    obtain ⟨kq, x18_2, rfl, HA, HJ2, HB⟩ := hcut
    cases kq with
    | zero => exact absurd HA.out (by simp [rillmeterlaw03_SolveBack.j0])
    | succ kj2 =>
      have H := HA.out
      clear HA
      simp only [rillmeterlaw03_SolveBack.j0] at H
      by_cases c6 : x18_2 = true
      · subst c6
        have H1 : ((rillmeterlaw03_awake.f kj2).bind fun t258 => (some t258)) = some r := by rw [if_pos rfl] at H; exact H
        clear H
        have H := H1
        clear H1
        replace H := Option.bind_eq_some_iff.mp H
        obtain ⟨t258, A70, H⟩ := H
        replace H : (some t258) = some r := H
        have A7 := Aside0.mk A70
        clear A70
        obtain rfl := Option.some.inj H
        go_wp2_with (first | ((with_reducible refine gate_callee (f := 10) rfl ?_); refine goesL_ (some 19) rfl rfl Try.func10 (by kernel_rfl) rfl #[] rfl (by (try simp only [List.map_toArray, List.map_cons, List.map_nil]); first | done | rfl | (simp only [List.length_drop, List.length_take]; rfl)) ?_; (with_reducible refine (rillmeterlaw03_awake.calls kj2  t258 _ A7.out).mono ?_); rintro e w8 ⟨rfl, hb⟩; refine ⟨_, rfl, ?_⟩; have n0_ := Aside0.mk (below_step (by repeat (first | (with_reducible first | exact HB.out | apply below_alloc | apply pw_below_drewN | apply below_drew1) | exact HB.out)) hb); clear HB; have HB := n0_; clear n0_; (try clear hb); (try clear hb2); (try clear hk); (try clear hi)))
        go_ret
        exact ⟨by first | rfl | (simp [errW_none, errW_some] <;> rfl) | (simp [*, errW_none, errW_some] <;> rfl), by repeat (first | (with_reducible first | exact HB.out | apply below_alloc | apply pw_below_drewN | apply below_drew1) | exact HB.out)⟩
      · replace c6 := Bool.eq_false_iff.mpr c6
        subst c6
        have H1 : ((solve_Times.f kj2 l0 l1).bind fun bt259 => ((solve_Rank.f kj2 l0).bind fun bt263 => ((solve_Solve.f kj2 l0 bt259.1).bind fun bt265 => (if bt259.2 = 0 then (if bt263.2 = 0 then (rillmeterlaw03_SolveBack.j1 kj2 l0 l1 bt263.1 bt265.1 bt265.2 ((l0.length : Int) == 0)) else (rillmeterlaw03_SolveBack.j1 kj2 l0 l1 bt263.1 bt265.1 bt265.2 true)) else (rillmeterlaw03_SolveBack.j1 kj2 l0 l1 bt263.1 bt265.1 bt265.2 true))))) = some r := by rw [if_neg (show ¬ (false = true) by decide)] at H; exact H
        clear H
        have H := H1
        clear H1
        replace H := Option.bind_eq_some_iff.mp H
        obtain ⟨⟨t259, t260⟩, A90, H⟩ := H
        replace H : ((solve_Rank.f kj2 l0).bind fun bt263 => ((solve_Solve.f kj2 l0 t259).bind fun bt265 => (if t260 = 0 then (if bt263.2 = 0 then (rillmeterlaw03_SolveBack.j1 kj2 l0 l1 bt263.1 bt265.1 bt265.2 ((l0.length : Int) == 0)) else (rillmeterlaw03_SolveBack.j1 kj2 l0 l1 bt263.1 bt265.1 bt265.2 true)) else (rillmeterlaw03_SolveBack.j1 kj2 l0 l1 bt263.1 bt265.1 bt265.2 true)))) = some r := H
        have A9 := Aside0.mk A90
        clear A90
        replace H := Option.bind_eq_some_iff.mp H
        obtain ⟨⟨t263, t264⟩, A100, H⟩ := H
        replace H : ((solve_Solve.f kj2 l0 t259).bind fun bt265 => (if t260 = 0 then (if t264 = 0 then (rillmeterlaw03_SolveBack.j1 kj2 l0 l1 t263 bt265.1 bt265.2 ((l0.length : Int) == 0)) else (rillmeterlaw03_SolveBack.j1 kj2 l0 l1 t263 bt265.1 bt265.2 true)) else (rillmeterlaw03_SolveBack.j1 kj2 l0 l1 t263 bt265.1 bt265.2 true))) = some r := H
        have A10 := Aside0.mk A100
        clear A100
        replace H := Option.bind_eq_some_iff.mp H
        obtain ⟨⟨t265, t266⟩, A110, H⟩ := H
        replace H : (if t260 = 0 then (if t264 = 0 then (rillmeterlaw03_SolveBack.j1 kj2 l0 l1 t263 t265 t266 ((l0.length : Int) == 0)) else (rillmeterlaw03_SolveBack.j1 kj2 l0 l1 t263 t265 t266 true)) else (rillmeterlaw03_SolveBack.j1 kj2 l0 l1 t263 t265 t266 true)) = some r := H
        have A11 := Aside0.mk A110
        clear A110
        have HC12 := Aside0.mk H
        clear H
        go_upto_region 6 with (first | ((with_reducible refine gate_callee (f := 18) rfl ?_); refine goesL_ (some 23) rfl rfl Try.func18 (by kernel_rfl) rfl #[.slice A0 l0.length c0, .slice A1 l1.length c1] rfl (by (try simp only [List.map_toArray, List.map_cons, List.map_nil]); first | done | rfl | (simp only [List.length_drop, List.length_take]; rfl)) ?_; (with_reducible refine (solve_Times.calls kj2 _ _ l0 _ _ l1 t259 t260 _ ?side1 ?side2 ?side3 ?side4 A9.out).mono ?_); (case side1 => repeat (first | exact (Kd.C_below HR0.out HB.out) | (with_reducible refine Kd.C_alloc ?_ _) | (with_reducible refine Kd.C_drewN ?_ _) | (with_reducible refine Kd.C_drew ?_))); (case side2 => exact HC0.out); (case side3 => repeat (first | exact (Kd.C_below HR1.out HB.out) | (with_reducible refine Kd.C_alloc ?_ _) | (with_reducible refine Kd.C_drewN ?_ _) | (with_reducible refine Kd.C_drew ?_))); (case side4 => exact HC1.out); rintro e w13 ⟨v261, rfl, ho0, hb⟩; refine ⟨_, rfl, ?_⟩; have n0_ := Aside0.mk (Kd.R_lower ho0 (below_size (by repeat (first | (with_reducible first | exact HB.out | apply below_alloc | apply pw_below_drewN | apply below_drew1) | exact HB.out)))); have n1_ := Aside0.mk (below_step (by repeat (first | (with_reducible first | exact HB.out | apply below_alloc | apply pw_below_drewN | apply below_drew1) | exact HB.out)) hb); clear HB; have HO262 := n0_; have HB := n1_; clear n0_ n1_; (try clear hb); (try clear hb2); (try clear hk); (try clear hi); (try clear ho0)) | ((with_reducible refine gate_callee (f := 11) rfl ?_); refine goesL_ (some 28) rfl rfl Try.func11 (by kernel_rfl) rfl #[.slice A0 l0.length c0] rfl (by (try simp only [List.map_toArray, List.map_cons, List.map_nil]); first | done | rfl | (simp only [List.length_drop, List.length_take]; rfl)) ?_; (with_reducible refine (solve_Rank.calls kj2 _ _ l0 t263 t264 _ ?side1 ?side2 A10.out).mono ?_); (case side1 => repeat (first | exact (Kd.C_below HR0.out HB.out) | (with_reducible refine Kd.C_alloc ?_ _) | (with_reducible refine Kd.C_drewN ?_ _) | (with_reducible refine Kd.C_drew ?_))); (case side2 => exact HC0.out); rintro e w14 ⟨rfl, hb⟩; refine ⟨_, rfl, ?_⟩; have n0_ := Aside0.mk (Kd.R_below (by (with_reducible repeat (first | apply Kd.R_alloc | apply Kd.R_drewN | apply Kd.R_drew)); exact HO262.out) hb); have n1_ := Aside0.mk (below_step (by repeat (first | (with_reducible first | exact HB.out | apply below_alloc | apply pw_below_drewN | apply below_drew1) | exact HB.out)) hb); clear HO262; clear HB; have HO262 := n0_; have HB := n1_; clear n0_ n1_; (try clear hb); (try clear hb2); (try clear hk); (try clear hi); obtain ⟨Ao15, co15, eo15⟩ := Kd.R_slice HO262.out; subst eo15) | ((with_reducible refine gate_callee (f := 14) rfl ?_); refine goesL_ (some 34) rfl rfl Try.func14 (by kernel_rfl) rfl #[.slice A0 l0.length c0, .slice Ao15 t259.length co15] rfl (by (try simp only [List.map_toArray, List.map_cons, List.map_nil]); first | done | rfl | (simp only [List.length_drop, List.length_take]; rfl)) ?_; (with_reducible refine (solve_Solve.calls kj2 _ _ l0 _ _ t259 t265 t266 _ ?side1 ?side2 ?side3 ?side4 A11.out).mono ?_); (case side1 => repeat (first | exact (Kd.C_below HR0.out HB.out) | (with_reducible refine Kd.C_alloc ?_ _) | (with_reducible refine Kd.C_drewN ?_ _) | (with_reducible refine Kd.C_drew ?_))); (case side2 => exact HC0.out); (case side3 => repeat (first | exact (Kd.R_reads' HO262.out).2.2 | (with_reducible refine Kd.C_alloc ?_ _) | (with_reducible refine Kd.C_drewN ?_ _) | (with_reducible refine Kd.C_drew ?_))); (case side4 => exact (Kd.R_reads' HO262.out).2.1); rintro e w16 ⟨v267, rfl, ho0, hb⟩; refine ⟨_, rfl, ?_⟩; have n0_ := Aside0.mk (Kd.R_elder' (by (with_reducible repeat (first | apply Kd.R_alloc | apply Kd.R_drewN | apply Kd.R_drew)); exact HO262.out) (Kd.R_base ho0) hb); have n1_ := Aside0.mk (Kd.R_lower (Kd.R_new' ho0 (Kd.R_lt (by (with_reducible repeat (first | apply Kd.R_alloc | apply Kd.R_drewN | apply Kd.R_drew)); exact HO262.out))) (below_size (by repeat (first | (with_reducible first | exact HB.out | apply below_alloc | apply pw_below_drewN | apply below_drew1) | exact HB.out)))); have n2_ := Aside0.mk (below_step (by repeat (first | (with_reducible first | exact HB.out | apply below_alloc | apply pw_below_drewN | apply below_drew1) | exact HB.out)) hb); clear HO262; clear HB; have HO262 := n0_; have HO268 := n1_; have HB := n2_; clear n0_ n1_ n2_; (try clear hb); (try clear hb2); (try clear hk); (try clear hi); (try clear ho0)))
        (try simp only [Act.put, List.setIfInBounds_toArray, List.set_cons_zero, List.set_cons_succ])
        go_cut [47] (fun v47 wc => ∃ (kq : Nat) (x47_11 : Bool), v47 = .bool x47_11 ∧ Aside0 (rillmeterlaw03_SolveBack.j1 kq l0 l1 t263 t265 t266 x47_11 = some r) ∧ Aside0 (kq ≤ kj2) ∧ Aside0 (Kd.R (Kd.int .u64) 36 wc w.heap.size (fun _ => True) v267 t265) ∧ Aside0 (Below w.heap.size w wc))
        case first =>
          have H := HC12.out
          clear HC12
          by_cases c17 : t260 = 0
          · rw [if_pos c17] at H
            have c17b0 : (t260 == 0) = true := beq_iff_eq.mpr c17
            have c17b1 : (t260 != 0) = false := bne_eq_false_iff_eq.mpr c17
            clear c17
            (first | rw [c17b0] | (simp only [i64_w, i32_w]; rw [c17b0]) | skip)
            by_cases c18 : t264 = 0
            · rw [if_pos c18] at H
              have c18b0 : (t264 == 0) = true := beq_iff_eq.mpr c18
              have c18b1 : (t264 != 0) = false := bne_eq_false_iff_eq.mpr c18
              clear c18
              have H' := Aside0.mk H
              clear H
              go_wp2
              go_meet
              case rel => exact ⟨_, (((l0.length : Int) == 0)), (by first | rfl | (simp; done) | (simp [*]; done)), H', ⟨by have := HJ2.out; first | omega | exact Nat.le_refl _⟩, ⟨by (with_reducible repeat (first | apply Kd.R_alloc | apply Kd.R_drewN | apply Kd.R_drew)); exact Kd.R_mono HO268.out (fun _ hk => trivial)⟩, ⟨by repeat (first | (with_reducible first | exact HB.out | apply below_alloc | apply pw_below_drewN | apply below_drew1) | exact HB.out)⟩⟩
            · rw [if_neg c18] at H
              have c18b0 : (t264 == 0) = false := beq_eq_false_iff_ne.mpr c18
              have c18b1 : (t264 != 0) = true := bne_iff_ne.mpr c18
              have H' := Aside0.mk H
              clear H
              go_wp2
              go_meet
              case rel => exact ⟨_, (true), (by first | rfl | (simp; done) | (simp [*]; done)), H', ⟨by have := HJ2.out; first | omega | exact Nat.le_refl _⟩, ⟨by (with_reducible repeat (first | apply Kd.R_alloc | apply Kd.R_drewN | apply Kd.R_drew)); exact Kd.R_mono HO268.out (fun _ hk => trivial)⟩, ⟨by repeat (first | (with_reducible first | exact HB.out | apply below_alloc | apply pw_below_drewN | apply below_drew1) | exact HB.out)⟩⟩
          · rw [if_neg c17] at H
            have c17b0 : (t260 == 0) = false := beq_eq_false_iff_ne.mpr c17
            have c17b1 : (t260 != 0) = true := bne_iff_ne.mpr c17
            (first | rw [c17b0] | (simp only [i64_w, i32_w]; rw [c17b0]) | skip)
            have H' := Aside0.mk H
            clear H
            go_wp2
            go_meet
            case rel => exact ⟨_, (true), (by first | rfl | (simp; done) | (simp [*]; done)), H', ⟨by have := HJ2.out; first | omega | exact Nat.le_refl _⟩, ⟨by (with_reducible repeat (first | apply Kd.R_alloc | apply Kd.R_drewN | apply Kd.R_drew)); exact Kd.R_mono HO268.out (fun _ hk => trivial)⟩, ⟨by repeat (first | (with_reducible first | exact HB.out | apply below_alloc | apply pw_below_drewN | apply below_drew1) | exact HB.out)⟩⟩
        case rest =>
          clear HC12
          try clear c1
          try clear p2
          try clear c5
          try clear c6
          try clear c7
          try clear c9
          try clear c10
          try clear c11
          try clear c14
          try clear c17
          try clear c17b0
          try clear c17b1
          try clear c18
          try clear c18b0
          try clear c18b1
          try clear p2
          obtain ⟨kq, x47_11, rfl, HA, HJ11, HO_9, HB⟩ := hcut
          cases kq with
          | zero => exact absurd HA.out (by simp [rillmeterlaw03_SolveBack.j1])
          | succ kj11 =>
            have H := HA.out
            clear HA
            simp only [rillmeterlaw03_SolveBack.j1] at H
            by_cases c19 : x47_11 = true
            · subst c19
              have H1 : ((rillmeterlaw03_awake.f kj11).bind fun t269 => (some t269)) = some r := by rw [if_pos rfl] at H; exact H
              clear H
              have H := H1
              clear H1
              replace H := Option.bind_eq_some_iff.mp H
              obtain ⟨t269, A200, H⟩ := H
              replace H : (some t269) = some r := H
              have A20 := Aside0.mk A200
              clear A200
              obtain rfl := Option.some.inj H
              go_wp2_with (first | ((with_reducible refine gate_callee (f := 10) rfl ?_); refine goesL_ (some 48) rfl rfl Try.func10 (by kernel_rfl) rfl #[] rfl (by (try simp only [List.map_toArray, List.map_cons, List.map_nil]); first | done | rfl | (simp only [List.length_drop, List.length_take]; rfl)) ?_; (with_reducible refine (rillmeterlaw03_awake.calls kj11  t269 _ A20.out).mono ?_); rintro e w21 ⟨rfl, hb⟩; refine ⟨_, rfl, ?_⟩; have n0_ := Aside0.mk (Kd.R_below (by (with_reducible repeat (first | apply Kd.R_alloc | apply Kd.R_drewN | apply Kd.R_drew)); exact HO_9.out) hb); have n1_ := Aside0.mk (below_step (by repeat (first | (with_reducible first | exact HB.out | apply below_alloc | apply pw_below_drewN | apply below_drew1) | exact HB.out)) hb); clear HO_9; clear HB; have HO_9 := n0_; have HB := n1_; clear n0_ n1_; (try clear hb); (try clear hb2); (try clear hk); (try clear hi)))
              go_ret
              exact ⟨by first | rfl | (simp [errW_none, errW_some] <;> rfl) | (simp [*, errW_none, errW_some] <;> rfl), by repeat (first | (with_reducible first | exact HB.out | apply below_alloc | apply pw_below_drewN | apply below_drew1) | exact HB.out)⟩
            · replace c19 := Bool.eq_false_iff.mpr c19
              subst c19
              have H1 : (if 0 < (l0.length : Int) then (if t263 < ((rd_L1 l0 0).length : Int) then (if (t265.length : Int) = 0 then (if t266 = 7 then ((rillmeterlaw03_awake.f kj11).bind fun t271 => (some t271)) else (some false)) else (some false)) else (if t266 = 0 then ((rillmeterref03_Same.f kj11 l1 t265).bind fun t272 => (if t272 = true then ((rillmeterlaw03_awake.f kj11).bind fun t273 => (some t273)) else (some false))) else (some false))) else (none)) = some r := by rw [if_neg (show ¬ (false = true) by decide)] at H; exact H
              clear H
              have H := H1
              clear H1
              by_cases c22 : 0 < (l0.length : Int)
              · rw [if_pos c22] at H
                have c22b0 : decide (0 < (l0.length : Int)) = true := decide_eq_true c22
                have c22b1 : decide (0 < l0.length) = true := decide_eq_true (by omega)
                clear c22
                by_cases c23 : t263 < ((rd_L1 l0 0).length : Int)
                · rw [if_pos c23] at H
                  have c23b0 : decide (t263 < ((rd_L1 l0 0).length : Int)) = true := decide_eq_true c23
                  clear c23
                  by_cases c24 : (t265.length : Int) = 0
                  · rw [if_pos c24] at H
                    have c24b0 : ((t265.length : Int) == 0) = true := beq_iff_eq.mpr c24
                    have c24b1 : ((t265.length : Int) != 0) = false := bne_eq_false_iff_eq.mpr c24
                    clear c24
                    by_cases c25 : t266 = 7
                    · rw [if_pos c25] at H
                      have c25b0 : (t266 == 7) = true := beq_iff_eq.mpr c25
                      have c25b1 : (t266 != 7) = false := bne_eq_false_iff_eq.mpr c25
                      clear c25
                      replace H := Option.bind_eq_some_iff.mp H
                      obtain ⟨t271, A260, H⟩ := H
                      replace H : (some t271) = some r := H
                      have A26 := Aside0.mk A260
                      clear A260
                      obtain rfl := Option.some.inj H
                      have p270 : 0 ≤ (0 : Int) := (by omega)
                      have q270 : 0 < (l0.length : Int) := of_decide_eq_true (by first | (with_reducible assumption) | assumption)
                      obtain ⟨ad270, A270_0, c270_0, e270, hx270_0, hl270_0, hi270_0⟩ := at_L1 HR0.out 0 p270 q270
                      cases e270
                      have qi270 : (0 < l0.length) = True := eq_true (by omega)
                      (try rw [show ((0 : Int)).toNat = 0 from rfl] at hx270_0)
                      (try rw [Addr.add_zero'] at hx270_0)
                      (try replace hx270_0 := (HB.out.cell (World.block_lt_of_cell? w _ hx270_0)).trans hx270_0)
                      have HR270_0 := Aside0.mk hi270_0
                      have HC270_0 := Aside0.mk hl270_0
                      clear hi270_0 hl270_0
                      replace p270 := eq_true p270
                      replace q270 := eq_true q270
                      obtain ⟨Ao27, co27, eo27⟩ := Kd.R_slice HO_9.out
                      subst eo27
                      go_wp2_with (first | (go_at_call 10; (with_reducible refine (rillmeterlaw03_awake.calls kj11  t271 _ A26.out).mono ?_); rintro e w28 ⟨rfl, hb⟩; have n0_ := Aside0.mk (Kd.R_below (by (with_reducible repeat (first | apply Kd.R_alloc | apply Kd.R_drewN | apply Kd.R_drew)); exact HO_9.out) hb); have n1_ := Aside0.mk (below_step (by repeat (first | (with_reducible first | exact HB.out | apply below_alloc | apply pw_below_drewN | apply below_drew1) | exact HB.out)) hb); clear HO_9; clear HB; have HO_9 := n0_; have HB := n1_; clear n0_ n1_; (try clear hb); (try clear hb2); (try clear hk); (try clear hi)))
                      go_ret
                      exact ⟨by first | rfl | (simp [errW_none, errW_some] <;> rfl) | (simp [*, errW_none, errW_some] <;> rfl), by repeat (first | (with_reducible first | exact HB.out | apply below_alloc | apply pw_below_drewN | apply below_drew1) | exact HB.out)⟩
                    · rw [if_neg c25] at H
                      have c25b0 : (t266 == 7) = false := beq_eq_false_iff_ne.mpr c25
                      have c25b1 : (t266 != 7) = true := bne_iff_ne.mpr c25
                      exact absurd ((Option.some.inj H).trans hrt.out) (by decide)
                  · rw [if_neg c24] at H
                    have c24b0 : ((t265.length : Int) == 0) = false := beq_eq_false_iff_ne.mpr c24
                    have c24b1 : ((t265.length : Int) != 0) = true := bne_iff_ne.mpr c24
                    have c24b2 : ¬ (t265 = []) := fun h_ => c24 (by rw [h_]; rfl)
                    exact absurd ((Option.some.inj H).trans hrt.out) (by decide)
                · rw [if_neg c23] at H
                  have c23b0 : decide (t263 < ((rd_L1 l0 0).length : Int)) = false := decide_eq_false c23
                  clear c23
                  by_cases c29 : t266 = 0
                  · rw [if_pos c29] at H
                    have c29b0 : (t266 == 0) = true := beq_iff_eq.mpr c29
                    have c29b1 : (t266 != 0) = false := bne_eq_false_iff_eq.mpr c29
                    clear c29
                    replace H := Option.bind_eq_some_iff.mp H
                    obtain ⟨t272, A300, H⟩ := H
                    replace H : (if t272 = true then ((rillmeterlaw03_awake.f kj11).bind fun t273 => (some t273)) else (some false)) = some r := H
                    have A30 := Aside0.mk A300
                    clear A300
                    by_cases c31 : t272 = true
                    · subst c31
                      have H1 : ((rillmeterlaw03_awake.f kj11).bind fun t273 => (some t273)) = some r := by rw [if_pos rfl] at H; exact H
                      clear H
                      have H := H1
                      clear H1
                      replace H := Option.bind_eq_some_iff.mp H
                      obtain ⟨t273, A320, H⟩ := H
                      replace H : (some t273) = some r := H
                      have A32 := Aside0.mk A320
                      clear A320
                      obtain rfl := Option.some.inj H
                      have p270 : 0 ≤ (0 : Int) := (by omega)
                      have q270 : 0 < (l0.length : Int) := of_decide_eq_true (by first | (with_reducible assumption) | assumption)
                      obtain ⟨ad270, A270_0, c270_0, e270, hx270_0, hl270_0, hi270_0⟩ := at_L1 HR0.out 0 p270 q270
                      cases e270
                      have qi270 : (0 < l0.length) = True := eq_true (by omega)
                      (try rw [show ((0 : Int)).toNat = 0 from rfl] at hx270_0)
                      (try rw [Addr.add_zero'] at hx270_0)
                      (try replace hx270_0 := (HB.out.cell (World.block_lt_of_cell? w _ hx270_0)).trans hx270_0)
                      have HR270_0 := Aside0.mk hi270_0
                      have HC270_0 := Aside0.mk hl270_0
                      clear hi270_0 hl270_0
                      replace p270 := eq_true p270
                      replace q270 := eq_true q270
                      obtain ⟨Ao33, co33, eo33⟩ := Kd.R_slice HO_9.out
                      subst eo33
                      go_wp2_with (first | (go_at_call 16; (with_reducible refine (rillmeterref03_Same.calls kj11 _ _ l1 _ _ t265 true _ ?side1 ?side2 ?side3 ?side4 A30.out).mono ?_); (case side1 => repeat (first | exact (Kd.C_below HR1.out HB.out) | (with_reducible refine Kd.C_alloc ?_ _) | (with_reducible refine Kd.C_drewN ?_ _) | (with_reducible refine Kd.C_drew ?_))); (case side2 => exact HC1.out); (case side3 => repeat (first | exact (Kd.R_reads' HO_9.out).2.2 | (with_reducible refine Kd.C_alloc ?_ _) | (with_reducible refine Kd.C_drewN ?_ _) | (with_reducible refine Kd.C_drew ?_))); (case side4 => exact (Kd.R_reads' HO_9.out).2.1); rintro e w' ⟨rfl, ⟨nd, rfl⟩⟩) | (go_at_call 10; (with_reducible refine (rillmeterlaw03_awake.calls kj11  t273 _ A32.out).mono ?_); rintro e w34 ⟨rfl, hb⟩; have n0_ := Aside0.mk (Kd.R_below (by (with_reducible repeat (first | apply Kd.R_alloc | apply Kd.R_drewN | apply Kd.R_drew)); exact HO_9.out) hb); have n1_ := Aside0.mk (below_step (by repeat (first | (with_reducible first | exact HB.out | apply below_alloc | apply pw_below_drewN | apply below_drew1) | exact HB.out)) hb); clear HO_9; clear HB; have HO_9 := n0_; have HB := n1_; clear n0_ n1_; (try clear hb); (try clear hb2); (try clear hk); (try clear hi)))
                      go_ret
                      exact ⟨by first | rfl | (simp [errW_none, errW_some] <;> rfl) | (simp [*, errW_none, errW_some] <;> rfl), by repeat (first | (with_reducible first | exact HB.out | apply below_alloc | apply pw_below_drewN | apply below_drew1) | exact HB.out)⟩
                    · replace c31 := Bool.eq_false_iff.mpr c31
                      subst c31
                      have H1 : (some false) = some r := by rw [if_neg (show ¬ (false = true) by decide)] at H; exact H
                      clear H
                      have H := H1
                      clear H1
                      exact absurd ((Option.some.inj H).trans hrt.out) (by decide)
                  · rw [if_neg c29] at H
                    have c29b0 : (t266 == 0) = false := beq_eq_false_iff_ne.mpr c29
                    have c29b1 : (t266 != 0) = true := bne_iff_ne.mpr c29
                    exact absurd ((Option.some.inj H).trans hrt.out) (by decide)
              · rw [if_neg c22] at H
                exact absurd H (by simp)

end Go.Proofs.Ytoplnkbhgpamaaa.PSolveBack
