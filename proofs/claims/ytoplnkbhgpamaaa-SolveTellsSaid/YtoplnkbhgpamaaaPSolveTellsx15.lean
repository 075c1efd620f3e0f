/- The functions that a law uses, each as a plain function, with the proof that a call of the Go function comes to its answer. Condition of each: the arguments read as the data that it names, and the plain function has an answer. Written by a program of this session (standin.py). -/
import Derived.Test.YtoplnkbhgpamaaaPSolveTellsx0
import Derived.Test.YtoplnkbhgpamaaaPSolveTellsx1
import Derived.Test.YtoplnkbhgpamaaaPSolveTellsx5
import Derived.Test.YtoplnkbhgpamaaaPSolveTellsx6
import Derived.Test.YtoplnkbhgpamaaaPSolveTellsx7
import Derived.Test.YtoplnkbhgpamaaaPSolveTellsx11
import Derived.Test.YtoplnkbhgpamaaaPSolveTellsx12
import Derived.Test.YtoplnkbhgpamaaaPSolveTellsx13
import Derived.Test.YtoplnkbhgpamaaaPSolveTellsx14
import Derived.Test.YtoplnkbhgpamaaaShort
import Derived.Lib.SliceRun
namespace Go.Proofs.Ytoplnkbhgpamaaa.PSolveTells
open Go.RowKit Go.Proofs.YtoplnkbhgpamaaaW.PrintWords Go.Proofs.YtoplnkbhgpamaaaW.PrintLast Go.Proofs.YtoplnkbhgpamaaaW.PrintMore Go.Proofs.Ytoplnkbhgpamaaa.Short
attribute [local go_sem] max2_int min2_int max_two min_two max_three min_three max_four min_four   -- for this text's walks alone
set_option linter.unusedVariables false
set_option linter.unusedSimpArgs false

/-! ### rillmeterlaw03_SolveTells: function 4 -/
mutual
def rillmeterlaw03_SolveTells.j0 : Nat → List (List Int) → List Int → Bool → Option (Bool)
  | 0, _, _, _ => none
  | k + 1, x0, x1, x16 => if x16 = true then ((rillmeterlaw03_awake.f k).bind fun t304 => (some t304)) else ((solve_Solve.f k x0 x1).bind fun bt305 => ((rillmeterref03_Even.f k x0).bind fun t309 => (if t309 = true then (rillmeterlaw03_SolveTells.j1 k x0 x1 bt305.1 bt305.2 ((x1.length : Int) != (x0.length : Int))) else (rillmeterlaw03_SolveTells.j1 k x0 x1 bt305.1 bt305.2 true))))
def rillmeterlaw03_SolveTells.j1 : Nat → List (List Int) → List Int → List Int → Int → Bool → Option (Bool)
  | 0, _, _, _, _, _ => none
  | k + 1, x0, x1, x5, x6, x33 => if x33 = true then (if (x5.length : Int) = 0 then (if x6 = 1 then ((rillmeterlaw03_awake.f k).bind fun t310 => (some t310)) else (some false)) else (some false)) else (if (x0.length : Int) = 0 then (if (x5.length : Int) = 0 then (if x6 = 0 then ((rillmeterlaw03_awake.f k).bind fun t311 => (some t311)) else (some false)) else (some false)) else ((rillmeterref03_Rank.f k x0).bind fun t312 => ((rillmeterref03_Wide.f k x0 x1).bind fun t313 => ((rillmeterref03_Rank.f k t313).bind fun t316 => (if t316 > t312 then (if (x5.length : Int) = 0 then (if x6 = 6 then ((rillmeterlaw03_awake.f k).bind fun t317 => (some t317)) else (some false)) else (some false)) else (if 0 < (x0.length : Int) then (if t312 < ((rd_L1 x0 0).length : Int) then (if (x5.length : Int) = 0 then (if x6 = 7 then ((rillmeterlaw03_awake.f k).bind fun t319 => (some t319)) else (some false)) else (some false)) else (if x6 = 0 then (if (x5.length : Int) = ((rd_L1 x0 0).length : Int) then ((rillmeterref03_Times.f k x0 x5).bind fun t321 => ((rillmeterref03_Same.f k t321 x1).bind fun t324 => (rillmeterlaw03_SolveTells.j2 k x5 (!t324)))) else (rillmeterlaw03_SolveTells.j2 k x5 true)) else (rillmeterlaw03_SolveTells.j2 k x5 true))) else (none)))))))
def rillmeterlaw03_SolveTells.j2 : Nat → List Int → Bool → Option (Bool)
  | 0, _, _ => none
  | k + 1, x5, x109 => if x109 = true then (some false) else (rillmeterlaw03_SolveTells.l0 k x5 (x5.length : Int) 0)
def rillmeterlaw03_SolveTells.l0 : Nat → List Int → Int → Int → Option (Bool)
  | 0, _, _, _ => none
  | k + 1, x5, x111, x112 => if x112 < x111 then (if 0 ≤ x112 then (if x112 < (x5.length : Int) then (if (rd x5 x112) ≥ 2305843009213693951 then (some false) else (rillmeterlaw03_SolveTells.l0 k x5 x111 (wrap64 (x112 + 1)))) else (none)) else (none)) else ((rillmeterlaw03_awake.f k).bind fun t326 => (some t326))
end
def rillmeterlaw03_SolveTells.f (k : Nat) (l0 : List (List Int)) (l1 : List Int) : Option (Bool) := (rillmeterref03_Small.f k l0 40).bind fun t303 => (if t303 = true then (rillmeterlaw03_SolveTells.j0 k l0 l1 (decide ((l1.length : Int) > 40))) else (rillmeterlaw03_SolveTells.j0 k l0 l1 true))
theorem rillmeterlaw03_SolveTells.mono_l : ∀ k, (∀ y0 y1 y2, LeO (rillmeterlaw03_SolveTells.j0 k y0 y1 y2) (rillmeterlaw03_SolveTells.j0 (k + 1) y0 y1 y2)) ∧ (∀ y0 y1 y2 y3 y4, LeO (rillmeterlaw03_SolveTells.j1 k y0 y1 y2 y3 y4) (rillmeterlaw03_SolveTells.j1 (k + 1) y0 y1 y2 y3 y4)) ∧ (∀ y0 y1, LeO (rillmeterlaw03_SolveTells.j2 k y0 y1) (rillmeterlaw03_SolveTells.j2 (k + 1) y0 y1)) ∧ (∀ y0 y1 y2, LeO (rillmeterlaw03_SolveTells.l0 k y0 y1 y2) (rillmeterlaw03_SolveTells.l0 (k + 1) y0 y1 y2))
  | 0 => ⟨fun _ _ _ r h => by simp [rillmeterlaw03_SolveTells.j0] at h, fun _ _ _ _ _ r h => by simp [rillmeterlaw03_SolveTells.j1] at h, fun _ _ r h => by simp [rillmeterlaw03_SolveTells.j2] at h, fun _ _ _ r h => by simp [rillmeterlaw03_SolveTells.l0] at h⟩
  | k + 1 => by
    obtain ⟨ih0, ih1, ih2, ih3⟩ := rillmeterlaw03_SolveTells.mono_l k
    refine ⟨?_, ?_, ?_, ?_⟩
    · intro y0 y1 y2
      unfold rillmeterlaw03_SolveTells.j0
      repeat' first
      | (with_reducible exact ih0 _ _ _)
      | (with_reducible exact ih1 _ _ _ _ _)
      | (with_reducible exact ih2 _ _)
      | (with_reducible exact ih3 _ _ _)
      | (with_reducible exact rillmeterlaw03_awake.mono _)
      | (with_reducible exact rillmeterref03_Even.mono _ _)
      | (with_reducible exact rillmeterref03_Rank.mono _ _)
      | (with_reducible exact rillmeterref03_Same.mono _ _ _)
      | (with_reducible exact rillmeterref03_Small.mono _ _ _)
      | (with_reducible exact rillmeterref03_Times.mono _ _ _)
      | (with_reducible exact rillmeterref03_Wide.mono _ _ _)
      | (with_reducible exact solve_Solve.mono _ _ _)
      | (with_reducible exact LeO.refl _)
      | (with_reducible exact LeO.none _)
      | (with_reducible refine LeO.ite ?_ ?_)
      | (with_reducible refine LeO.bind ?_ (fun _ => ?_))
      | exact ih0 _ _ _
      | exact ih1 _ _ _ _ _
      | exact ih2 _ _
      | exact ih3 _ _ _
      | exact rillmeterlaw03_awake.mono _
      | exact rillmeterref03_Even.mono _ _
      | exact rillmeterref03_Rank.mono _ _
      | exact rillmeterref03_Same.mono _ _ _
      | exact rillmeterref03_Small.mono _ _ _
      | exact rillmeterref03_Times.mono _ _ _
      | exact rillmeterref03_Wide.mono _ _ _
      | exact solve_Solve.mono _ _ _
      | exact LeO.none _
      | refine LeO.ite ?_ ?_
      | refine LeO.bind ?_ (fun _ => ?_)
    · intro y0 y1 y2 y3 y4
      unfold rillmeterlaw03_SolveTells.j1
      repeat' first
      | (with_reducible exact ih0 _ _ _)
      | (with_reducible exact ih1 _ _ _ _ _)
      | (with_reducible exact ih2 _ _)
      | (with_reducible exact ih3 _ _ _)
      | (with_reducible exact rillmeterlaw03_awake.mono _)
      | (with_reducible exact rillmeterref03_Even.mono _ _)
      | (with_reducible exact rillmeterref03_Rank.mono _ _)
      | (with_reducible exact rillmeterref03_Same.mono _ _ _)
      | (with_reducible exact rillmeterref03_Small.mono _ _ _)
      | (with_reducible exact rillmeterref03_Times.mono _ _ _)
      | (with_reducible exact rillmeterref03_Wide.mono _ _ _)
      | (with_reducible exact solve_Solve.mono _ _ _)
      | (with_reducible exact LeO.refl _)
      | (with_reducible exact LeO.none _)
      | (with_reducible refine LeO.ite ?_ ?_)
      | (with_reducible refine LeO.bind ?_ (fun _ => ?_))
      | exact ih0 _ _ _
      | exact ih1 _ _ _ _ _
      | exact ih2 _ _
      | exact ih3 _ _ _
      | exact rillmeterlaw03_awake.mono _
      | exact rillmeterref03_Even.mono _ _
      | exact rillmeterref03_Rank.mono _ _
      | exact rillmeterref03_Same.mono _ _ _
      | exact rillmeterref03_Small.mono _ _ _
      | exact rillmeterref03_Times.mono _ _ _
      | exact rillmeterref03_Wide.mono _ _ _
      | exact solve_Solve.mono _ _ _
      | exact LeO.none _
      | refine LeO.ite ?_ ?_
      | refine LeO.bind ?_ (fun _ => ?_)
    · intro y0 y1
      unfold rillmeterlaw03_SolveTells.j2
      repeat' first
      | (with_reducible exact ih0 _ _ _)
      | (with_reducible exact ih1 _ _ _ _ _)
      | (with_reducible exact ih2 _ _)
      | (with_reducible exact ih3 _ _ _)
      | (with_reducible exact rillmeterlaw03_awake.mono _)
      | (with_reducible exact rillmeterref03_Even.mono _ _)
      | (with_reducible exact rillmeterref03_Rank.mono _ _)
      | (with_reducible exact rillmeterref03_Same.mono _ _ _)
      | (with_reducible exact rillmeterref03_Small.mono _ _ _)
      | (with_reducible exact rillmeterref03_Times.mono _ _ _)
      | (with_reducible exact rillmeterref03_Wide.mono _ _ _)
      | (with_reducible exact solve_Solve.mono _ _ _)
      | (with_reducible exact LeO.refl _)
      | (with_reducible exact LeO.none _)
      | (with_reducible refine LeO.ite ?_ ?_)
      | (with_reducible refine LeO.bind ?_ (fun _ => ?_))
      | exact ih0 _ _ _
      | exact ih1 _ _ _ _ _
      | exact ih2 _ _
      | exact ih3 _ _ _
      | exact rillmeterlaw03_awake.mono _
      | exact rillmeterref03_Even.mono _ _
      | exact rillmeterref03_Rank.mono _ _
      | exact rillmeterref03_Same.mono _ _ _
      | exact rillmeterref03_Small.mono _ _ _
      | exact rillmeterref03_Times.mono _ _ _
      | exact rillmeterref03_Wide.mono _ _ _
      | exact solve_Solve.mono _ _ _
      | exact LeO.none _
      | refine LeO.ite ?_ ?_
      | refine LeO.bind ?_ (fun _ => ?_)
    · intro y0 y1 y2
      unfold rillmeterlaw03_SolveTells.l0
      repeat' first
      | (with_reducible exact ih0 _ _ _)
      | (with_reducible exact ih1 _ _ _ _ _)
      | (with_reducible exact ih2 _ _)
      | (with_reducible exact ih3 _ _ _)
      | (with_reducible exact rillmeterlaw03_awake.mono _)
      | (with_reducible exact rillmeterref03_Even.mono _ _)
      | (with_reducible exact rillmeterref03_Rank.mono _ _)
      | (with_reducible exact rillmeterref03_Same.mono _ _ _)
      | (with_reducible exact rillmeterref03_Small.mono _ _ _)
      | (with_reducible exact rillmeterref03_Times.mono _ _ _)
      | (with_reducible exact rillmeterref03_Wide.mono _ _ _)
      | (with_reducible exact solve_Solve.mono _ _ _)
      | (with_reducible exact LeO.refl _)
      | (with_reducible exact LeO.none _)
      | (with_reducible refine LeO.ite ?_ ?_)
      | (with_reducible refine LeO.bind ?_ (fun _ => ?_))
      | exact ih0 _ _ _
      | exact ih1 _ _ _ _ _
      | exact ih2 _ _
      | exact ih3 _ _ _
      | exact rillmeterlaw03_awake.mono _
      | exact rillmeterref03_Even.mono _ _
      | exact rillmeterref03_Rank.mono _ _
      | exact rillmeterref03_Same.mono _ _ _
      | exact rillmeterref03_Small.mono _ _ _
      | exact rillmeterref03_Times.mono _ _ _
      | exact rillmeterref03_Wide.mono _ _ _
      | exact solve_Solve.mono _ _ _
      | exact LeO.none _
      | refine LeO.ite ?_ ?_
      | refine LeO.bind ?_ (fun _ => ?_)
theorem rillmeterlaw03_SolveTells.mono : ∀ a0 a1 k, LeO (rillmeterlaw03_SolveTells.f k a0 a1) (rillmeterlaw03_SolveTells.f (k + 1) a0 a1) := by
  intro a0 a1 k
  obtain ⟨ih0, ih1, ih2, ih3⟩ := rillmeterlaw03_SolveTells.mono_l k
  unfold rillmeterlaw03_SolveTells.f
  repeat' first
      | (with_reducible exact ih0 _ _ _)
      | (with_reducible exact ih1 _ _ _ _ _)
      | (with_reducible exact ih2 _ _)
      | (with_reducible exact ih3 _ _ _)
      | (with_reducible exact rillmeterlaw03_awake.mono _)
      | (with_reducible exact rillmeterref03_Even.mono _ _)
      | (with_reducible exact rillmeterref03_Rank.mono _ _)
      | (with_reducible exact rillmeterref03_Same.mono _ _ _)
      | (with_reducible exact rillmeterref03_Small.mono _ _ _)
      | (with_reducible exact rillmeterref03_Times.mono _ _ _)
      | (with_reducible exact rillmeterref03_Wide.mono _ _ _)
      | (with_reducible exact solve_Solve.mono _ _ _)
      | (with_reducible exact LeO.refl _)
      | (with_reducible exact LeO.none _)
      | (with_reducible refine LeO.ite ?_ ?_)
      | (with_reducible refine LeO.bind ?_ (fun _ => ?_))
      | exact ih0 _ _ _
      | exact ih1 _ _ _ _ _
      | exact ih2 _ _
      | exact ih3 _ _ _
      | exact rillmeterlaw03_awake.mono _
      | exact rillmeterref03_Even.mono _ _
      | exact rillmeterref03_Rank.mono _ _
      | exact rillmeterref03_Same.mono _ _ _
      | exact rillmeterref03_Small.mono _ _ _
      | exact rillmeterref03_Times.mono _ _ _
      | exact rillmeterref03_Wide.mono _ _ _
      | exact solve_Solve.mono _ _ _
      | exact LeO.none _
      | refine LeO.ite ?_ ?_
      | refine LeO.bind ?_ (fun _ => ?_)
set_option maxHeartbeats 8000000 in
set_option maxRecDepth 100000 in
theorem rillmeterlaw03_SolveTells.calls (k : Nat) (A0 : Option Addr) (c0 : Nat) (l0 : List (List Int)) (A1 : Option Addr) (c1 : Nat) (l1 : List Int) (r : Bool) (w : World) (hr0 : Kd.C (Kd.slice 36 (Kd.int .u64)) w A0 l0.length l0) (hc0 : l0.length ≤ c0) (hr1 : Kd.C (Kd.int .u64) w A1 l1.length l1) (hc1 : l1.length ≤ c1) (h : rillmeterlaw03_SolveTells.f k l0 l1 = some r) (hrt : Aside0 (r = true)) :
    Calls Try.prog 4 #[.slice A0 l0.length c0, .slice A1 l1.length c1] w fun e w' => e = .returned (.bool r) ∧ Below w.heap.size w w' := by
  have HR0 := Aside0.mk hr0
  have HC0 := Aside0.mk hc0
  clear hr0 hc0
  have HR1 := Aside0.mk hr1
  have HC1 := Aside0.mk hc1
  clear hr1 hc1
  have HB := Aside0.mk (Below.refl w.heap.size w)
  have H : ((rillmeterref03_Small.f k l0 40).bind fun t303 => (if t303 = true then (rillmeterlaw03_SolveTells.j0 k l0 l1 (decide ((l1.length : Int) > 40))) else (rillmeterlaw03_SolveTells.j0 k l0 l1 true))) = some r := h
  clear h
  have HC3 := Aside0.mk H
  clear H
  go_enter Try.func4, Try.ntmps4
  go_upto_region 1 with (fail)
  go_cut [16] (fun v16 wc => ∃ (kq : Nat) (x16_2 : Bool), v16 = .bool x16_2 ∧ Aside0 (rillmeterlaw03_SolveTells.j0 kq l0 l1 x16_2 = some r) ∧ Aside0 (kq ≤ k) ∧ Aside0 (Below w.heap.size w wc))
  case first =>
    have H := HC3.out
    clear HC3
    replace H := Option.bind_eq_some_iff.mp H
    obtain ⟨t303, A40, H⟩ := H
    replace H : (if t303 = true then (rillmeterlaw03_SolveTells.j0 k l0 l1 (decide ((l1.length : Int) > 40))) else (rillmeterlaw03_SolveTells.j0 k l0 l1 true)) = some r := H
    have A4 := Aside0.mk A40
    clear A40
    by_cases c5 : t303 = true
    · subst c5
      have H1 : (rillmeterlaw03_SolveTells.j0 k l0 l1 (decide ((l1.length : Int) > 40))) = some r := by rw [if_pos rfl] at H; exact H
      clear H
      have H := H1
      clear H1
      have H' := Aside0.mk H
      clear H
      go_wp2_with (first | ((with_reducible refine gate_callee (f := 9) rfl ?_); refine goesL_ (some 10) rfl rfl Try.func9 (by kernel_rfl) rfl #[.slice A0 l0.length c0, .int .i64 40] rfl (by (try simp only [List.map_toArray, List.map_cons, List.map_nil]); first | done | rfl | (simp only [List.length_drop, List.length_take]; rfl)) ?_; (with_reducible refine (rillmeterref03_Small.calls k _ _ l0 40 true _ ?side1 ?side2 A4.out).mono ?_); (case side1 => repeat (first | exact (Kd.C_below HR0.out HB.out) | (with_reducible refine Kd.C_alloc ?_ _) | (with_reducible refine Kd.C_drewN ?_ _) | (with_reducible refine Kd.C_drew ?_))); (case side2 => exact HC0.out); rintro e w' ⟨rfl, ⟨nd, rfl⟩⟩; refine ⟨_, rfl, ?_⟩))
      go_meet
      case rel => exact ⟨_, (decide ((l1.length : Int) > 40)), (by first | rfl | (simp; done) | (simp [*]; done)), H', ⟨by first | omega | exact Nat.le_refl _⟩, ⟨bl_ HB⟩⟩
    · replace c5 := Bool.eq_false_iff.mpr c5
      subst c5
      have H1 : (rillmeterlaw03_SolveTells.j0 k l0 l1 true) = some r := by rw [if_neg (show ¬ (false = true) by decide)] at H; exact H
      clear H
      have H := H1
      clear H1
      have H' := Aside0.mk H
      clear H
      go_wp2_with (first | ((with_reducible refine gate_callee (f := 9) rfl ?_); refine goesL_ (some 10) rfl rfl Try.func9 (by kernel_rfl) rfl #[.slice A0 l0.length c0, .int .i64 40] rfl (by (try simp only [List.map_toArray, List.map_cons, List.map_nil]); first | done | rfl | (simp only [List.length_drop, List.length_take]; rfl)) ?_; (with_reducible refine (rillmeterref03_Small.calls k _ _ l0 40 false _ ?side1 ?side2 A4.out).mono ?_); (case side1 => repeat (first | exact (Kd.C_below HR0.out HB.out) | (with_reducible refine Kd.C_alloc ?_ _) | (with_reducible refine Kd.C_drewN ?_ _) | (with_reducible refine Kd.C_drew ?_))); (case side2 => exact HC0.out); rintro e w' ⟨rfl, ⟨nd, rfl⟩⟩; refine ⟨_, rfl, ?_⟩))
      go_meet
      case rel => exact ⟨_, (true), (by first | rfl | (simp; done) | (simp [*]; done)), H', ⟨by first | omega | exact Nat.le_refl _⟩, ⟨bl_ HB⟩⟩
  case rest =>
    clear HC3
    try clear c1
    try clear p2
    try clear c4
    try clear c5
    obtain ⟨kq, x16_2, rfl, HA, HJ2, HB⟩ := hcut
    cases kq with
    | zero => exact absurd HA.out (by simp [rillmeterlaw03_SolveTells.j0])
    | succ kj2 =>
      have H := HA.out
      clear HA
      simp only [rillmeterlaw03_SolveTells.j0] at H
      by_cases c6 : x16_2 = true
      · subst c6
        have H1 : ((rillmeterlaw03_awake.f kj2).bind fun t304 => (some t304)) = some r := by rw [if_pos rfl] at H; exact H
        clear H
        have H := H1
        clear H1
        replace H := Option.bind_eq_some_iff.mp H
        obtain ⟨t304, A70, H⟩ := H
        replace H : (some t304) = some r := H
        have A7 := Aside0.mk A70
        clear A70
        obtain rfl := Option.some.inj H
        go_wp2_with (first | ((with_reducible refine gate_callee (f := 10) rfl ?_); refine goesL_ (some 17) rfl rfl Try.func10 (by kernel_rfl) rfl #[] rfl (by (try simp only [List.map_toArray, List.map_cons, List.map_nil]); first | done | rfl | (simp only [List.length_drop, List.length_take]; rfl)) ?_; (with_reducible refine (rillmeterlaw03_awake.calls kj2  t304 _ A7.out).mono ?_); rintro e w8 ⟨rfl, hb⟩; refine ⟨_, rfl, ?_⟩; have n0_ := Aside0.mk (below_step (bl_ HB) hb); clear HB; have HB := n0_; clear n0_; (try clear hb); (try clear hb2); (try clear hk); (try clear hi)))
        go_ret
        exact ⟨by first | rfl | (simp [errW_none, errW_some] <;> rfl) | (simp [*, errW_none, errW_some] <;> rfl), bl_ HB⟩
      · replace c6 := Bool.eq_false_iff.mpr c6
        subst c6
        have H1 : ((solve_Solve.f kj2 l0 l1).bind fun bt305 => ((rillmeterref03_Even.f kj2 l0).bind fun t309 => (if t309 = true then (rillmeterlaw03_SolveTells.j1 kj2 l0 l1 bt305.1 bt305.2 ((l1.length : Int) != (l0.length : Int))) else (rillmeterlaw03_SolveTells.j1 kj2 l0 l1 bt305.1 bt305.2 true)))) = some r := by rw [if_neg (show ¬ (false = true) by decide)] at H; exact H
        clear H
        have H := H1
        clear H1
        replace H := Option.bind_eq_some_iff.mp H
        obtain ⟨⟨t305, t306⟩, A90, H⟩ := H
        replace H : ((rillmeterref03_Even.f kj2 l0).bind fun t309 => (if t309 = true then (rillmeterlaw03_SolveTells.j1 kj2 l0 l1 t305 t306 ((l1.length : Int) != (l0.length : Int))) else (rillmeterlaw03_SolveTells.j1 kj2 l0 l1 t305 t306 true))) = some r := H
        have A9 := Aside0.mk A90
        clear A90
        have HC10 := Aside0.mk H
        clear H
        go_upto_region 4 with (first | ((with_reducible refine gate_callee (f := 14) rfl ?_); refine goesL_ (some 21) rfl rfl Try.func14 (by kernel_rfl) rfl #[.slice A0 l0.length c0, .slice A1 l1.length c1] rfl (by (try simp only [List.map_toArray, List.map_cons, List.map_nil]); first | done | rfl | (simp only [List.length_drop, List.length_take]; rfl)) ?_; (with_reducible refine (solve_Solve.calls kj2 _ _ l0 _ _ l1 t305 t306 _ ?side1 ?side2 ?side3 ?side4 A9.out).mono ?_); (case side1 => repeat (first | exact (Kd.C_below HR0.out HB.out) | (with_reducible refine Kd.C_alloc ?_ _) | (with_reducible refine Kd.C_drewN ?_ _) | (with_reducible refine Kd.C_drew ?_))); (case side2 => exact HC0.out); (case side3 => repeat (first | exact (Kd.C_below HR1.out HB.out) | (with_reducible refine Kd.C_alloc ?_ _) | (with_reducible refine Kd.C_drewN ?_ _) | (with_reducible refine Kd.C_drew ?_))); (case side4 => exact HC1.out); rintro e w11 ⟨v307, rfl, ho0, hb⟩; refine ⟨_, rfl, ?_⟩; have n0_ := Aside0.mk (Kd.R_lower ho0 (below_size (bl_ HB))); have n1_ := Aside0.mk (below_step (bl_ HB) hb); clear HB; have HO308 := n0_; have HB := n1_; clear n0_ n1_; (try clear hb); (try clear hb2); (try clear hk); (try clear hi); (try clear ho0)))
        (try simp only [Act.put, List.setIfInBounds_toArray, List.set_cons_zero, List.set_cons_succ])
        go_cut [33] (fun v33 wc => ∃ (kq : Nat) (x33_9 : Bool), v33 = .bool x33_9 ∧ Aside0 (rillmeterlaw03_SolveTells.j1 kq l0 l1 t305 t306 x33_9 = some r) ∧ Aside0 (kq ≤ kj2) ∧ Aside0 (Kd.R (Kd.int .u64) 36 wc w.heap.size (fun _ => True) v307 t305) ∧ Aside0 (Below w.heap.size w wc))
        case first =>
          have H := HC10.out
          clear HC10
          replace H := Option.bind_eq_some_iff.mp H
          obtain ⟨t309, A120, H⟩ := H
          replace H : (if t309 = true then (rillmeterlaw03_SolveTells.j1 kj2 l0 l1 t305 t306 ((l1.length : Int) != (l0.length : Int))) else (rillmeterlaw03_SolveTells.j1 kj2 l0 l1 t305 t306 true)) = some r := H
          have A12 := Aside0.mk A120
          clear A120
          by_cases c13 : t309 = true
          · subst c13
            have H1 : (rillmeterlaw03_SolveTells.j1 kj2 l0 l1 t305 t306 ((l1.length : Int) != (l0.length : Int))) = some r := by rw [if_pos rfl] at H; exact H
            clear H
            have H := H1
            clear H1
            have H' := Aside0.mk H
            clear H
            go_wp2_with (first | ((with_reducible refine gate_callee (f := 12) rfl ?_); refine goesL_ (some 25) rfl rfl Try.func12 (by kernel_rfl) rfl #[.slice A0 l0.length c0] rfl (by (try simp only [List.map_toArray, List.map_cons, List.map_nil]); first | done | rfl | (simp only [List.length_drop, List.length_take]; rfl)) ?_; (with_reducible refine (rillmeterref03_Even.calls kj2 _ _ l0 true _ ?side1 ?side2 A12.out).mono ?_); (case side1 => repeat (first | exact (Kd.C_below HR0.out HB.out) | (with_reducible refine Kd.C_alloc ?_ _) | (with_reducible refine Kd.C_drewN ?_ _) | (with_reducible refine Kd.C_drew ?_))); (case side2 => exact HC0.out); rintro e w' ⟨rfl, ⟨nd, rfl⟩⟩; refine ⟨_, rfl, ?_⟩))
            go_meet
            case rel => exact ⟨_, (((l1.length : Int) != (l0.length : Int))), (by first | rfl | (simp; done) | (simp [*]; done)), H', ⟨by have := HJ2.out; first | omega | exact Nat.le_refl _⟩, ⟨by (with_reducible repeat (first | apply Kd.R_alloc | apply Kd.R_drewN | apply Kd.R_drew)); exact HO308.out⟩, ⟨bl_ HB⟩⟩
          · replace c13 := Bool.eq_false_iff.mpr c13
            subst c13
            have H1 : (rillmeterlaw03_SolveTells.j1 kj2 l0 l1 t305 t306 true) = some r := by rw [if_neg (show ¬ (false = true) by decide)] at H; exact H
            clear H
            have H := H1
            clear H1
            have H' := Aside0.mk H
            clear H
            go_wp2_with (first | ((with_reducible refine gate_callee (f := 12) rfl ?_); refine goesL_ (some 25) rfl rfl Try.func12 (by kernel_rfl) rfl #[.slice A0 l0.length c0] rfl (by (try simp only [List.map_toArray, List.map_cons, List.map_nil]); first | done | rfl | (simp only [List.length_drop, List.length_take]; rfl)) ?_; (with_reducible refine (rillmeterref03_Even.calls kj2 _ _ l0 false _ ?side1 ?side2 A12.out).mono ?_); (case side1 => repeat (first | exact (Kd.C_below HR0.out HB.out) | (with_reducible refine Kd.C_alloc ?_ _) | (with_reducible refine Kd.C_drewN ?_ _) | (with_reducible refine Kd.C_drew ?_))); (case side2 => exact HC0.out); rintro e w' ⟨rfl, ⟨nd, rfl⟩⟩; refine ⟨_, rfl, ?_⟩))
            go_meet
            case rel => exact ⟨_, (true), (by first | rfl | (simp; done) | (simp [*]; done)), H', ⟨by have := HJ2.out; first | omega | exact Nat.le_refl _⟩, ⟨by (with_reducible repeat (first | apply Kd.R_alloc | apply Kd.R_drewN | apply Kd.R_drew)); exact HO308.out⟩, ⟨bl_ HB⟩⟩
        case rest =>
          clear HC10
          try clear c1
          try clear p2
          try clear c4
          try clear c5
          try clear c6
          try clear c9
          try clear c10
          try clear c12
          try clear c13
          try clear p2
          obtain ⟨kq, x33_9, rfl, HA, HJ9, HO_5, HB⟩ := hcut
          cases kq with
          | zero => exact absurd HA.out (by simp [rillmeterlaw03_SolveTells.j1])
          | succ kj9 =>
            have H := HA.out
            clear HA
            simp only [rillmeterlaw03_SolveTells.j1] at H
            by_cases c14 : x33_9 = true
            · subst c14
              have H1 : (if (t305.length : Int) = 0 then (if t306 = 1 then ((rillmeterlaw03_awake.f kj9).bind fun t310 => (some t310)) else (some false)) else (some false)) = some r := by rw [if_pos rfl] at H; exact H
              clear H
              have H := H1
              clear H1
              by_cases c15 : (t305.length : Int) = 0
              · rw [if_pos c15] at H
                have c15b0 : ((t305.length : Int) == 0) = true := beq_iff_eq.mpr c15
                have c15b1 : ((t305.length : Int) != 0) = false := bne_eq_false_iff_eq.mpr c15
                clear c15
                by_cases c16 : t306 = 1
                · rw [if_pos c16] at H
                  have c16b0 : (t306 == 1) = true := beq_iff_eq.mpr c16
                  have c16b1 : (t306 != 1) = false := bne_eq_false_iff_eq.mpr c16
                  clear c16
                  replace H := Option.bind_eq_some_iff.mp H
                  obtain ⟨t310, A170, H⟩ := H
                  replace H : (some t310) = some r := H
                  have A17 := Aside0.mk A170
                  clear A170
                  obtain rfl := Option.some.inj H
                  obtain ⟨Ao18, co18, eo18⟩ := Kd.R_slice HO_5.out
                  subst eo18
                  go_wp2_with (first | (go_at_call 10; (with_reducible refine (rillmeterlaw03_awake.calls kj9  t310 _ A17.out).mono ?_); rintro e w19 ⟨rfl, hb⟩; have n0_ := Aside0.mk (Kd.R_below (by (with_reducible repeat (first | apply Kd.R_alloc | apply Kd.R_drewN | apply Kd.R_drew)); exact HO_5.out) hb); have n1_ := Aside0.mk (below_step (bl_ HB) hb); clear HO_5; clear HB; have HO_5 := n0_; have HB := n1_; clear n0_ n1_; (try clear hb); (try clear hb2); (try clear hk); (try clear hi)))
                  go_ret
                  exact ⟨by first | rfl | (simp [errW_none, errW_some] <;> rfl) | (simp [*, errW_none, errW_some] <;> rfl), bl_ HB⟩
                · rw [if_neg c16] at H
                  have c16b0 : (t306 == 1) = false := beq_eq_false_iff_ne.mpr c16
                  have c16b1 : (t306 != 1) = true := bne_iff_ne.mpr c16
                  exact absurd ((Option.some.inj H).trans hrt.out) (by decide)
              · rw [if_neg c15] at H
                have c15b0 : ((t305.length : Int) == 0) = false := beq_eq_false_iff_ne.mpr c15
                have c15b1 : ((t305.length : Int) != 0) = true := bne_iff_ne.mpr c15
                have c15b2 : ¬ (t305 = []) := fun h_ => c15 (by rw [h_]; rfl)
                exact absurd ((Option.some.inj H).trans hrt.out) (by decide)
            · replace c14 := Bool.eq_false_iff.mpr c14
              subst c14
              have H1 : (if (l0.length : Int) = 0 then (if (t305.length : Int) = 0 then (if t306 = 0 then ((rillmeterlaw03_awake.f kj9).bind fun t311 => (some t311)) else (some false)) else (some false)) else ((rillmeterref03_Rank.f kj9 l0).bind fun t312 => ((rillmeterref03_Wide.f kj9 l0 l1).bind fun t313 => ((rillmeterref03_Rank.f kj9 t313).bind fun t316 => (if t316 > t312 then (if (t305.length : Int) = 0 then (if t306 = 6 then ((rillmeterlaw03_awake.f kj9).bind fun t317 => (some t317)) else (some false)) else (some false)) else (if 0 < (l0.length : Int) then (if t312 < ((rd_L1 l0 0).length : Int) then (if (t305.length : Int) = 0 then (if t306 = 7 then ((rillmeterlaw03_awake.f kj9).bind fun t319 => (some t319)) else (some false)) else (some false)) else (if t306 = 0 then (if (t305.length : Int) = ((rd_L1 l0 0).length : Int) then ((rillmeterref03_Times.f kj9 l0 t305).bind fun t321 => ((rillmeterref03_Same.f kj9 t321 l1).bind fun t324 => (rillmeterlaw03_SolveTells.j2 kj9 t305 (!t324)))) else (rillmeterlaw03_SolveTells.j2 kj9 t305 true)) else (rillmeterlaw03_SolveTells.j2 kj9 t305 true))) else (none))))))) = some r := by rw [if_neg (show ¬ (false = true) by decide)] at H; exact H
              clear H
              have H := H1
              clear H1
              by_cases c20 : (l0.length : Int) = 0
              · rw [if_pos c20] at H
                have c20b0 : ((l0.length : Int) == 0) = true := beq_iff_eq.mpr c20
                have c20b1 : ((l0.length : Int) != 0) = false := bne_eq_false_iff_eq.mpr c20
                clear c20
                by_cases c21 : (t305.length : Int) = 0
                · rw [if_pos c21] at H
                  have c21b0 : ((t305.length : Int) == 0) = true := beq_iff_eq.mpr c21
                  have c21b1 : ((t305.length : Int) != 0) = false := bne_eq_false_iff_eq.mpr c21
                  clear c21
                  by_cases c22 : t306 = 0
                  · rw [if_pos c22] at H
                    have c22b0 : (t306 == 0) = true := beq_iff_eq.mpr c22
                    have c22b1 : (t306 != 0) = false := bne_eq_false_iff_eq.mpr c22
                    clear c22
                    replace H := Option.bind_eq_some_iff.mp H
                    obtain ⟨t311, A230, H⟩ := H
                    replace H : (some t311) = some r := H
                    have A23 := Aside0.mk A230
                    clear A230
                    obtain rfl := Option.some.inj H
                    obtain ⟨Ao24, co24, eo24⟩ := Kd.R_slice HO_5.out
                    subst eo24
                    go_wp2_with (first | (go_at_call 10; (with_reducible refine (rillmeterlaw03_awake.calls kj9  t311 _ A23.out).mono ?_); rintro e w25 ⟨rfl, hb⟩; have n0_ := Aside0.mk (Kd.R_below (by (with_reducible repeat (first | apply Kd.R_alloc | apply Kd.R_drewN | apply Kd.R_drew)); exact HO_5.out) hb); have n1_ := Aside0.mk (below_step (bl_ HB) hb); clear HO_5; clear HB; have HO_5 := n0_; have HB := n1_; clear n0_ n1_; (try clear hb); (try clear hb2); (try clear hk); (try clear hi)))
                    go_ret
                    exact ⟨by first | rfl | (simp [errW_none, errW_some] <;> rfl) | (simp [*, errW_none, errW_some] <;> rfl), bl_ HB⟩
                  · rw [if_neg c22] at H
                    have c22b0 : (t306 == 0) = false := beq_eq_false_iff_ne.mpr c22
                    have c22b1 : (t306 != 0) = true := bne_iff_ne.mpr c22
                    exact absurd ((Option.some.inj H).trans hrt.out) (by decide)
                · rw [if_neg c21] at H
                  have c21b0 : ((t305.length : Int) == 0) = false := beq_eq_false_iff_ne.mpr c21
                  have c21b1 : ((t305.length : Int) != 0) = true := bne_iff_ne.mpr c21
                  have c21b2 : ¬ (t305 = []) := fun h_ => c21 (by rw [h_]; rfl)
                  exact absurd ((Option.some.inj H).trans hrt.out) (by decide)
              · rw [if_neg c20] at H
                have c20b0 : ((l0.length : Int) == 0) = false := beq_eq_false_iff_ne.mpr c20
                have c20b1 : ((l0.length : Int) != 0) = true := bne_iff_ne.mpr c20
                have c20b2 : ¬ (l0 = []) := fun h_ => c20 (by rw [h_]; rfl)
                replace H := Option.bind_eq_some_iff.mp H
                obtain ⟨t312, A260, H⟩ := H
                replace H : ((rillmeterref03_Wide.f kj9 l0 l1).bind fun t313 => ((rillmeterref03_Rank.f kj9 t313).bind fun t316 => (if t316 > t312 then (if (t305.length : Int) = 0 then (if t306 = 6 then ((rillmeterlaw03_awake.f kj9).bind fun t317 => (some t317)) else (some false)) else (some false)) else (if 0 < (l0.length : Int) then (if t312 < ((rd_L1 l0 0).length : Int) then (if (t305.length : Int) = 0 then (if t306 = 7 then ((rillmeterlaw03_awake.f kj9).bind fun t319 => (some t319)) else (some false)) else (some false)) else (if t306 = 0 then (if (t305.length : Int) = ((rd_L1 l0 0).length : Int) then ((rillmeterref03_Times.f kj9 l0 t305).bind fun t321 => ((rillmeterref03_Same.f kj9 t321 l1).bind fun t324 => (rillmeterlaw03_SolveTells.j2 kj9 t305 (!t324)))) else (rillmeterlaw03_SolveTells.j2 kj9 t305 true)) else (rillmeterlaw03_SolveTells.j2 kj9 t305 true))) else (none))))) = some r := H
                have A26 := Aside0.mk A260
                clear A260
                replace H := Option.bind_eq_some_iff.mp H
                obtain ⟨t313, A270, H⟩ := H
                replace H : ((rillmeterref03_Rank.f kj9 t313).bind fun t316 => (if t316 > t312 then (if (t305.length : Int) = 0 then (if t306 = 6 then ((rillmeterlaw03_awake.f kj9).bind fun t317 => (some t317)) else (some false)) else (some false)) else (if 0 < (l0.length : Int) then (if t312 < ((rd_L1 l0 0).length : Int) then (if (t305.length : Int) = 0 then (if t306 = 7 then ((rillmeterlaw03_awake.f kj9).bind fun t319 => (some t319)) else (some false)) else (some false)) else (if t306 = 0 then (if (t305.length : Int) = ((rd_L1 l0 0).length : Int) then ((rillmeterref03_Times.f kj9 l0 t305).bind fun t321 => ((rillmeterref03_Same.f kj9 t321 l1).bind fun t324 => (rillmeterlaw03_SolveTells.j2 kj9 t305 (!t324)))) else (rillmeterlaw03_SolveTells.j2 kj9 t305 true)) else (rillmeterlaw03_SolveTells.j2 kj9 t305 true))) else (none)))) = some r := H
                have A27 := Aside0.mk A270
                clear A270
                replace H := Option.bind_eq_some_iff.mp H
                obtain ⟨t316, A280, H⟩ := H
                replace H : (if t316 > t312 then (if (t305.length : Int) = 0 then (if t306 = 6 then ((rillmeterlaw03_awake.f kj9).bind fun t317 => (some t317)) else (some false)) else (some false)) else (if 0 < (l0.length : Int) then (if t312 < ((rd_L1 l0 0).length : Int) then (if (t305.length : Int) = 0 then (if t306 = 7 then ((rillmeterlaw03_awake.f kj9).bind fun t319 => (some t319)) else (some false)) else (some false)) else (if t306 = 0 then (if (t305.length : Int) = ((rd_L1 l0 0).length : Int) then ((rillmeterref03_Times.f kj9 l0 t305).bind fun t321 => ((rillmeterref03_Same.f kj9 t321 l1).bind fun t324 => (rillmeterlaw03_SolveTells.j2 kj9 t305 (!t324)))) else (rillmeterlaw03_SolveTells.j2 kj9 t305 true)) else (rillmeterlaw03_SolveTells.j2 kj9 t305 true))) else (none))) = some r := H
                have A28 := Aside0.mk A280
                clear A280
                by_cases c29 : t316 > t312
                · rw [if_pos c29] at H
                  have c29b0 : decide (t312 < t316) = true := decide_eq_true c29
                  clear c29
                  by_cases c30 : (t305.length : Int) = 0
                  · rw [if_pos c30] at H
                    have c30b0 : ((t305.length : Int) == 0) = true := beq_iff_eq.mpr c30
                    have c30b1 : ((t305.length : Int) != 0) = false := bne_eq_false_iff_eq.mpr c30
                    clear c30
                    by_cases c31 : t306 = 6
                    · rw [if_pos c31] at H
                      have c31b0 : (t306 == 6) = true := beq_iff_eq.mpr c31
                      have c31b1 : (t306 != 6) = false := bne_eq_false_iff_eq.mpr c31
                      clear c31
                      replace H := Option.bind_eq_some_iff.mp H
                      obtain ⟨t317, A320, H⟩ := H
                      replace H : (some t317) = some r := H
                      have A32 := Aside0.mk A320
                      clear A320
                      obtain rfl := Option.some.inj H
                      go_wp2_with (first | ((with_reducible refine gate_callee (f := 13) rfl ?_); refine goesL_ (some 58) rfl rfl Try.func13 (by kernel_rfl) rfl #[.slice A0 l0.length c0] rfl (by (try simp only [List.map_toArray, List.map_cons, List.map_nil]); first | done | rfl | (simp only [List.length_drop, List.length_take]; rfl)) ?_; (with_reducible refine (rillmeterref03_Rank.calls kj9 _ _ l0 t312 _ ?side1 ?side2 A26.out).mono ?_); (case side1 => repeat (first | exact (Kd.C_below HR0.out HB.out) | (with_reducible refine Kd.C_alloc ?_ _) | (with_reducible refine Kd.C_drewN ?_ _) | (with_reducible refine Kd.C_drew ?_))); (case side2 => exact HC0.out); rintro e w33 ⟨rfl, hb⟩; refine ⟨_, rfl, ?_⟩; have n0_ := Aside0.mk (Kd.R_below (by (with_reducible repeat (first | apply Kd.R_alloc | apply Kd.R_drewN | apply Kd.R_drew)); exact HO_5.out) hb); have n1_ := Aside0.mk (below_step (bl_ HB) hb); clear HO_5; clear HB; have HO_5 := n0_; have HB := n1_; clear n0_ n1_; (try clear hb); (try clear hb2); (try clear hk); (try clear hi)) | ((with_reducible refine gate_callee (f := 15) rfl ?_); refine goesL_ (some 61) rfl rfl Try.func15 (by kernel_rfl) rfl #[.slice A0 l0.length c0, .slice A1 l1.length c1] rfl (by (try simp only [List.map_toArray, List.map_cons, List.map_nil]); first | done | rfl | (simp only [List.length_drop, List.length_take]; rfl)) ?_; (with_reducible refine (rillmeterref03_Wide.calls kj9 _ _ l0 _ _ l1 t313 _ ?side1 ?side2 ?side3 ?side4 A27.out).mono ?_); (case side1 => repeat (first | exact (Kd.C_below HR0.out HB.out) | (with_reducible refine Kd.C_alloc ?_ _) | (with_reducible refine Kd.C_drewN ?_ _) | (with_reducible refine Kd.C_drew ?_))); (case side2 => exact HC0.out); (case side3 => repeat (first | exact (Kd.C_below HR1.out HB.out) | (with_reducible refine Kd.C_alloc ?_ _) | (with_reducible refine Kd.C_drewN ?_ _) | (with_reducible refine Kd.C_drew ?_))); (case side4 => exact HC1.out); rintro e w34 ⟨v314, rfl, ho0, hb⟩; refine ⟨_, rfl, ?_⟩; have n0_ := Aside0.mk (Kd.R_below (by (with_reducible repeat (first | apply Kd.R_alloc | apply Kd.R_drewN | apply Kd.R_drew)); exact HO_5.out) hb); have n1_ := Aside0.mk (Kd.N_lower (Kd.N_mono (ok' := fun k_ => some k_ ≠ (v307 : Value).ownBlock) ho0 (fun k_ hk_ => (Kd.fresh' (Kd.R_lt (by (with_reducible repeat (first | apply Kd.R_alloc | apply Kd.R_drewN | apply Kd.R_drew)); exact HO_5.out)) k_ hk_))) (below_size (bl_ HB))); have n2_ := Aside0.mk (below_step (bl_ HB) hb); clear HO_5; clear HB; have HO_5 := n0_; have HO315 := n1_; have HB := n2_; clear n0_ n1_ n2_; (try clear hb); (try clear hb2); (try clear hk); (try clear hi); (try clear ho0); obtain ⟨Ao35, co35, eo35⟩ := Kd.N_slice HO315.out; subst eo35) | ((with_reducible refine gate_callee (f := 13) rfl ?_); refine goesL_ (some 62) rfl rfl Try.func13 (by kernel_rfl) rfl #[.slice Ao35 t313.length co35] rfl (by (try simp only [List.map_toArray, List.map_cons, List.map_nil]); first | done | rfl | (simp only [List.length_drop, List.length_take]; rfl)) ?_; (with_reducible refine (rillmeterref03_Rank.calls kj9 _ _ t313 t316 _ ?side1 ?side2 A28.out).mono ?_); (case side1 => repeat (first | exact (Kd.N_reads' HO315.out).2.2 | (with_reducible refine Kd.C_alloc ?_ _) | (with_reducible refine Kd.C_drewN ?_ _) | (with_reducible refine Kd.C_drew ?_))); (case side2 => exact (Kd.N_reads' HO315.out).2.1); rintro e w36 ⟨rfl, hb⟩; refine ⟨_, rfl, ?_⟩; have n0_ := Aside0.mk (Kd.R_below (by (with_reducible repeat (first | apply Kd.R_alloc | apply Kd.R_drewN | apply Kd.R_drew)); exact HO_5.out) hb); have n1_ := Aside0.mk (Kd.N_below (by (with_reducible repeat (first | apply Kd.N_alloc | apply Kd.N_drewN | apply Kd.N_drew)); exact HO315.out) hb); have n2_ := Aside0.mk (below_step (bl_ HB) hb); clear HO_5; clear HO315; clear HB; have HO_5 := n0_; have HO315 := n1_; have HB := n2_; clear n0_ n1_ n2_; (try clear hb); (try clear hb2); (try clear hk); (try clear hi); obtain ⟨Ao37, co37, eo37⟩ := Kd.R_slice HO_5.out; subst eo37) | (go_at_call 10; (with_reducible refine (rillmeterlaw03_awake.calls kj9  t317 _ A32.out).mono ?_); rintro e w38 ⟨rfl, hb⟩; have n0_ := Aside0.mk (Kd.R_below (by (with_reducible repeat (first | apply Kd.R_alloc | apply Kd.R_drewN | apply Kd.R_drew)); exact HO_5.out) hb); have n1_ := Aside0.mk (Kd.N_below (by (with_reducible repeat (first | apply Kd.N_alloc | apply Kd.N_drewN | apply Kd.N_drew)); exact HO315.out) hb); have n2_ := Aside0.mk (below_step (bl_ HB) hb); clear HO_5; clear HO315; clear HB; have HO_5 := n0_; have HO315 := n1_; have HB := n2_; clear n0_ n1_ n2_; (try clear hb); (try clear hb2); (try clear hk); (try clear hi)))
                      go_ret
                      exact ⟨by first | rfl | (simp [errW_none, errW_some] <;> rfl) | (simp [*, errW_none, errW_some] <;> rfl), bl_ HB⟩
                    · rw [if_neg c31] at H
                      have c31b0 : (t306 == 6) = false := beq_eq_false_iff_ne.mpr c31
                      have c31b1 : (t306 != 6) = true := bne_iff_ne.mpr c31
                      exact absurd ((Option.some.inj H).trans hrt.out) (by decide)
                  · rw [if_neg c30] at H
                    have c30b0 : ((t305.length : Int) == 0) = false := beq_eq_false_iff_ne.mpr c30
                    have c30b1 : ((t305.length : Int) != 0) = true := bne_iff_ne.mpr c30
                    have c30b2 : ¬ (t305 = []) := fun h_ => c30 (by rw [h_]; rfl)
                    exact absurd ((Option.some.inj H).trans hrt.out) (by decide)
                · rw [if_neg c29] at H
                  have c29b0 : decide (t312 < t316) = false := decide_eq_false c29
                  clear c29
                  by_cases c39 : 0 < (l0.length : Int)
                  · rw [if_pos c39] at H
                    have c39b0 : decide (0 < (l0.length : Int)) = true := decide_eq_true c39
                    have c39b1 : decide (0 < l0.length) = true := decide_eq_true (by omega)
                    clear c39
                    by_cases c40 : t312 < ((rd_L1 l0 0).length : Int)
                    · rw [if_pos c40] at H
                      have c40b0 : decide (t312 < ((rd_L1 l0 0).length : Int)) = true := decide_eq_true c40
                      clear c40
                      by_cases c41 : (t305.length : Int) = 0
                      · rw [if_pos c41] at H
                        have c41b0 : ((t305.length : Int) == 0) = true := beq_iff_eq.mpr c41
                        have c41b1 : ((t305.length : Int) != 0) = false := bne_eq_false_iff_eq.mpr c41
                        clear c41
                        by_cases c42 : t306 = 7
                        · rw [if_pos c42] at H
                          have c42b0 : (t306 == 7) = true := beq_iff_eq.mpr c42
                          have c42b1 : (t306 != 7) = false := bne_eq_false_iff_eq.mpr c42
                          clear c42
                          replace H := Option.bind_eq_some_iff.mp H
                          obtain ⟨t319, A430, H⟩ := H
                          replace H : (some t319) = some r := H
                          have A43 := Aside0.mk A430
                          clear A430
                          obtain rfl := Option.some.inj H
                          go_wp2_with (first | ((with_reducible refine gate_callee (f := 13) rfl ?_); refine goesL_ (some 58) rfl rfl Try.func13 (by kernel_rfl) rfl #[.slice A0 l0.length c0] rfl (by (try simp only [List.map_toArray, List.map_cons, List.map_nil]); first | done | rfl | (simp only [List.length_drop, List.length_take]; rfl)) ?_; (with_reducible refine (rillmeterref03_Rank.calls kj9 _ _ l0 t312 _ ?side1 ?side2 A26.out).mono ?_); (case side1 => repeat (first | exact (Kd.C_below HR0.out HB.out) | (with_reducible refine Kd.C_alloc ?_ _) | (with_reducible refine Kd.C_drewN ?_ _) | (with_reducible refine Kd.C_drew ?_))); (case side2 => exact HC0.out); rintro e w44 ⟨rfl, hb⟩; refine ⟨_, rfl, ?_⟩; have n0_ := Aside0.mk (Kd.R_below (by (with_reducible repeat (first | apply Kd.R_alloc | apply Kd.R_drewN | apply Kd.R_drew)); exact HO_5.out) hb); have n1_ := Aside0.mk (below_step (bl_ HB) hb); clear HO_5; clear HB; have HO_5 := n0_; have HB := n1_; clear n0_ n1_; (try clear hb); (try clear hb2); (try clear hk); (try clear hi)) | ((with_reducible refine gate_callee (f := 15) rfl ?_); refine goesL_ (some 61) rfl rfl Try.func15 (by kernel_rfl) rfl #[.slice A0 l0.length c0, .slice A1 l1.length c1] rfl (by (try simp only [List.map_toArray, List.map_cons, List.map_nil]); first | done | rfl | (simp only [List.length_drop, List.length_take]; rfl)) ?_; (with_reducible refine (rillmeterref03_Wide.calls kj9 _ _ l0 _ _ l1 t313 _ ?side1 ?side2 ?side3 ?side4 A27.out).mono ?_); (case side1 => repeat (first | exact (Kd.C_below HR0.out HB.out) | (with_reducible refine Kd.C_alloc ?_ _) | (with_reducible refine Kd.C_drewN ?_ _) | (with_reducible refine Kd.C_drew ?_))); (case side2 => exact HC0.out); (case side3 => repeat (first | exact (Kd.C_below HR1.out HB.out) | (with_reducible refine Kd.C_alloc ?_ _) | (with_reducible refine Kd.C_drewN ?_ _) | (with_reducible refine Kd.C_drew ?_))); (case side4 => exact HC1.out); rintro e w45 ⟨v314, rfl, ho0, hb⟩; refine ⟨_, rfl, ?_⟩; have n0_ := Aside0.mk (Kd.R_below (by (with_reducible repeat (first | apply Kd.R_alloc | apply Kd.R_drewN | apply Kd.R_drew)); exact HO_5.out) hb); have n1_ := Aside0.mk (Kd.N_lower (Kd.N_mono (ok' := fun k_ => some k_ ≠ (v307 : Value).ownBlock) ho0 (fun k_ hk_ => (Kd.fresh' (Kd.R_lt (by (with_reducible repeat (first | apply Kd.R_alloc | apply Kd.R_drewN | apply Kd.R_drew)); exact HO_5.out)) k_ hk_))) (below_size (bl_ HB))); have n2_ := Aside0.mk (below_step (bl_ HB) hb); clear HO_5; clear HB; have HO_5 := n0_; have HO315 := n1_; have HB := n2_; clear n0_ n1_ n2_; (try clear hb); (try clear hb2); (try clear hk); (try clear hi); (try clear ho0); obtain ⟨Ao46, co46, eo46⟩ := Kd.N_slice HO315.out; subst eo46) | ((with_reducible refine gate_callee (f := 13) rfl ?_); refine goesL_ (some 62) rfl rfl Try.func13 (by kernel_rfl) rfl #[.slice Ao46 t313.length co46] rfl (by (try simp only [List.map_toArray, List.map_cons, List.map_nil]); first | done | rfl | (simp only [List.length_drop, List.length_take]; rfl)) ?_; (with_reducible refine (rillmeterref03_Rank.calls kj9 _ _ t313 t316 _ ?side1 ?side2 A28.out).mono ?_); (case side1 => repeat (first | exact (Kd.N_reads' HO315.out).2.2 | (with_reducible refine Kd.C_alloc ?_ _) | (with_reducible refine Kd.C_drewN ?_ _) | (with_reducible refine Kd.C_drew ?_))); (case side2 => exact (Kd.N_reads' HO315.out).2.1); rintro e w47 ⟨rfl, hb⟩; refine ⟨_, rfl, ?_⟩; have n0_ := Aside0.mk (Kd.R_below (by (with_reducible repeat (first | apply Kd.R_alloc | apply Kd.R_drewN | apply Kd.R_drew)); exact HO_5.out) hb); have n1_ := Aside0.mk (Kd.N_below (by (with_reducible repeat (first | apply Kd.N_alloc | apply Kd.N_drewN | apply Kd.N_drew)); exact HO315.out) hb); have n2_ := Aside0.mk (below_step (bl_ HB) hb); clear HO_5; clear HO315; clear HB; have HO_5 := n0_; have HO315 := n1_; have HB := n2_; clear n0_ n1_ n2_; (try clear hb); (try clear hb2); (try clear hk); (try clear hi); have p318 : 0 ≤ (0 : Int) := (by omega); have q318 : 0 < (l0.length : Int) := of_decide_eq_true (by first | (with_reducible assumption) | assumption); obtain ⟨ad318, A318_0, c318_0, e318, hx318_0, hl318_0, hi318_0⟩ := at_L1 HR0.out 0 p318 q318; cases e318; have qi318 : (0 < l0.length) = True := eq_true (by omega); (try rw [show ((0 : Int)).toNat = 0 from rfl] at hx318_0); (try rw [Addr.add_zero'] at hx318_0); replace hx318_0 := (HB.out.cell (World.block_lt_of_cell? w _ hx318_0)).trans hx318_0; have HR318_0 := Aside0.mk hi318_0; have HC318_0 := Aside0.mk hl318_0; clear hi318_0 hl318_0; replace p318 := eq_true p318; replace q318 := eq_true q318; obtain ⟨Ao48, co48, eo48⟩ := Kd.R_slice HO_5.out; subst eo48) | (go_at_call 10; (with_reducible refine (rillmeterlaw03_awake.calls kj9  t319 _ A43.out).mono ?_); rintro e w49 ⟨rfl, hb⟩; have n0_ := Aside0.mk (Kd.R_below (by (with_reducible repeat (first | apply Kd.R_alloc | apply Kd.R_drewN | apply Kd.R_drew)); exact HO_5.out) hb); have n1_ := Aside0.mk (Kd.N_below (by (with_reducible repeat (first | apply Kd.N_alloc | apply Kd.N_drewN | apply Kd.N_drew)); exact HO315.out) hb); have n2_ := Aside0.mk (below_step (bl_ HB) hb); clear HO_5; clear HO315; clear HB; have HO_5 := n0_; have HO315 := n1_; have HB := n2_; clear n0_ n1_ n2_; (try clear hb); (try clear hb2); (try clear hk); (try clear hi)))
                          go_ret
                          exact ⟨by first | rfl | (simp [errW_none, errW_some] <;> rfl) | (simp [*, errW_none, errW_some] <;> rfl), bl_ HB⟩
                        · rw [if_neg c42] at H
                          have c42b0 : (t306 == 7) = false := beq_eq_false_iff_ne.mpr c42
                          have c42b1 : (t306 != 7) = true := bne_iff_ne.mpr c42
                          exact absurd ((Option.some.inj H).trans hrt.out) (by decide)
                      · rw [if_neg c41] at H
                        have c41b0 : ((t305.length : Int) == 0) = false := beq_eq_false_iff_ne.mpr c41
                        have c41b1 : ((t305.length : Int) != 0) = true := bne_iff_ne.mpr c41
                        have c41b2 : ¬ (t305 = []) := fun h_ => c41 (by rw [h_]; rfl)
                        exact absurd ((Option.some.inj H).trans hrt.out) (by decide)
                    · rw [if_neg c40] at H
                      have c40b0 : decide (t312 < ((rd_L1 l0 0).length : Int)) = false := decide_eq_false c40
                      clear c40
                      have HC50 := Aside0.mk H
                      clear H
                      go_upto_region 13 with (first | ((with_reducible refine gate_callee (f := 13) rfl ?_); refine goesL_ (some 58) rfl rfl Try.func13 (by kernel_rfl) rfl #[.slice A0 l0.length c0] rfl (by (try simp only [List.map_toArray, List.map_cons, List.map_nil]); first | done | rfl | (simp only [List.length_drop, List.length_take]; rfl)) ?_; (with_reducible refine (rillmeterref03_Rank.calls kj9 _ _ l0 t312 _ ?side1 ?side2 A26.out).mono ?_); (case side1 => repeat (first | exact (Kd.C_below HR0.out HB.out) | (with_reducible refine Kd.C_alloc ?_ _) | (with_reducible refine Kd.C_drewN ?_ _) | (with_reducible refine Kd.C_drew ?_))); (case side2 => exact HC0.out); rintro e w51 ⟨rfl, hb⟩; refine ⟨_, rfl, ?_⟩; have n0_ := Aside0.mk (Kd.R_below (by (with_reducible repeat (first | apply Kd.R_alloc | apply Kd.R_drewN | apply Kd.R_drew)); exact HO_5.out) hb); have n1_ := Aside0.mk (below_step (bl_ HB) hb); clear HO_5; clear HB; have HO_5 := n0_; have HB := n1_; clear n0_ n1_; (try clear hb); (try clear hb2); (try clear hk); (try clear hi)) | ((with_reducible refine gate_callee (f := 15) rfl ?_); refine goesL_ (some 61) rfl rfl Try.func15 (by kernel_rfl) rfl #[.slice A0 l0.length c0, .slice A1 l1.length c1] rfl (by (try simp only [List.map_toArray, List.map_cons, List.map_nil]); first | done | rfl | (simp only [List.length_drop, List.length_take]; rfl)) ?_; (with_reducible refine (rillmeterref03_Wide.calls kj9 _ _ l0 _ _ l1 t313 _ ?side1 ?side2 ?side3 ?side4 A27.out).mono ?_); (case side1 => repeat (first | exact (Kd.C_below HR0.out HB.out) | (with_reducible refine Kd.C_alloc ?_ _) | (with_reducible refine Kd.C_drewN ?_ _) | (with_reducible refine Kd.C_drew ?_))); (case side2 => exact HC0.out); (case side3 => repeat (first | exact (Kd.C_below HR1.out HB.out) | (with_reducible refine Kd.C_alloc ?_ _) | (with_reducible refine Kd.C_drewN ?_ _) | (with_reducible refine Kd.C_drew ?_))); (case side4 => exact HC1.out); rintro e w52 ⟨v314, rfl, ho0, hb⟩; refine ⟨_, rfl, ?_⟩; have n0_ := Aside0.mk (Kd.R_below (by (with_reducible repeat (first | apply Kd.R_alloc | apply Kd.R_drewN | apply Kd.R_drew)); exact HO_5.out) hb); have n1_ := Aside0.mk (Kd.N_lower (Kd.N_mono (ok' := fun k_ => some k_ ≠ (v307 : Value).ownBlock) ho0 (fun k_ hk_ => (Kd.fresh' (Kd.R_lt (by (with_reducible repeat (first | apply Kd.R_alloc | apply Kd.R_drewN | apply Kd.R_drew)); exact HO_5.out)) k_ hk_))) (below_size (bl_ HB))); have n2_ := Aside0.mk (below_step (bl_ HB) hb); clear HO_5; clear HB; have HO_5 := n0_; have HO315 := n1_; have HB := n2_; clear n0_ n1_ n2_; (try clear hb); (try clear hb2); (try clear hk); (try clear hi); (try clear ho0); obtain ⟨Ao53, co53, eo53⟩ := Kd.N_slice HO315.out; subst eo53) | ((with_reducible refine gate_callee (f := 13) rfl ?_); refine goesL_ (some 62) rfl rfl Try.func13 (by kernel_rfl) rfl #[.slice Ao53 t313.length co53] rfl (by (try simp only [List.map_toArray, List.map_cons, List.map_nil]); first | done | rfl | (simp only [List.length_drop, List.length_take]; rfl)) ?_; (with_reducible refine (rillmeterref03_Rank.calls kj9 _ _ t313 t316 _ ?side1 ?side2 A28.out).mono ?_); (case side1 => repeat (first | exact (Kd.N_reads' HO315.out).2.2 | (with_reducible refine Kd.C_alloc ?_ _) | (with_reducible refine Kd.C_drewN ?_ _) | (with_reducible refine Kd.C_drew ?_))); (case side2 => exact (Kd.N_reads' HO315.out).2.1); rintro e w54 ⟨rfl, hb⟩; refine ⟨_, rfl, ?_⟩; have n0_ := Aside0.mk (Kd.R_below (by (with_reducible repeat (first | apply Kd.R_alloc | apply Kd.R_drewN | apply Kd.R_drew)); exact HO_5.out) hb); have n1_ := Aside0.mk (Kd.N_below (by (with_reducible repeat (first | apply Kd.N_alloc | apply Kd.N_drewN | apply Kd.N_drew)); exact HO315.out) hb); have n2_ := Aside0.mk (below_step (bl_ HB) hb); clear HO_5; clear HO315; clear HB; have HO_5 := n0_; have HO315 := n1_; have HB := n2_; clear n0_ n1_ n2_; (try clear hb); (try clear hb2); (try clear hk); (try clear hi); have p318 : 0 ≤ (0 : Int) := (by omega); have q318 : 0 < (l0.length : Int) := of_decide_eq_true (by first | (with_reducible assumption) | assumption); obtain ⟨ad318, A318_0, c318_0, e318, hx318_0, hl318_0, hi318_0⟩ := at_L1 HR0.out 0 p318 q318; cases e318; have qi318 : (0 < l0.length) = True := eq_true (by omega); (try rw [show ((0 : Int)).toNat = 0 from rfl] at hx318_0); (try rw [Addr.add_zero'] at hx318_0); replace hx318_0 := (HB.out.cell (World.block_lt_of_cell? w _ hx318_0)).trans hx318_0; have HR318_0 := Aside0.mk hi318_0; have HC318_0 := Aside0.mk hl318_0; clear hi318_0 hl318_0; replace p318 := eq_true p318; replace q318 := eq_true q318))
                      (try simp only [Act.put, List.setIfInBounds_toArray, List.set_cons_zero, List.set_cons_succ])
                      go_cut [109] (fun v109 wc => ∃ (kq : Nat) (x109_49 : Bool), v109 = .bool x109_49 ∧ Aside0 (rillmeterlaw03_SolveTells.j2 kq t305 x109_49 = some r) ∧ Aside0 (kq ≤ kj9) ∧ Aside0 (Kd.R (Kd.int .u64) 36 wc w.heap.size (fun _ => True) v307 t305) ∧ Aside0 (Below w.heap.size w wc))
                      case first =>
                        have H := HC50.out
                        clear HC50
                        by_cases c55 : t306 = 0
                        · rw [if_pos c55] at H
                          have c55b0 : (t306 == 0) = true := beq_iff_eq.mpr c55
                          have c55b1 : (t306 != 0) = false := bne_eq_false_iff_eq.mpr c55
                          clear c55
                          (first | rw [c55b0] | (simp only [i64_w, i32_w]; rw [c55b0]) | skip)
                          by_cases c56 : (t305.length : Int) = ((rd_L1 l0 0).length : Int)
                          · rw [if_pos c56] at H
                            have c56b0 : ((t305.length : Int) == ((rd_L1 l0 0).length : Int)) = true := beq_iff_eq.mpr c56
                            have c56b1 : ((t305.length : Int) != ((rd_L1 l0 0).length : Int)) = false := bne_eq_false_iff_eq.mpr c56
                            have c56b2 : (t305.length == (rd_L1 l0 0).length) = true := by first | simpa using c56 | (simp at c56 ⊢; omega)
                            clear c56
                            replace H := Option.bind_eq_some_iff.mp H
                            obtain ⟨t321, A570, H⟩ := H
                            replace H : ((rillmeterref03_Same.f kj9 t321 l1).bind fun t324 => (rillmeterlaw03_SolveTells.j2 kj9 t305 (!t324))) = some r := H
                            have A57 := Aside0.mk A570
                            clear A570
                            replace H := Option.bind_eq_some_iff.mp H
                            obtain ⟨t324, A580, H⟩ := H
                            replace H : (rillmeterlaw03_SolveTells.j2 kj9 t305 (!t324)) = some r := H
                            have A58 := Aside0.mk A580
                            clear A580
                            have H' := Aside0.mk H
                            clear H
                            obtain ⟨Ao59, co59, eo59⟩ := Kd.R_slice HO_5.out
                            subst eo59
                            have p320 : 0 ≤ (0 : Int) := (by omega)
                            have q320 : 0 < (l0.length : Int) := of_decide_eq_true (by first | (with_reducible assumption) | assumption)
                            obtain ⟨ad320, A320_0, c320_0, e320, hx320_0, hl320_0, hi320_0⟩ := at_L1 HR0.out 0 p320 q320
                            obtain rfl : ad318 = ad320 := (by injection e320)
                            have qi320 : (0 < l0.length) = True := eq_true (by omega)
                            (try rw [show ((0 : Int)).toNat = 0 from rfl] at hx320_0)
                            (try rw [Addr.add_zero'] at hx320_0)
                            (try replace hx320_0 := (HB.out.cell (World.block_lt_of_cell? w _ hx320_0)).trans hx320_0)
                            have HR320_0 := Aside0.mk hi320_0
                            have HC320_0 := Aside0.mk hl320_0
                            clear hi320_0 hl320_0
                            replace p320 := eq_true p320
                            replace q320 := eq_true q320
                            go_wp2_with (first | (go_at_call 17; (with_reducible refine (rillmeterref03_Times.calls kj9 _ _ l0 _ _ t305 t321 _ ?side1 ?side2 ?side3 ?side4 A57.out).mono ?_); (case side1 => repeat (first | exact (Kd.C_below HR0.out HB.out) | (with_reducible refine Kd.C_alloc ?_ _) | (with_reducible refine Kd.C_drewN ?_ _) | (with_reducible refine Kd.C_drew ?_))); (case side2 => exact HC0.out); (case side3 => repeat (first | exact (Kd.R_reads' HO_5.out).2.2 | (with_reducible refine Kd.C_alloc ?_ _) | (with_reducible refine Kd.C_drewN ?_ _) | (with_reducible refine Kd.C_drew ?_))); (case side4 => exact (Kd.R_reads' HO_5.out).2.1); rintro e w60 ⟨v322, rfl, ho0, hb⟩; have n0_ := Aside0.mk (Kd.R_elder' (by (with_reducible repeat (first | apply Kd.R_alloc | apply Kd.R_drewN | apply Kd.R_drew)); exact HO_5.out) (Kd.R_base ho0) hb); have n1_ := Aside0.mk (Kd.N_elder' (by (with_reducible repeat (first | apply Kd.N_alloc | apply Kd.N_drewN | apply Kd.N_drew)); exact HO315.out) (Kd.R_base ho0) hb); have n2_ := Aside0.mk (Kd.R_lower (Kd.R_new' ho0 (Kd.R_lt (by (with_reducible repeat (first | apply Kd.R_alloc | apply Kd.R_drewN | apply Kd.R_drew)); exact HO_5.out))) (below_size (bl_ HB))); have n3_ := Aside0.mk (below_step (bl_ HB) hb); clear HO_5; clear HO315; clear HB; have HO_5 := n0_; have HO315 := n1_; have HO323 := n2_; have HB := n3_; clear n0_ n1_ n2_ n3_; (try clear hb); (try clear hb2); (try clear hk); (try clear hi); (try clear ho0); obtain ⟨Ao61, co61, eo61⟩ := Kd.R_slice HO323.out; subst eo61) | (go_at_call 16; (with_reducible refine (rillmeterref03_Same.calls kj9 _ _ t321 _ _ l1 t324 _ ?side1 ?side2 ?side3 ?side4 A58.out).mono ?_); (case side1 => repeat (first | exact (Kd.R_reads' HO323.out).2.2 | (with_reducible refine Kd.C_alloc ?_ _) | (with_reducible refine Kd.C_drewN ?_ _) | (with_reducible refine Kd.C_drew ?_))); (case side2 => exact (Kd.R_reads' HO323.out).2.1); (case side3 => repeat (first | exact (Kd.C_below HR1.out HB.out) | (with_reducible refine Kd.C_alloc ?_ _) | (with_reducible refine Kd.C_drewN ?_ _) | (with_reducible refine Kd.C_drew ?_))); (case side4 => exact HC1.out); rintro e w' ⟨rfl, ⟨nd, rfl⟩⟩))
                            go_meet
                            case rel => exact ⟨_, (!t324), (by first | rfl | (simp; done) | (simp [*]; done)), H', ⟨by have := HJ2.out; have := HJ9.out; first | omega | exact Nat.le_refl _⟩, ⟨by (with_reducible repeat (first | apply Kd.R_alloc | apply Kd.R_drewN | apply Kd.R_drew)); exact Kd.R_mono HO_5.out (fun _ hk => trivial)⟩, ⟨bl_ HB⟩⟩
                          · rw [if_neg c56] at H
                            have c56b0 : ((t305.length : Int) == ((rd_L1 l0 0).length : Int)) = false := beq_eq_false_iff_ne.mpr c56
                            have c56b1 : ((t305.length : Int) != ((rd_L1 l0 0).length : Int)) = true := bne_iff_ne.mpr c56
                            have c56b2 : (t305.length == (rd_L1 l0 0).length) = false := by first | simpa using c56 | (simp at c56 ⊢; omega)
                            have H' := Aside0.mk H
                            clear H
                            obtain ⟨Ao62, co62, eo62⟩ := Kd.R_slice HO_5.out
                            subst eo62
                            have p320 : 0 ≤ (0 : Int) := (by omega)
                            have q320 : 0 < (l0.length : Int) := of_decide_eq_true (by first | (with_reducible assumption) | assumption)
                            obtain ⟨ad320, A320_0, c320_0, e320, hx320_0, hl320_0, hi320_0⟩ := at_L1 HR0.out 0 p320 q320
                            obtain rfl : ad318 = ad320 := (by injection e320)
                            have qi320 : (0 < l0.length) = True := eq_true (by omega)
                            (try rw [show ((0 : Int)).toNat = 0 from rfl] at hx320_0)
                            (try rw [Addr.add_zero'] at hx320_0)
                            (try replace hx320_0 := (HB.out.cell (World.block_lt_of_cell? w _ hx320_0)).trans hx320_0)
                            have HR320_0 := Aside0.mk hi320_0
                            have HC320_0 := Aside0.mk hl320_0
                            clear hi320_0 hl320_0
                            replace p320 := eq_true p320
                            replace q320 := eq_true q320
                            go_wp2
                            go_meet
                            case rel => exact ⟨_, (true), (by first | rfl | (simp; done) | (simp [*]; done)), H', ⟨by have := HJ2.out; have := HJ9.out; first | omega | exact Nat.le_refl _⟩, ⟨by (with_reducible repeat (first | apply Kd.R_alloc | apply Kd.R_drewN | apply Kd.R_drew)); exact HO_5.out⟩, ⟨bl_ HB⟩⟩
                        · rw [if_neg c55] at H
                          have c55b0 : (t306 == 0) = false := beq_eq_false_iff_ne.mpr c55
                          have c55b1 : (t306 != 0) = true := bne_iff_ne.mpr c55
                          (first | rw [c55b0] | (simp only [i64_w, i32_w]; rw [c55b0]) | skip)
                          have H' := Aside0.mk H
                          clear H
                          go_wp2
                          go_meet
                          case rel => exact ⟨_, (true), (by first | rfl | (simp; done) | (simp [*]; done)), H', ⟨by have := HJ2.out; have := HJ9.out; first | omega | exact Nat.le_refl _⟩, ⟨by (with_reducible repeat (first | apply Kd.R_alloc | apply Kd.R_drewN | apply Kd.R_drew)); exact HO_5.out⟩, ⟨bl_ HB⟩⟩
                      case rest =>
                        clear HC50
                        try clear c1
                        try clear c2
                        try clear p2
                        try clear c3
                        try clear p3
                        try clear q3
                        try clear hx3
                        try clear qi3
                        try clear c4
                        try clear c5
                        try clear c6
                        try clear c9
                        try clear c10
                        try clear c12
                        try clear c13
                        try clear c14
                        try clear c15
                        try clear c15b0
                        try clear c15b1
                        try clear c15b2
                        try clear c16
                        try clear c16b0
                        try clear c16b1
                        try clear c20
                        try clear c20b0
                        try clear c20b1
                        try clear c20b2
                        try clear c21
                        try clear c21b0
                        try clear c21b1
                        try clear c21b2
                        try clear c22
                        try clear c22b0
                        try clear c22b1
                        try clear c29
                        try clear c29b0
                        try clear c30
                        try clear c30b0
                        try clear c30b1
                        try clear c30b2
                        try clear c31
                        try clear c31b0
                        try clear c31b1
                        try clear p31
                        try clear q31
                        try clear hx31
                        try clear qi31
                        try clear c32
                        try clear p32
                        try clear q32
                        try clear hx32
                        try clear qi32
                        try clear c39
                        try clear c39b0
                        try clear c39b1
                        try clear c40
                        try clear c40b0
                        try clear c41
                        try clear c41b0
                        try clear c41b1
                        try clear c41b2
                        try clear c42
                        try clear c42b0
                        try clear c42b1
                        try clear c55
                        try clear c55b0
                        try clear c55b1
                        try clear c56
                        try clear c56b0
                        try clear c56b1
                        try clear c56b2
                        try clear hx318_0
                        try clear hx320_0
                        try clear p2
                        try clear p318
                        try clear p320
                        try clear q318
                        try clear q320
                        obtain ⟨kq, x109_49, rfl, HA, HJ49, HO_5, HB⟩ := hcut
                        cases kq with
                        | zero => exact absurd HA.out (by simp [rillmeterlaw03_SolveTells.j2])
                        | succ kj49 =>
                          have H := HA.out
                          clear HA
                          simp only [rillmeterlaw03_SolveTells.j2] at H
                          by_cases c63 : x109_49 = true
                          · subst c63
                            have H1 : (some false) = some r := by rw [if_pos rfl] at H; exact H
                            clear H
                            have H := H1
                            clear H1
                            exact absurd ((Option.some.inj H).trans hrt.out) (by decide)
                          · replace c63 := Bool.eq_false_iff.mpr c63
                            subst c63
                            have H1 : (rillmeterlaw03_SolveTells.l0 kj49 t305 (t305.length : Int) 0) = some r := by rw [if_neg (show ¬ (false = true) by decide)] at H; exact H
                            clear H
                            have H := H1
                            clear H1
                            have H' := Aside0.mk H
                            clear H
                            obtain ⟨Ao64, co64, eo64⟩ := Kd.R_slice HO_5.out
                            subst eo64
                            go_wp2
                            go_loopg [112] kj49 (fun kq v112 w' => ∃ (x112_4 : Int), v112 = .int .i64 x112_4 ∧ Aside0 (rillmeterlaw03_SolveTells.l0 kq t305 (t305.length : Int) x112_4 = some r) ∧ Aside0 (kq ≤ kj49) ∧ Aside0 (Kd.R (Kd.int .u64) 36 w' w.heap.size (fun _ => True) (.slice Ao64 t305.length co64) t305) ∧ Aside0 (Below w.heap.size w w'))
                            case atStart => exact ⟨(0), (by first | rfl | (simp; done) | (simp [*]; done)), H', ⟨Nat.le_refl _⟩, ⟨by (with_reducible repeat (first | apply Kd.R_alloc | apply Kd.R_drewN | apply Kd.R_drew)); exact HO_5.out⟩, ⟨bl_ HB⟩⟩
                            case round =>
                              clear H'
                              try clear c1
                              try clear c2
                              try clear p2
                              try clear c3
                              try clear p3
                              try clear q3
                              try clear hx3
                              try clear qi3
                              try clear c4
                              try clear c5
                              try clear c6
                              try clear c9
                              try clear c10
                              try clear c12
                              try clear c13
                              try clear c14
                              try clear c15
                              try clear c15b0
                              try clear c15b1
                              try clear c15b2
                              try clear c16
                              try clear c16b0
                              try clear c16b1
                              try clear c20
                              try clear c20b0
                              try clear c20b1
                              try clear c20b2
                              try clear c21
                              try clear c21b0
                              try clear c21b1
                              try clear c21b2
                              try clear c22
                              try clear c22b0
                              try clear c22b1
                              try clear c29
                              try clear c29b0
                              try clear c30
                              try clear c30b0
                              try clear c30b1
                              try clear c30b2
                              try clear c31
                              try clear c31b0
                              try clear c31b1
                              try clear p31
                              try clear q31
                              try clear hx31
                              try clear qi31
                              try clear c32
                              try clear p32
                              try clear q32
                              try clear hx32
                              try clear qi32
                              try clear c39
                              try clear c39b0
                              try clear c39b1
                              try clear c40
                              try clear c40b0
                              try clear c41
                              try clear c41b0
                              try clear c41b1
                              try clear c41b2
                              try clear c42
                              try clear c42b0
                              try clear c42b1
                              try clear c55
                              try clear c55b0
                              try clear c55b1
                              try clear c56
                              try clear c56b0
                              try clear c56b1
                              try clear c56b2
                              try clear c63
                              try clear hx318_0
                              try clear hx320_0
                              try clear p2
                              try clear p3
                              try clear p31
                              try clear p318
                              try clear p32
                              try clear p320
                              try clear q3
                              try clear q31
                              try clear q318
                              try clear q32
                              try clear q320
                              obtain ⟨x112_4, rfl, HA, HK4, HO_5, HB⟩ := hrel
                              cases gk with
                              | zero => exact absurd HA.out (by simp [rillmeterlaw03_SolveTells.l0])
                              | succ k4 =>
                                have H := HA.out
                                clear HA
                                simp only [rillmeterlaw03_SolveTells.l0] at H
                                by_cases c65 : x112_4 < (t305.length : Int)
                                · rw [if_pos c65] at H
                                  have c65b0 : decide (x112_4 < (t305.length : Int)) = true := decide_eq_true c65
                                  clear c65
                                  by_cases c66 : 0 ≤ x112_4
                                  · rw [if_pos c66] at H
                                    have c66b0 : decide (0 ≤ x112_4) = true := decide_eq_true c66
                                    clear c66
                                    by_cases c67 : x112_4 < (t305.length : Int)
                                    · rw [if_pos c67] at H
                                      have c67b0 : decide (x112_4 < (t305.length : Int)) = true := decide_eq_true c67
                                      clear c67
                                      by_cases c68 : (rd t305 x112_4) ≥ 2305843009213693951
                                      · rw [if_pos c68] at H
                                        have c68b0 : decide (2305843009213693951 ≤ (rd t305 x112_4)) = true := decide_eq_true c68
                                        clear c68
                                        exact absurd ((Option.some.inj H).trans hrt.out) (by decide)
                                      · rw [if_neg c68] at H
                                        have c68b0 : decide (2305843009213693951 ≤ (rd t305 x112_4)) = false := decide_eq_false c68
                                        clear c68
                                        have H' := Aside0.mk H
                                        clear H
                                        have p325 : 0 ≤ (x112_4 : Int) := of_decide_eq_true (by first | (with_reducible assumption) | assumption)
                                        have q325 : x112_4 < (t305.length : Int) := of_decide_eq_true (by first | (with_reducible assumption) | assumption)
                                        obtain ⟨ad325, e325, hx325_0⟩ := Kd.at_int (Kd.R_reads' HO_5.out).2.2 x112_4 p325 q325
                                        cases e325
                                        replace p325 := eq_true p325
                                        replace q325 := eq_true q325
                                        go_wp2
                                        go_roundg k4
                                        case measure => have := HJ2.out; have := HJ9.out; have := HJ49.out; have := HK4.out; omega
                                        case rel => exact ⟨(wrap64 (x112_4 + 1)), (by first | rfl | (simp; done) | (simp [*]; done)), H', ⟨by have := HJ2.out; have := HJ9.out; have := HJ49.out; have := HK4.out; omega⟩, ⟨by (with_reducible repeat (first | apply Kd.R_alloc | apply Kd.R_drewN | apply Kd.R_drew)); exact HO_5.out⟩, ⟨bl_ HB⟩⟩
                                    · rw [if_neg c67] at H
                                      exact absurd H (by simp)
                                  · rw [if_neg c66] at H
                                    exact absurd H (by simp)
                                · rw [if_neg c65] at H
                                  have c65b0 : decide (x112_4 < (t305.length : Int)) = false := decide_eq_false c65
                                  clear c65
                                  replace H := Option.bind_eq_some_iff.mp H
                                  obtain ⟨t326, A690, H⟩ := H
                                  replace H : (some t326) = some r := H
                                  have A69 := Aside0.mk A690
                                  clear A690
                                  obtain rfl := Option.some.inj H
                                  go_wp2_with (first | ((with_reducible refine gate_callee (f := 10) rfl ?_); refine goesL_ (some 121) rfl rfl Try.func10 (by kernel_rfl) rfl #[] rfl (by (try simp only [List.map_toArray, List.map_cons, List.map_nil]); first | done | rfl | (simp only [List.length_drop, List.length_take]; rfl)) ?_; (with_reducible refine (rillmeterlaw03_awake.calls k4  t326 _ A69.out).mono ?_); rintro e w70 ⟨rfl, hb⟩; refine ⟨_, rfl, ?_⟩; have n0_ := Aside0.mk (Kd.R_below (by (with_reducible repeat (first | apply Kd.R_alloc | apply Kd.R_drewN | apply Kd.R_drew)); exact HO_5.out) hb); have n1_ := Aside0.mk (below_step (bl_ HB) hb); clear HO_5; clear HB; have HO_5 := n0_; have HB := n1_; clear n0_ n1_; (try clear hb); (try clear hb2); (try clear hk); (try clear hi)))
                                  go_ret
                                  exact ⟨by first | rfl | (simp [errW_none, errW_some] <;> rfl) | (simp [*, errW_none, errW_some] <;> rfl), bl_ HB⟩
                  · rw [if_neg c39] at H
                    exact absurd H (by simp)

end Go.Proofs.Ytoplnkbhgpamaaa.PSolveTells
