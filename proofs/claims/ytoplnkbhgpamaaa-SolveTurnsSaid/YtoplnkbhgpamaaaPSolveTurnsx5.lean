/- The functions that a law uses, each as a plain function, with the proof that a call of the Go function comes to its answer. Condition of each: the arguments read as the data that it names, and the plain function has an answer. Written by a program of this session (standin.py). -/
import Derived.Test.YtoplnkbhgpamaaaPSolveTurnsx0
import Derived.Test.YtoplnkbhgpamaaaPSolveTurnsx1
import Derived.Test.YtoplnkbhgpamaaaPSolveTurnsx3
import Derived.Test.YtoplnkbhgpamaaaPSolveTurnsx4
import Derived.Lib.SliceRun
namespace Go.Proofs.Ytoplnkbhgpamaaa.PSolveTurns
open Go.RowKit Go.Proofs.YtoplnkbhgpamaaaW.PrintWords Go.Proofs.YtoplnkbhgpamaaaW.PrintLast Go.Proofs.YtoplnkbhgpamaaaW.PrintMore
attribute [local go_sem] max2_int min2_int max_two min_two max_three min_three max_four min_four   -- for this text's walks alone
set_option linter.unusedVariables false
set_option linter.unusedSimpArgs false

/-! ### solve_Solve: function 14 -/
mutual
def solve_Solve.j0 : Nat → List (List Int) → List Int → Bool → Option (List Int × Int)
  | 0, _, _, _ => none
  | k + 1, x0, x1, x25 => if x25 = true then (some (([] : List Int), 1)) else (if (x0.length : Int) = 0 then (some (([] : List Int), 0)) else (if 0 < (x0.length : Int) then (solve_Solve.l0 k x1 ((rd_L1 x0 0).length : Int) ([] : List (List Int)) x0 (x0.length : Int) 0) else (none)))
def solve_Solve.l0 : Nat → List Int → Int → List (List Int) → List (List Int) → Int → Int → Option (List Int × Int)
  | 0, _, _, _, _, _, _ => none
  | k + 1, x1, x6, x7, x33, x34, x35 => if x35 < x34 then (if 0 ≤ x35 then (if x35 < (x33.length : Int) then ((slices_Clone_uint64_uint64.f (rd_L1 x33 x35)).bind fun t174 => (if x35 < (x1.length : Int) then ((some (([rd x1 x35] : List Int) : List Int)).bind fun y178 => (if t174.length + y178.length < 17592186044416 then ((some (([(t174 ++ y178)] : List (List Int)) : List (List Int))).bind fun y184 => (if x7.length + y184.length < 5864062014805 then (solve_Solve.l0 k x1 x6 (x7 ++ y184) x33 x34 (wrap64 (x35 + 1))) else (none))) else (none))) else (none))) else (none)) else (none)) else ((solve_clear.f k x7 x6).bind fun bt190 => (if 0 ≤ (bt190.2.length : Int) then (if (bt190.2.length : Int) ≤ (bt190.1.length : Int) then ((some (bt190.1.drop ((bt190.2.length : Int) : Int).toNat : List (List Int))).bind fun y196 => (solve_Solve.l1 k x6 bt190.1 bt190.2 y196 (y196.length : Int) 0)) else (none)) else (none)))
def solve_Solve.l1 : Nat → Int → List (List Int) → List Int → List (List Int) → Int → Int → Option (List Int × Int)
  | 0, _, _, _, _, _, _ => none
  | k + 1, x6, x10, x11, x61, x62, x63 => if x63 < x62 then (if 0 ≤ x63 then (if x63 < (x61.length : Int) then (if 0 ≤ x6 then (if x6 < ((rd_L1 x61 x63).length : Int) then (if (rd (rd_L1 x61 x63) x6) = 0 then (solve_Solve.l1 k x6 x10 x11 x61 x62 (wrap64 (x63 + 1))) else (some (([] : List Int), 6))) else (none)) else (none)) else (none)) else (none)) else (if (x11.length : Int) < x6 then (some (([] : List Int), 7)) else (solve_Solve.l2 k x6 x10 ([] : List Int) x6 0))
def solve_Solve.l2 : Nat → Int → List (List Int) → List Int → Int → Int → Option (List Int × Int)
  | 0, _, _, _, _, _ => none
  | k + 1, x6, x10, x14, x77, x78 => if x78 < x77 then (if 0 ≤ x78 then (if x78 < (x10.length : Int) then (if 0 ≤ x6 then (if x6 < ((rd_L1 x10 x78).length : Int) then ((some (([rd (rd_L1 x10 x78) x6] : List Int) : List Int)).bind fun y205 => (if x14.length + y205.length < 17592186044416 then (solve_Solve.l2 k x6 x10 (x14 ++ y205) x77 (wrap64 (x78 + 1))) else (none))) else (none)) else (none)) else (none)) else (none)) else (some (x14, 0))
end
def solve_Solve.f (k : Nat) (l0 : List (List Int)) (l1 : List Int) : Option (List Int × Int) := (solve_even.f l0).bind fun t171 => (if t171 = true then (solve_Solve.j0 k l0 l1 ((l1.length : Int) != (l0.length : Int))) else (solve_Solve.j0 k l0 l1 true))
theorem solve_Solve.mono_l : ∀ k, (∀ y0 y1 y2, LeO (solve_Solve.j0 k y0 y1 y2) (solve_Solve.j0 (k + 1) y0 y1 y2)) ∧ (∀ y0 y1 y2 y3 y4 y5, LeO (solve_Solve.l0 k y0 y1 y2 y3 y4 y5) (solve_Solve.l0 (k + 1) y0 y1 y2 y3 y4 y5)) ∧ (∀ y0 y1 y2 y3 y4 y5, LeO (solve_Solve.l1 k y0 y1 y2 y3 y4 y5) (solve_Solve.l1 (k + 1) y0 y1 y2 y3 y4 y5)) ∧ (∀ y0 y1 y2 y3 y4, LeO (solve_Solve.l2 k y0 y1 y2 y3 y4) (solve_Solve.l2 (k + 1) y0 y1 y2 y3 y4))
  | 0 => ⟨fun _ _ _ r h => by simp [solve_Solve.j0] at h, fun _ _ _ _ _ _ r h => by simp [solve_Solve.l0] at h, fun _ _ _ _ _ _ r h => by simp [solve_Solve.l1] at h, fun _ _ _ _ _ r h => by simp [solve_Solve.l2] at h⟩
  | k + 1 => by
    obtain ⟨ih0, ih1, ih2, ih3⟩ := solve_Solve.mono_l k
    refine ⟨?_, ?_, ?_, ?_⟩
    · intro y0 y1 y2
      unfold solve_Solve.j0
      repeat' first
      | (with_reducible exact ih0 _ _ _)
      | (with_reducible exact ih1 _ _ _ _ _ _)
      | (with_reducible exact ih2 _ _ _ _ _ _)
      | (with_reducible exact ih3 _ _ _ _ _)
      | (with_reducible exact solve_clear.mono _ _ _)
      | (with_reducible exact LeO.refl _)
      | (with_reducible exact LeO.none _)
      | (with_reducible refine LeO.ite ?_ ?_)
      | (with_reducible refine LeO.bind ?_ (fun _ => ?_))
      | exact ih0 _ _ _
      | exact ih1 _ _ _ _ _ _
      | exact ih2 _ _ _ _ _ _
      | exact ih3 _ _ _ _ _
      | exact solve_clear.mono _ _ _
      | exact LeO.none _
      | refine LeO.ite ?_ ?_
      | refine LeO.bind ?_ (fun _ => ?_)
    · intro y0 y1 y2 y3 y4 y5
      unfold solve_Solve.l0
      repeat' first
      | (with_reducible exact ih0 _ _ _)
      | (with_reducible exact ih1 _ _ _ _ _ _)
      | (with_reducible exact ih2 _ _ _ _ _ _)
      | (with_reducible exact ih3 _ _ _ _ _)
      | (with_reducible exact solve_clear.mono _ _ _)
      | (with_reducible exact LeO.refl _)
      | (with_reducible exact LeO.none _)
      | (with_reducible refine LeO.ite ?_ ?_)
      | (with_reducible refine LeO.bind ?_ (fun _ => ?_))
      | exact ih0 _ _ _
      | exact ih1 _ _ _ _ _ _
      | exact ih2 _ _ _ _ _ _
      | exact ih3 _ _ _ _ _
      | exact solve_clear.mono _ _ _
      | exact LeO.none _
      | refine LeO.ite ?_ ?_
      | refine LeO.bind ?_ (fun _ => ?_)
    · intro y0 y1 y2 y3 y4 y5
      unfold solve_Solve.l1
      repeat' first
      | (with_reducible exact ih0 _ _ _)
      | (with_reducible exact ih1 _ _ _ _ _ _)
      | (with_reducible exact ih2 _ _ _ _ _ _)
      | (with_reducible exact ih3 _ _ _ _ _)
      | (with_reducible exact solve_clear.mono _ _ _)
      | (with_reducible exact LeO.refl _)
      | (with_reducible exact LeO.none _)
      | (with_reducible refine LeO.ite ?_ ?_)
      | (with_reducible refine LeO.bind ?_ (fun _ => ?_))
      | exact ih0 _ _ _
      | exact ih1 _ _ _ _ _ _
      | exact ih2 _ _ _ _ _ _
      | exact ih3 _ _ _ _ _
      | exact solve_clear.mono _ _ _
      | exact LeO.none _
      | refine LeO.ite ?_ ?_
      | refine LeO.bind ?_ (fun _ => ?_)
    · intro y0 y1 y2 y3 y4
      unfold solve_Solve.l2
      repeat' first
      | (with_reducible exact ih0 _ _ _)
      | (with_reducible exact ih1 _ _ _ _ _ _)
      | (with_reducible exact ih2 _ _ _ _ _ _)
      | (with_reducible exact ih3 _ _ _ _ _)
      | (with_reducible exact solve_clear.mono _ _ _)
      | (with_reducible exact LeO.refl _)
      | (with_reducible exact LeO.none _)
      | (with_reducible refine LeO.ite ?_ ?_)
      | (with_reducible refine LeO.bind ?_ (fun _ => ?_))
      | exact ih0 _ _ _
      | exact ih1 _ _ _ _ _ _
      | exact ih2 _ _ _ _ _ _
      | exact ih3 _ _ _ _ _
      | exact solve_clear.mono _ _ _
      | exact LeO.none _
      | refine LeO.ite ?_ ?_
      | refine LeO.bind ?_ (fun _ => ?_)
theorem solve_Solve.mono : ∀ a0 a1 k, LeO (solve_Solve.f k a0 a1) (solve_Solve.f (k + 1) a0 a1) := by
  intro a0 a1 k
  obtain ⟨ih0, ih1, ih2, ih3⟩ := solve_Solve.mono_l k
  unfold solve_Solve.f
  repeat' first
      | (with_reducible exact ih0 _ _ _)
      | (with_reducible exact ih1 _ _ _ _ _ _)
      | (with_reducible exact ih2 _ _ _ _ _ _)
      | (with_reducible exact ih3 _ _ _ _ _)
      | (with_reducible exact solve_clear.mono _ _ _)
      | (with_reducible exact LeO.refl _)
      | (with_reducible exact LeO.none _)
      | (with_reducible refine LeO.ite ?_ ?_)
      | (with_reducible refine LeO.bind ?_ (fun _ => ?_))
      | exact ih0 _ _ _
      | exact ih1 _ _ _ _ _ _
      | exact ih2 _ _ _ _ _ _
      | exact ih3 _ _ _ _ _
      | exact solve_clear.mono _ _ _
      | exact LeO.none _
      | refine LeO.ite ?_ ?_
      | refine LeO.bind ?_ (fun _ => ?_)
def solve_Solve.T10 : Bool × List (List Nat × List Nat) := (true, [([], []), ([], []), ([1], [1]), ([], []), ([], []), ([3, 4], [3, 4]), ([5], [5]), ([6], [6]), ([2, 7, 2], [2, 7]), ([8], [8]), ([0, 9, 8], [0, 9]), ([10, 10, 0, 1, 2, 3, 4, 5, 6, 7, 8, 9, 10], [0, 10])])
def solve_Solve.B10 : List Nat := [0, 0, 2, 0, 0, 24, 56, 120, 254, 510, 1023, 2047]
theorem solve_Solve.tab10 : rtab .any (opsOf Try.f14 10) = solve_Solve.T10 := by kernel_rfl
theorem solve_Solve.bits10 : waitsOk solve_Solve.T10.2 solve_Solve.B10 = true := by kernel_rfl
set_option maxHeartbeats 8000000 in
set_option maxRecDepth 100000 in
theorem solve_Solve.calls (k : Nat) (A0 : Option Addr) (c0 : Nat) (l0 : List (List Int)) (A1 : Option Addr) (c1 : Nat) (l1 : List Int) (r1 : List Int) (r2 : Int) (w : World) (hr0 : Kd.C (Kd.slice 36 (Kd.int .u64)) w A0 l0.length l0) (hc0 : l0.length ≤ c0) (hr1 : Kd.C (Kd.int .u64) w A1 l1.length l1) (hc1 : l1.length ≤ c1) (h : solve_Solve.f k l0 l1 = some (r1, r2)) :
    Calls Try.prog 14 #[.slice A0 l0.length c0, .slice A1 l1.length c1] w fun e w' => ∃ v0_ : Value, e = .returned (.tuple #[v0_, .int .i64 r2]) ∧ Kd.R (Kd.int .u64) 36 w' w.heap.size (fun _ => True) v0_ r1 ∧ Below w.heap.size w w' := by
  have HR0 := Aside0.mk hr0
  have HC0 := Aside0.mk hc0
  clear hr0 hc0
  have HR1 := Aside0.mk hr1
  have HC1 := Aside0.mk hc1
  clear hr1 hc1
  have HB := Aside0.mk (Below.refl w.heap.size w)
  have H : ((solve_even.f l0).bind fun t171 => (if t171 = true then (solve_Solve.j0 k l0 l1 ((l1.length : Int) != (l0.length : Int))) else (solve_Solve.j0 k l0 l1 true))) = some (r1, r2) := h
  clear h
  have HC3 := Aside0.mk H
  clear H
  go_enter Try.func14, Try.ntmps14
  go_upto_region 1 with (fail)
  go_cut [25] (fun v25 wc => ∃ (kq : Nat) (x25_2 : Bool), v25 = .bool x25_2 ∧ Aside0 (solve_Solve.j0 kq l0 l1 x25_2 = some (r1, r2)) ∧ Aside0 (kq ≤ k) ∧ Aside0 (Below w.heap.size w wc))
  case first =>
    have H := HC3.out
    clear HC3
    replace H := Option.bind_eq_some_iff.mp H
    obtain ⟨t171, A40, H⟩ := H
    replace H : (if t171 = true then (solve_Solve.j0 k l0 l1 ((l1.length : Int) != (l0.length : Int))) else (solve_Solve.j0 k l0 l1 true)) = some (r1, r2) := H
    have A4 := Aside0.mk A40
    clear A40
    by_cases c5 : t171 = true
    · subst c5
      have H1 : (solve_Solve.j0 k l0 l1 ((l1.length : Int) != (l0.length : Int))) = some (r1, r2) := by rw [if_pos rfl] at H; exact H
      clear H
      have H := H1
      clear H1
      have H' := Aside0.mk H
      clear H
      go_wp2_with (first | ((with_reducible refine gate_callee (f := 20) rfl ?_); refine goesL_ (some 17) rfl rfl Try.func20 (by kernel_rfl) rfl #[.slice A0 l0.length c0] rfl (by (try simp only [List.map_toArray, List.map_cons, List.map_nil]); first | done | rfl | (simp only [List.length_drop, List.length_take]; rfl)) ?_; (with_reducible refine (solve_even.calls _ _ l0 true _ ?side1 ?side2 A4.out).mono ?_); (case side1 => repeat (first | exact (Kd.C_below HR0.out HB.out) | (with_reducible refine Kd.C_alloc ?_ _) | (with_reducible refine Kd.C_drewN ?_ _) | (with_reducible refine Kd.C_drew ?_))); (case side2 => exact HC0.out); rintro e w6 ⟨rfl, hb⟩; refine ⟨_, rfl, ?_⟩; have n0_ := Aside0.mk (below_step (by repeat (first | (with_reducible first | exact HB.out | apply below_alloc | apply pw_below_drewN | apply below_drew1) | exact HB.out)) hb); clear HB; have HB := n0_; clear n0_; (try clear hb); (try clear hb2); (try clear hk); (try clear hi)))
      go_meet
      case rel => exact ⟨_, (((l1.length : Int) != (l0.length : Int))), (by first | rfl | (simp; done) | (simp [*]; done)), H', ⟨by first | omega | exact Nat.le_refl _⟩, ⟨by repeat (first | (with_reducible first | exact HB.out | apply below_alloc | apply pw_below_drewN | apply below_drew1) | exact HB.out)⟩⟩
    · replace c5 := Bool.eq_false_iff.mpr c5
      subst c5
      have H1 : (solve_Solve.j0 k l0 l1 true) = some (r1, r2) := by rw [if_neg (show ¬ (false = true) by decide)] at H; exact H
      clear H
      have H := H1
      clear H1
      have H' := Aside0.mk H
      clear H
      go_wp2_with (first | ((with_reducible refine gate_callee (f := 20) rfl ?_); refine goesL_ (some 17) rfl rfl Try.func20 (by kernel_rfl) rfl #[.slice A0 l0.length c0] rfl (by (try simp only [List.map_toArray, List.map_cons, List.map_nil]); first | done | rfl | (simp only [List.length_drop, List.length_take]; rfl)) ?_; (with_reducible refine (solve_even.calls _ _ l0 false _ ?side1 ?side2 A4.out).mono ?_); (case side1 => repeat (first | exact (Kd.C_below HR0.out HB.out) | (with_reducible refine Kd.C_alloc ?_ _) | (with_reducible refine Kd.C_drewN ?_ _) | (with_reducible refine Kd.C_drew ?_))); (case side2 => exact HC0.out); rintro e w7 ⟨rfl, hb⟩; refine ⟨_, rfl, ?_⟩; have n0_ := Aside0.mk (below_step (by repeat (first | (with_reducible first | exact HB.out | apply below_alloc | apply pw_below_drewN | apply below_drew1) | exact HB.out)) hb); clear HB; have HB := n0_; clear n0_; (try clear hb); (try clear hb2); (try clear hk); (try clear hi)))
      go_meet
      case rel => exact ⟨_, (true), (by first | rfl | (simp; done) | (simp [*]; done)), H', ⟨by first | omega | exact Nat.le_refl _⟩, ⟨by repeat (first | (with_reducible first | exact HB.out | apply below_alloc | apply pw_below_drewN | apply below_drew1) | exact HB.out)⟩⟩
  case rest =>
    clear HC3
    try clear c1
    try clear c2
    try clear p2
    try clear c5
    obtain ⟨kq, x25_2, rfl, HA, HJ2, HB⟩ := hcut
    cases kq with
    | zero => exact absurd HA.out (by simp [solve_Solve.j0])
    | succ kj2 =>
      have H := HA.out
      clear HA
      simp only [solve_Solve.j0] at H
      by_cases c8 : x25_2 = true
      · subst c8
        have H1 : (some (([] : List Int), 1)) = some (r1, r2) := by rw [if_pos rfl] at H; exact H
        clear H
        have H := H1
        clear H1
        simp only [Option.some.injEq, Prod.mk.injEq] at H
        obtain ⟨rfl, rfl⟩ := H
        go_wp2
        go_ret2
        exact ⟨_, by first | rfl | (simp [errW_none, errW_some] <;> rfl) | (simp [*, errW_none, errW_some] <;> rfl), by first | exact Kd.R_nil _ _ _ _ _ | exact Kd.N_nil _ _ _ _ _ | exact Kd.V_nil _ _ _ _ _ | exact Kd.Q_nil _ _ _ _ _ | exact Kd.S_nil _ _ _ _ _, by repeat (first | (with_reducible first | exact HB.out | apply below_alloc | apply pw_below_drewN | apply below_drew1) | exact HB.out)⟩
      · replace c8 := Bool.eq_false_iff.mpr c8
        subst c8
        have H1 : (if (l0.length : Int) = 0 then (some (([] : List Int), 0)) else (if 0 < (l0.length : Int) then (solve_Solve.l0 kj2 l1 ((rd_L1 l0 0).length : Int) ([] : List (List Int)) l0 (l0.length : Int) 0) else (none))) = some (r1, r2) := by rw [if_neg (show ¬ (false = true) by decide)] at H; exact H
        clear H
        have H := H1
        clear H1
        by_cases c9 : (l0.length : Int) = 0
        · rw [if_pos c9] at H
          have c9b0 : ((l0.length : Int) == 0) = true := beq_iff_eq.mpr c9
          have c9b1 : ((l0.length : Int) != 0) = false := bne_eq_false_iff_eq.mpr c9
          clear c9
          simp only [Option.some.injEq, Prod.mk.injEq] at H
          obtain ⟨rfl, rfl⟩ := H
          go_wp2
          go_ret2
          exact ⟨_, by first | rfl | (simp [errW_none, errW_some] <;> rfl) | (simp [*, errW_none, errW_some] <;> rfl), by first | exact Kd.R_nil _ _ _ _ _ | exact Kd.N_nil _ _ _ _ _ | exact Kd.V_nil _ _ _ _ _ | exact Kd.Q_nil _ _ _ _ _ | exact Kd.S_nil _ _ _ _ _, by repeat (first | (with_reducible first | exact HB.out | apply below_alloc | apply pw_below_drewN | apply below_drew1) | exact HB.out)⟩
        · rw [if_neg c9] at H
          have c9b0 : ((l0.length : Int) == 0) = false := beq_eq_false_iff_ne.mpr c9
          have c9b1 : ((l0.length : Int) != 0) = true := bne_iff_ne.mpr c9
          have c9b2 : ¬ (l0 = []) := fun h_ => c9 (by rw [h_]; rfl)
          by_cases c10 : 0 < (l0.length : Int)
          · rw [if_pos c10] at H
            have c10b0 : decide (0 < (l0.length : Int)) = true := decide_eq_true c10
            have c10b1 : decide (0 < l0.length) = true := decide_eq_true (by omega)
            clear c10
            have H' := Aside0.mk H
            clear H
            have p172 : 0 ≤ (0 : Int) := (by omega)
            have q172 : 0 < (l0.length : Int) := of_decide_eq_true (by first | (with_reducible assumption) | assumption)
            obtain ⟨ad172, A172_0, c172_0, e172, hx172_0, hl172_0, hi172_0⟩ := at_L1 HR0.out 0 p172 q172
            cases e172
            have qi172 : (0 < l0.length) = True := eq_true (by omega)
            (try rw [show ((0 : Int)).toNat = 0 from rfl] at hx172_0)
            (try rw [Addr.add_zero'] at hx172_0)
            (try replace hx172_0 := (HB.out.cell (World.block_lt_of_cell? w _ hx172_0)).trans hx172_0)
            have HR172_0 := Aside0.mk hi172_0
            have HC172_0 := Aside0.mk hl172_0
            clear hi172_0 hl172_0
            replace p172 := eq_true p172
            replace q172 := eq_true q172
            go_wp2
            go_loopg [7, 35] kj2 (fun kq v7 v35 w' => ∃ (x7_2 : List (List Int)) (x35_2 : Int), v35 = .int .i64 x35_2 ∧ Aside0 (solve_Solve.l0 kq l1 ((rd_L1 l0 0).length : Int) x7_2 l0 (l0.length : Int) x35_2 = some (r1, r2)) ∧ Aside0 (kq ≤ kj2) ∧ Aside0 (Kd.N (Kd.slice 36 (Kd.int .u64)) 30 w' w.heap.size (fun _ => True) v7 x7_2) ∧ Aside0 (Below w.heap.size w w'))
            case atStart => exact ⟨(([] : List (List Int))), (0), (by first | rfl | (simp; done) | (simp [*]; done)), H', ⟨Nat.le_refl _⟩, ⟨by first | exact Kd.S_nil _ _ _ _ _ | exact Kd.N_nil _ _ _ _ _ | exact Kd.V_nil _ _ _ _ _ | exact Kd.Q_nil _ _ _ _ _ | exact Kd.R_nil _ _ _ _ _⟩, ⟨by repeat (first | (with_reducible first | exact HB.out | apply below_alloc | apply pw_below_drewN | apply below_drew1) | exact HB.out)⟩⟩
            case round =>
              clear H'
              try clear c1
              try clear p1
              try clear q1
              try clear hx1
              try clear qi1
              try clear c2
              try clear p2
              try clear c5
              try clear c8
              try clear c9
              try clear c9b0
              try clear c9b1
              try clear c9b2
              try clear c10
              try clear c10b0
              try clear c10b1
              try clear hx172_0
              try clear p172
              try clear p2
              try clear q172
              obtain ⟨x7_2, x35_2, rfl, HA, HK2, HO_7, HB⟩ := hrel
              cases gk with
              | zero => exact absurd HA.out (by simp [solve_Solve.l0])
              | succ k2 =>
                have H := HA.out
                clear HA
                simp only [solve_Solve.l0] at H
                by_cases c11 : x35_2 < (l0.length : Int)
                · rw [if_pos c11] at H
                  have c11b0 : decide (x35_2 < (l0.length : Int)) = true := decide_eq_true c11
                  clear c11
                  by_cases c12 : 0 ≤ x35_2
                  · rw [if_pos c12] at H
                    have c12b0 : decide (0 ≤ x35_2) = true := decide_eq_true c12
                    clear c12
                    by_cases c13 : x35_2 < (l0.length : Int)
                    · rw [if_pos c13] at H
                      have c13b0 : decide (x35_2 < (l0.length : Int)) = true := decide_eq_true c13
                      clear c13
                      replace H := Option.bind_eq_some_iff.mp H
                      obtain ⟨t174, A140, H⟩ := H
                      replace H : (if x35_2 < (l1.length : Int) then ((some (([rd l1 x35_2] : List Int) : List Int)).bind fun y178 => (if t174.length + y178.length < 17592186044416 then ((some (([(t174 ++ y178)] : List (List Int)) : List (List Int))).bind fun y184 => (if x7_2.length + y184.length < 5864062014805 then (solve_Solve.l0 k2 l1 ((rd_L1 l0 0).length : Int) (x7_2 ++ y184) l0 (l0.length : Int) (wrap64 (x35_2 + 1))) else (none))) else (none))) else (none)) = some (r1, r2) := H
                      have A14 := Aside0.mk A140
                      clear A140
                      by_cases c15 : x35_2 < (l1.length : Int)
                      · rw [if_pos c15] at H
                        have c15b0 : decide (x35_2 < (l1.length : Int)) = true := decide_eq_true c15
                        clear c15
                        obtain ⟨y178, hy178⟩ : ∃ y_ : List Int, y_ = (([rd l1 x35_2] : List Int)) := ⟨_, rfl⟩
                        replace H : (if t174.length + y178.length < 17592186044416 then ((some (([(t174 ++ y178)] : List (List Int)) : List (List Int))).bind fun y184 => (if x7_2.length + y184.length < 5864062014805 then (solve_Solve.l0 k2 l1 ((rd_L1 l0 0).length : Int) (x7_2 ++ y184) l0 (l0.length : Int) (wrap64 (x35_2 + 1))) else (none))) else (none)) = some (r1, r2) := by first | (rw [hy178]; with_reducible exact H) | (have H2_ := (Option.bind_some _ _).symm.trans H; rw [hy178]; with_reducible exact H2_) | (have H2_ := (Option.bind_some _ _).symm.trans H; with_reducible exact H2_) | with_reducible exact H | (rw [hy178]; exact H) | exact H
                        have Ny178 := Aside0.mk hy178
                        clear hy178
                        by_cases c16 : t174.length + y178.length < 17592186044416
                        · rw [if_pos c16] at H
                          have LMc16 := Aside0.mk c16
                          clear c16
                          obtain ⟨y181, hy181⟩ : ∃ y_ : List Int, y_ = (t174 ++ y178) := ⟨_, rfl⟩
                          replace H : ((some (([y181] : List (List Int)) : List (List Int))).bind fun y184 => (if x7_2.length + y184.length < 5864062014805 then (solve_Solve.l0 k2 l1 ((rd_L1 l0 0).length : Int) (x7_2 ++ y184) l0 (l0.length : Int) (wrap64 (x35_2 + 1))) else (none))) = some (r1, r2) := by first | (rw [hy181]; with_reducible exact H) | (have H2_ := (Option.bind_some _ _).symm.trans H; rw [hy181]; with_reducible exact H2_) | (have H2_ := (Option.bind_some _ _).symm.trans H; with_reducible exact H2_) | with_reducible exact H | (rw [hy181]; exact H) | exact H
                          have Ny181 := Aside0.mk hy181
                          clear hy181
                          obtain ⟨y184, hy184⟩ : ∃ y_ : List (List Int), y_ = (([y181] : List (List Int))) := ⟨_, rfl⟩
                          replace H : (if x7_2.length + y184.length < 5864062014805 then (solve_Solve.l0 k2 l1 ((rd_L1 l0 0).length : Int) (x7_2 ++ y184) l0 (l0.length : Int) (wrap64 (x35_2 + 1))) else (none)) = some (r1, r2) := by first | (rw [hy184]; with_reducible exact H) | (have H2_ := (Option.bind_some _ _).symm.trans H; rw [hy184]; with_reducible exact H2_) | (have H2_ := (Option.bind_some _ _).symm.trans H; with_reducible exact H2_) | with_reducible exact H | (rw [hy184]; exact H) | exact H
                          have Ny184 := Aside0.mk hy184
                          clear hy184
                          by_cases c17 : x7_2.length + y184.length < 5864062014805
                          · rw [if_pos c17] at H
                            have LMc17 := Aside0.mk c17
                            clear c17
                            obtain ⟨y187, hy187⟩ : ∃ y_ : List (List Int), y_ = (x7_2 ++ y184) := ⟨_, rfl⟩
                            replace H : (solve_Solve.l0 k2 l1 ((rd_L1 l0 0).length : Int) y187 l0 (l0.length : Int) (wrap64 (x35_2 + 1))) = some (r1, r2) := by first | (rw [hy187]; with_reducible exact H) | (have H2_ := (Option.bind_some _ _).symm.trans H; rw [hy187]; with_reducible exact H2_) | (have H2_ := (Option.bind_some _ _).symm.trans H; with_reducible exact H2_) | with_reducible exact H | (rw [hy187]; exact H) | exact H
                            have Ny187 := Aside0.mk hy187
                            clear hy187
                            have H' := Aside0.mk H
                            clear H
                            have p173 : 0 ≤ (x35_2 : Int) := of_decide_eq_true (by first | (with_reducible assumption) | assumption)
                            have q173 : x35_2 < (l0.length : Int) := of_decide_eq_true (by first | (with_reducible assumption) | assumption)
                            obtain ⟨ad173, A173_0, c173_0, e173, hx173_0, hl173_0, hi173_0⟩ := at_L1 HR0.out x35_2 p173 q173
                            obtain rfl : ad172 = ad173 := (by injection e173)
                            (try replace hx173_0 := (HB.out.cell (World.block_lt_of_cell? w _ hx173_0)).trans hx173_0)
                            have HR173_0 := Aside0.mk hi173_0
                            have HC173_0 := Aside0.mk hl173_0
                            clear hi173_0 hl173_0
                            replace p173 := eq_true p173
                            replace q173 := eq_true q173
                            obtain ⟨Ao18, co18, eo18⟩ := Kd.N_slice HO_7.out
                            subst eo18
                            try go_wp2
                            have n0_ := Aside0.mk (Kd.N_drew HO_7.out)
                            have n1_ := Aside0.mk (below_drew1 HB.out)
                            clear HO_7
                            clear HB
                            have HO_7 := n0_
                            have HB := n1_
                            clear n0_ n1_
                            have p177 : 0 ≤ (x35_2 : Int) := of_decide_eq_true (by first | (with_reducible assumption) | assumption)
                            have q177 : x35_2 < (l1.length : Int) := of_decide_eq_true (by first | (with_reducible assumption) | assumption)
                            obtain ⟨ad177, e177, hx177_0⟩ := Kd.at_int HR1.out x35_2 p177 q177
                            have hw177_0 := hx177_0
                            cases e177
                            (try replace hx177_0 := (HB.out.cell (World.block_lt_of_cell? w _ hx177_0)).trans hx177_0)
                            replace p177 := eq_true p177
                            replace q177 := eq_true q177
                            refine start_ (n := 12) (S := fun w' => w'.cell? (ad177.add (x35_2).toNat) = some (.int .u64 (rd l1 x35_2))) (ds := []) #[false, false, false, false, false, false, false, false, false, false, false, false] (by kernel_rfl) rfl rfl (((HB.out.cell (World.block_lt_of_cell? w _ hw177_0)).trans hw177_0)) (fun hHeld => ?_); refine with_tabW solve_Solve.tab10 solve_Solve.bits10 (fun HT_ HW_ => ?_)
                            generalize wr.drew = w19 at HO_7 HB hx177_0 hHeld ⊢
                            refine pure_ (i := 0) (N := some 40) (v := ?_) (a' := ?_) #[true, false, false, false, false, false, false, false, false, false, false, false] rfl rfl (any_of HT_.out (by kernel_rfl)) (fun _ _ _ h => h) (Or.inl ⟨by rfl, ?_⟩) ?_ ?_
                            rotate_left
                            · intro w'
                              go_simp
                              with_reducible rfl
                            rotate_left
                            · simp only [Act.put, List.setIfInBounds_toArray, List.set_cons_zero, List.set_cons_succ, i64_w, i32_w]
                              rfl
                            refine pure_ (i := 1) (N := some 41) (v := ?_) (a' := ?_) #[true, true, false, false, false, false, false, false, false, false, false, false] rfl rfl (any_of HT_.out (by kernel_rfl)) (fun _ _ _ h => h) (Or.inl ⟨by rfl, ?_⟩) ?_ ?_
                            rotate_left
                            · intro w'
                              go_simp
                              with_reducible rfl
                            rotate_left
                            · simp only [Act.put, List.setIfInBounds_toArray, List.set_cons_zero, List.set_cons_succ, i64_w, i32_w]
                              rfl
                            refine pure_ (i := 3) (N := some 43) (v := ?_) (a' := ?_) #[true, true, false, true, false, false, false, false, false, false, false, false] rfl rfl (any_of HT_.out (by kernel_rfl)) (fun _ _ _ h => h) (Or.inl ⟨by rfl, ?_⟩) ?_ ?_
                            rotate_left
                            · intro w'
                              go_simp
                              with_reducible rfl
                            rotate_left
                            · simp only [Act.put, List.setIfInBounds_toArray, List.set_cons_zero, List.set_cons_succ, i64_w, i32_w]
                              rfl
                            refine pure_ (i := 4) (N := some 44) (v := ?_) (a' := ?_) #[true, true, false, true, true, false, false, false, false, false, false, false] rfl rfl (any_of HT_.out (by kernel_rfl)) (fun _ _ _ h => h) (Or.inl ⟨by rfl, ?_⟩) ?_ ?_
                            rotate_left
                            · intro w'
                              go_simp
                              with_reducible rfl
                            rotate_left
                            · simp only [Act.put, List.setIfInBounds_toArray, List.set_cons_zero, List.set_cons_succ, i64_w, i32_w]
                              rfl
                            refine pure_ (i := 5) (N := some 45) (v := ?_) (a' := ?_) #[true, true, false, true, true, true, false, false, false, false, false, false] rfl rfl (any_of HT_.out (by kernel_rfl)) (fun _ _ _ h => h) (Or.inl ⟨by rfl, ?_⟩) ?_ ?_
                            rotate_left
                            · intro w'
                              go_simp
                              with_reducible rfl
                            rotate_left
                            · simp only [Act.put, List.setIfInBounds_toArray, List.set_cons_zero, List.set_cons_succ, i64_w, i32_w]
                              rfl
                            refine take_ (i := 6) (N := some 46) (v := ?_) (a' := ?_) #[true, true, false, true, true, true, true, false, false, false, false, false] rfl rfl (take_ofW HT_.out HW_.out (by kernel_rfl)) (fun _ _ _ h => h) (Or.inl ⟨by rfl, ?_⟩) hHeld ?_ ?_
                            rotate_left
                            · intro w' s0
                              go_simp
                              with_reducible rfl
                            rotate_left
                            · simp only [Act.put, List.setIfInBounds_toArray, List.set_cons_zero, List.set_cons_succ, i64_w, i32_w]
                              rfl
                            refine join_ (σ := Value × Value) 4 #[true, true, true, true, true, true, true, true, false, false, false, false] (fun s_ => [(42, s_.1), (47, s_.2)]) (fun s_ w' => (w'.cell? (ad177.add (x35_2).toNat) = some (.int .u64 (rd l1 x35_2))) ∧ (Kd.R (Kd.int .u64) 36 w' w.heap.size (fun k_ => some k_ ≠ (s_.2 : Value).ownBlock) s_.1 t174) ∧ (Kd.R (Kd.int .u64) 36 w' w.heap.size (fun k_ => some k_ ≠ (s_.1 : Value).ownBlock) s_.2 y178) ∧ (Kd.N (Kd.slice 36 (Kd.int .u64)) 30 w' w.heap.size (fun k_ => some k_ ≠ (s_.1 : Value).ownBlock ∧ some k_ ≠ (s_.2 : Value).ownBlock) (.slice Ao18 x7_2.length co18) x7_2) ∧ (Below w.heap.size w w')) ?_ ?_
                            rotate_left
                            · intro hCont
                              refine two_ (i := 2) (j := 7) (Ni := some 42) (Nj := some 47) #[true, true, true, true, true, true, true, false, false, false, false, false] #[true, true, false, true, true, true, true, true, false, false, false, false] rfl rfl rfl rfl (two_of HT_.out (by kernel_rfl)) (by decide) (by decide) (fun K hK => ?_) (fun K hK => ?_)
                              · skip
                                refine goes_ Try.func23 (by kernel_rfl) rfl #[.slice A173_0 (rd_L1 l0 x35_2).length c173_0] (by rfl) rfl rfl (by (try simp only [List.map_toArray, List.map_cons, List.map_nil]); first | done | rfl | (simp only [List.length_drop, List.length_take]; rfl)) ?_
                                with_reducible refine (slices_Clone_uint64_uint64.calls _ _ (rd_L1 l0 x35_2) t174 _ ?side1 ?side2 A14.out).mono ?_
                                (case side1 => repeat (first | exact (Kd.C_below HR173_0.out HB.out) | (with_reducible refine Kd.C_alloc ?_ _) | (with_reducible refine Kd.C_drewN ?_ _) | (with_reducible refine Kd.C_drew ?_)))
                                (case side2 => exact HC173_0.out)
                                rintro e w20 ⟨v175, rfl, ho0, hb⟩
                                refine ⟨_, rfl, ?_⟩
                                have n0_ := Aside0.mk (Kd.N_elder' (by (with_reducible repeat (first | apply Kd.N_alloc | apply Kd.N_drewN | apply Kd.N_drew)); exact HO_7.out) (Kd.R_base ho0) hb)
                                have n1_ := Aside0.mk (Kd.R_lower ho0 (below_size (by repeat (first | (with_reducible first | exact HB.out | apply below_alloc | apply pw_below_drewN | apply below_drew1) | exact HB.out))))
                                have n2_ := Aside0.mk (below_step (by repeat (first | (with_reducible first | exact HB.out | apply below_alloc | apply pw_below_drewN | apply below_drew1) | exact HB.out)) hb)
                                clear HO_7
                                clear HB
                                have HO_7 := n0_
                                have HO176 := n1_
                                have HB := n2_
                                clear n0_ n1_ n2_
                                (try clear hb)
                                (try clear hb2)
                                (try clear hk)
                                (try clear hi)
                                (try clear ho0)
                                refine hK.out _ _ (((HB.out.cell (World.block_lt_of_cell? w _ hw177_0)).trans hw177_0)) (fun hHeld => ?_)
                                clear hK K
                                refine norm_ (a' := ?_) ?_ ?_
                                rotate_left
                                · show Act.put _ (some 42) _ = _
                                  simp only [Act.put, List.setIfInBounds_toArray, List.set_cons_zero, List.set_cons_succ, i64_w, i32_w]
                                  rfl
                                refine one_ (i := 7) (N := some 47) #[true, true, true, true, true, true, true, true, false, false, false, false] rfl rfl (one_of HT_.out (by kernel_rfl)) (by decide) (fun K hK => ?_)
                                refine Kd.R_lit_step (Kd.int .u64) _ 36 ?hg (N := 47) ?hd (xs := ([rd l1 x35_2] : List Int)) (inner := [.int .u64 (rd l1 x35_2)]) (ok := fun _ => True) (okp := fun _ => True) ?hr ?hp (fun _ hk => hk) trivial (Below.refl _ _) (Nat.le_refl _) (by simp) ?_; (case hd => rfl); (case hg => rfl); (case hr => first | (go_simp; done) | (go_simp; rfl)); (case hp => exact (Reps.one (show Kd.M (Kd.int .u64) _ _ _ (rd l1 x35_2) [.int .u64 (rd l1 x35_2)] from rfl) (Reps.none _ _)))
                                intro v179 w21 ho22 hb hg_ hnew_
                                clear hg_ hnew_
                                (first | rw [← Ny178.out] at ho22 | (simp only [Int.reduceToNat] at ho22; rw [← Ny178.out] at ho22))
                                have n0_ := Aside0.mk (Kd.N_elder' (by (with_reducible repeat (first | apply Kd.N_alloc | apply Kd.N_drewN | apply Kd.N_drew)); exact HO_7.out) (Kd.R_base ho22) hb)
                                have n1_ := Aside0.mk (Kd.R_elder' (by (with_reducible repeat (first | apply Kd.R_alloc | apply Kd.R_drewN | apply Kd.R_drew)); exact HO176.out) (Kd.R_base ho22) hb)
                                have n2_ := Aside0.mk (Kd.R_lower (Kd.R_new' ho22 (Kd.R_lt (by (with_reducible repeat (first | apply Kd.R_alloc | apply Kd.R_drewN | apply Kd.R_drew)); exact HO176.out))) (below_size (by repeat (first | (with_reducible first | exact HB.out | apply below_alloc | apply pw_below_drewN | apply below_drew1) | exact HB.out))))
                                have n3_ := Aside0.mk (below_step (by repeat (first | (with_reducible first | exact HB.out | apply below_alloc | apply pw_below_drewN | apply below_drew1) | exact HB.out)) hb)
                                clear HO_7
                                clear HO176
                                clear HB
                                have HO_7 := n0_
                                have HO176 := n1_
                                have HO180 := n2_
                                have HB := n3_
                                clear n0_ n1_ n2_ n3_
                                clear hb ho22
                                refine hK.out _ _ (((HB.out.cell (World.block_lt_of_cell? w _ hw177_0)).trans hw177_0)) (fun hHeld => ?_)
                                clear hK K
                                refine norm_ (a' := ?_) ?_ ?_
                                rotate_left
                                · show Act.put _ (some 47) _ = _
                                  simp only [Act.put, List.setIfInBounds_toArray, List.set_cons_zero, List.set_cons_succ, i64_w, i32_w]
                                  rfl
                                exact norm_ (by simp only [putAll, Act.put, List.setIfInBounds_toArray, List.set_cons_zero, List.set_cons_succ]) (hCont (v175, v179) _ ⟨hHeld, (by (with_reducible repeat (first | apply Kd.R_alloc | apply Kd.R_drewN | apply Kd.R_drew)); exact Kd.R_mono HO176.out (fun _ hk => hk.2)), (by (with_reducible repeat (first | apply Kd.R_alloc | apply Kd.R_drewN | apply Kd.R_drew)); exact Kd.R_mono HO180.out (fun _ hk => hk.2)), (by (with_reducible repeat (first | apply Kd.N_alloc | apply Kd.N_drewN | apply Kd.N_drew)); exact Kd.N_mono HO_7.out (fun _ hk => ⟨hk.1.2, hk.2⟩)), (by repeat (first | (with_reducible first | exact HB.out | apply below_alloc | apply pw_below_drewN | apply below_drew1) | exact HB.out))⟩)
                              · skip
                                refine Kd.R_lit_step (Kd.int .u64) _ 36 ?hg (N := 47) ?hd (xs := ([rd l1 x35_2] : List Int)) (inner := [.int .u64 (rd l1 x35_2)]) (ok := fun _ => True) (okp := fun _ => True) ?hr ?hp (fun _ hk => hk) trivial (Below.refl _ _) (Nat.le_refl _) (by simp) ?_; (case hd => rfl); (case hg => rfl); (case hr => first | (go_simp; done) | (go_simp; rfl)); (case hp => exact (Reps.one (show Kd.M (Kd.int .u64) _ _ _ (rd l1 x35_2) [.int .u64 (rd l1 x35_2)] from rfl) (Reps.none _ _)))
                                intro v179 w20 ho21 hb hg_ hnew_
                                clear hg_ hnew_
                                (first | rw [← Ny178.out] at ho21 | (simp only [Int.reduceToNat] at ho21; rw [← Ny178.out] at ho21))
                                have n0_ := Aside0.mk (Kd.N_elder' (by (with_reducible repeat (first | apply Kd.N_alloc | apply Kd.N_drewN | apply Kd.N_drew)); exact HO_7.out) (Kd.R_base ho21) hb)
                                have n1_ := Aside0.mk (Kd.R_lower ho21 (below_size (by repeat (first | (with_reducible first | exact HB.out | apply below_alloc | apply pw_below_drewN | apply below_drew1) | exact HB.out))))
                                have n2_ := Aside0.mk (below_step (by repeat (first | (with_reducible first | exact HB.out | apply below_alloc | apply pw_below_drewN | apply below_drew1) | exact HB.out)) hb)
                                clear HO_7
                                clear HB
                                have HO_7 := n0_
                                have HO180 := n1_
                                have HB := n2_
                                clear n0_ n1_ n2_
                                clear hb ho21
                                refine hK.out _ _ (((HB.out.cell (World.block_lt_of_cell? w _ hw177_0)).trans hw177_0)) (fun hHeld => ?_)
                                clear hK K
                                refine norm_ (a' := ?_) ?_ ?_
                                rotate_left
                                · show Act.put _ (some 47) _ = _
                                  simp only [Act.put, List.setIfInBounds_toArray, List.set_cons_zero, List.set_cons_succ, i64_w, i32_w]
                                  rfl
                                refine one_ (i := 2) (N := some 42) #[true, true, true, true, true, true, true, true, false, false, false, false] rfl rfl (one_of HT_.out (by kernel_rfl)) (by decide) (fun K hK => ?_)
                                refine goes_ Try.func23 (by kernel_rfl) rfl #[.slice A173_0 (rd_L1 l0 x35_2).length c173_0] (by rfl) rfl rfl (by (try simp only [List.map_toArray, List.map_cons, List.map_nil]); first | done | rfl | (simp only [List.length_drop, List.length_take]; rfl)) ?_
                                with_reducible refine (slices_Clone_uint64_uint64.calls _ _ (rd_L1 l0 x35_2) t174 _ ?side1 ?side2 A14.out).mono ?_
                                (case side1 => repeat (first | exact (Kd.C_below HR173_0.out HB.out) | (with_reducible refine Kd.C_alloc ?_ _) | (with_reducible refine Kd.C_drewN ?_ _) | (with_reducible refine Kd.C_drew ?_)))
                                (case side2 => exact HC173_0.out)
                                rintro e w22 ⟨v175, rfl, ho0, hb⟩
                                refine ⟨_, rfl, ?_⟩
                                have n0_ := Aside0.mk (Kd.N_elder' (by (with_reducible repeat (first | apply Kd.N_alloc | apply Kd.N_drewN | apply Kd.N_drew)); exact HO_7.out) (Kd.R_base ho0) hb)
                                have n1_ := Aside0.mk (Kd.R_elder' (by (with_reducible repeat (first | apply Kd.R_alloc | apply Kd.R_drewN | apply Kd.R_drew)); exact HO180.out) (Kd.R_base ho0) hb)
                                have n2_ := Aside0.mk (Kd.R_lower (Kd.R_new' ho0 (Kd.R_lt (by (with_reducible repeat (first | apply Kd.R_alloc | apply Kd.R_drewN | apply Kd.R_drew)); exact HO180.out))) (below_size (by repeat (first | (with_reducible first | exact HB.out | apply below_alloc | apply pw_below_drewN | apply below_drew1) | exact HB.out))))
                                have n3_ := Aside0.mk (below_step (by repeat (first | (with_reducible first | exact HB.out | apply below_alloc | apply pw_below_drewN | apply below_drew1) | exact HB.out)) hb)
                                clear HO_7
                                clear HO180
                                clear HB
                                have HO_7 := n0_
                                have HO180 := n1_
                                have HO176 := n2_
                                have HB := n3_
                                clear n0_ n1_ n2_ n3_
                                (try clear hb)
                                (try clear hb2)
                                (try clear hk)
                                (try clear hi)
                                (try clear ho0)
                                refine hK.out _ _ (((HB.out.cell (World.block_lt_of_cell? w _ hw177_0)).trans hw177_0)) (fun hHeld => ?_)
                                clear hK K
                                refine norm_ (a' := ?_) ?_ ?_
                                rotate_left
                                · show Act.put _ (some 42) _ = _
                                  simp only [Act.put, List.setIfInBounds_toArray, List.set_cons_zero, List.set_cons_succ, i64_w, i32_w]
                                  rfl
                                exact norm_ (by simp only [putAll, Act.put, List.setIfInBounds_toArray, List.set_cons_zero, List.set_cons_succ]) (hCont (v175, v179) _ ⟨hHeld, (by (with_reducible repeat (first | apply Kd.R_alloc | apply Kd.R_drewN | apply Kd.R_drew)); exact Kd.R_mono HO176.out (fun _ hk => hk.2)), (by (with_reducible repeat (first | apply Kd.R_alloc | apply Kd.R_drewN | apply Kd.R_drew)); exact Kd.R_mono HO180.out (fun _ hk => hk.2)), (by (with_reducible repeat (first | apply Kd.N_alloc | apply Kd.N_drewN | apply Kd.N_drew)); exact Kd.N_mono HO_7.out (fun _ hk => ⟨hk.2, hk.1.2⟩)), (by repeat (first | (with_reducible first | exact HB.out | apply below_alloc | apply pw_below_drewN | apply below_drew1) | exact HB.out))⟩)
                            rintro ⟨v175, v179⟩ w23 ⟨hS_, h0_, h1_, h2_, h3_⟩
                            have n0_ : Aside0 (Kd.R (Kd.int .u64) 36 w23 w.heap.size (fun k_ => some k_ ≠ (v179 : Value).ownBlock) v175 t174) := ⟨h0_⟩
                            have n1_ : Aside0 (Kd.R (Kd.int .u64) 36 w23 w.heap.size (fun k_ => some k_ ≠ (v175 : Value).ownBlock) v179 y178) := ⟨h1_⟩
                            have n2_ : Aside0 (Kd.N (Kd.slice 36 (Kd.int .u64)) 30 w23 w.heap.size (fun k_ => some k_ ≠ (v175 : Value).ownBlock ∧ some k_ ≠ (v179 : Value).ownBlock) (.slice Ao18 x7_2.length co18) x7_2) := ⟨h2_⟩
                            have n3_ : Aside0 (Below w.heap.size w w23) := ⟨h3_⟩
                            clear HO_7
                            clear HB
                            clear h0_ h1_ h2_ h3_
                            have HO176 := n0_
                            have HO180 := n1_
                            have HO_7 := n2_
                            have HB := n3_
                            clear n0_ n1_ n2_ n3_
                            have hHeld : w23.cell? (ad177.add (x35_2).toNat) = some (.int .u64 (rd l1 x35_2)) := hS_
                            obtain ⟨Ao25, co25, eo25⟩ := Kd.R_slice HO180.out
                            (first | subst eo25 | (injection eo25 with f1_ f2_ f3_; have f4_ := f1_.symm; have f5_ := f3_.symm; clear f1_ f2_ f3_; subst f4_; subst f5_))
                            refine norm_ (a' := ?_) ?_ ?_
                            rotate_left
                            · simp only [putAll, Act.put, List.setIfInBounds_toArray, List.set_cons_zero, List.set_cons_succ]
                              rfl
                            refine one_ (i := 8) (N := some 48) #[true, true, true, true, true, true, true, true, true, false, false, false] rfl rfl (one_of HT_.out (by kernel_rfl)) (by decide) (fun K hK => ?_)
                            refine Kd.R_append_rows_step (Kd.int .u64) (w0 := w) w.heap.size (by rfl) (.tmp 42) (.tmp 47) 30 36 (.int .u64 0) 8 rfl Try.underlying30 info36 rfl (by decide) (by omega) v175 t174 y178 _ _ _ (fun k_ => some k_ ≠ (.slice Ao25 y178.length co25 : Value).ownBlock) (fun _ => False) rfl rfl ?aO ?aR (fun _ _ h => h) (fun _ h => h.elim) ?aF ?aB ?aS ?aL ?_
                            (case aR => repeat (first | exact (Kd.R_reads' HO180.out).2.2 | (with_reducible refine Kd.C_alloc ?_ _) | (with_reducible refine Kd.C_drewN ?_ _) | (with_reducible refine Kd.C_drew ?_)))
                            (case aB => exact (by repeat (first | (with_reducible first | exact HB.out | apply below_alloc | apply pw_below_drewN | apply below_drew1) | exact HB.out)))
                            (case aF => exact (fun k_ hk => Kd.fresh' (Kd.R_lt (by (with_reducible repeat (first | apply Kd.R_alloc | apply Kd.R_drewN | apply Kd.R_drew)); exact HO180.out)) k_ hk))
                            (case aO => exact (by (with_reducible repeat (first | apply Kd.R_alloc | apply Kd.R_drewN | apply Kd.R_drew)); exact HO176.out))
                            (case aS => exact (below_size (by repeat (first | (with_reducible first | exact HB.out | apply below_alloc | apply pw_below_drewN | apply below_drew1) | exact HB.out))))
                            (case aL => have := LMc16.out; omega)
                            intro v182 w24 ho hb hg hat
                            rw [← Ny181.out] at ho
                            have n0_ := Aside0.mk (Kd.N_afterv (ok := (fun k_ => some k_ ≠ (.slice Ao25 y178.length co25 : Value).ownBlock)) (by (with_reducible repeat (first | apply Kd.N_alloc | apply Kd.N_drewN | apply Kd.N_drew)); exact Kd.N_mono HO_7.out (fun _ hk => ⟨hk.2, hk.1⟩)) hg hat)
                            have n1_ := Aside0.mk (Kd.R_after (ok := (fun _ => True)) (by (with_reducible repeat (first | apply Kd.R_alloc | apply Kd.R_drewN | apply Kd.R_drew)); exact Kd.R_mono HO180.out (fun _ hk => ⟨trivial, hk⟩)) hg hat)
                            have n2_ := Aside0.mk (hb)
                            have n3_ := Aside0.mk (ho)
                            clear HO_7
                            clear HO180
                            clear HB
                            clear HO176
                            have HO_7 := n0_
                            have HO180 := n1_
                            have HB := n2_
                            have HO183 := n3_
                            clear n0_ n1_ n2_ n3_
                            clear ho hb hg hat
                            obtain ⟨Ao26, co26, eo26⟩ := Kd.R_slice HO183.out
                            (first | subst eo26 | (injection eo26 with f1_ f2_ f3_; have f4_ := f1_.symm; have f5_ := f3_.symm; clear f1_ f2_ f3_; subst f4_; subst f5_))
                            refine hK.out _ _ (((HB.out.cell (World.block_lt_of_cell? w _ hw177_0)).trans hw177_0)) (fun hHeld => ?_)
                            clear hK K
                            refine norm_ (a' := ?_) ?_ ?_
                            rotate_left
                            · show Act.put _ (some 48) _ = _
                              simp only [Act.put, List.setIfInBounds_toArray, List.set_cons_zero, List.set_cons_succ, i64_w, i32_w]
                              rfl
                            refine one_ (i := 9) (N := some 49) #[true, true, true, true, true, true, true, true, true, true, false, false] rfl rfl (one_of HT_.out (by kernel_rfl)) (by decide) (fun K hK => ?_)
                            refine Kd.N_lit_step (Kd.slice 36 (Kd.int .u64)) _ 30 ?hg (N' := 49) ?hd (xs := ([y181] : List (List Int))) (inner := [.slice Ao26 y181.length co26]) (ok := (fun k_ => some k_ ≠ (.slice Ao18 x7_2.length co18 : Value).ownBlock ∧ some k_ ≠ (.slice Ao25 y178.length co25 : Value).ownBlock)) (okp := (fun k_ => some k_ ≠ (.slice Ao18 x7_2.length co18 : Value).ownBlock ∧ some k_ ≠ (.slice Ao25 y178.length co25 : Value).ownBlock)) ?hr ?hp (fun _ hk => hk) ((show ∀ k_, w24.heap.size ≤ k_ → (fun k_ => some k_ ≠ (.slice Ao18 x7_2.length co18 : Value).ownBlock ∧ some k_ ≠ (.slice Ao25 y178.length co25 : Value).ownBlock) k_ from fun k_ hk => ⟨Kd.fresh' (Kd.N_lt (by (with_reducible repeat (first | apply Kd.N_alloc | apply Kd.N_drewN | apply Kd.N_drew)); exact HO_7.out)) k_ hk, Kd.fresh' (Kd.R_lt (by (with_reducible repeat (first | apply Kd.R_alloc | apply Kd.R_drewN | apply Kd.R_drew)); exact HO180.out)) k_ hk⟩) _ (Nat.le_refl _)) (Below.refl _ _) (Nat.le_refl _) (by simp) ?_; (case hd => rfl); (case hg => rfl); (case hr => first | (go_simp; done) | (go_simp; rfl)); (case hp => exact (Reps.one (show Kd.FK (Kd.slice 36 (Kd.int .u64)) _ _ y181 [.slice Ao26 y181.length co26] from (Kd.FK_slice_mk (Kd.R_reads' (Kd.R_mono (ok' := (fun k_ => some k_ ≠ (.slice Ao18 x7_2.length co18 : Value).ownBlock ∧ some k_ ≠ (.slice Ao25 y178.length co25 : Value).ownBlock)) (Kd.R_apart' (HO183.out) (Kd.N_typed HO_7.out) (by decide)) (fun k_ hk => ⟨hk.2, hk.1⟩))).2.1 (Kd.R_F (Kd.R_mono (ok' := (fun k_ => some k_ ≠ (.slice Ao18 x7_2.length co18 : Value).ownBlock ∧ some k_ ≠ (.slice Ao25 y178.length co25 : Value).ownBlock)) (Kd.R_apart' (HO183.out) (Kd.N_typed HO_7.out) (by decide)) (fun k_ hk => ⟨hk.2, hk.1⟩))))) (Reps.none _ _)))
                            intro v185 w27 ho28 hb hg_ hnew_
                            clear hg_ hnew_
                            (first | rw [← Ny184.out] at ho28 | (simp only [Int.reduceToNat] at ho28; rw [← Ny184.out] at ho28))
                            have n0_ := Aside0.mk (Kd.N_elder' (by (with_reducible repeat (first | apply Kd.N_alloc | apply Kd.N_drewN | apply Kd.N_drew)); exact HO_7.out) (by first | exact Kd.N_base ho28 | exact Kd.S_base ho28) hb)
                            have n1_ := Aside0.mk (Kd.R_below (by (with_reducible repeat (first | apply Kd.R_alloc | apply Kd.R_drewN | apply Kd.R_drew)); exact HO180.out) hb)
                            have n2_ := Aside0.mk (Kd.N_lower ho28 (below_size (by repeat (first | (with_reducible first | exact HB.out | apply below_alloc | apply pw_below_drewN | apply below_drew1) | exact HB.out))))
                            have n3_ := Aside0.mk (below_step (by repeat (first | (with_reducible first | exact HB.out | apply below_alloc | apply pw_below_drewN | apply below_drew1) | exact HB.out)) hb)
                            clear HO_7
                            clear HO180
                            clear HB
                            clear HO183
                            have HO_7 := n0_
                            have HO180 := n1_
                            have HO186 := n2_
                            have HB := n3_
                            clear n0_ n1_ n2_ n3_
                            clear hb ho28
                            obtain ⟨Ao30, co30, eo30⟩ := Kd.N_slice HO186.out
                            (first | subst eo30 | (injection eo30 with f1_ f2_ f3_; have f4_ := f1_.symm; have f5_ := f3_.symm; clear f1_ f2_ f3_; subst f4_; subst f5_))
                            refine hK.out _ _ (((HB.out.cell (World.block_lt_of_cell? w _ hw177_0)).trans hw177_0)) (fun hHeld => ?_)
                            clear hK K
                            refine norm_ (a' := ?_) ?_ ?_
                            rotate_left
                            · show Act.put _ (some 49) _ = _
                              simp only [Act.put, List.setIfInBounds_toArray, List.set_cons_zero, List.set_cons_succ, i64_w, i32_w]
                              rfl
                            refine one_ (i := 10) (N := some 50) #[true, true, true, true, true, true, true, true, true, true, true, false] rfl rfl (one_of HT_.out (by kernel_rfl)) (by decide) (fun K hK => ?_)
                            refine Kd.N_append_rows_step (Kd.slice 36 (Kd.int .u64)) (w0 := w) w.heap.size (by rfl) (.tmp 40) (.tmp 49) 22 30 (.slice none 0 0) 24 rfl Try.underlying22 info30 rfl (by decide) (by omega) (.slice Ao18 x7_2.length co18) x7_2 y184 _ _ _ (fun k_ => some k_ ≠ (.slice Ao25 y178.length co25 : Value).ownBlock) (fun k_ => ((fun k_ => some k_ ≠ (.slice Ao25 y178.length co25 : Value).ownBlock)) k_ ∧ some k_ ≠ (.slice Ao18 x7_2.length co18 : Value).ownBlock) rfl rfl ?aO ?aR (fun _ hk => hk) ?aF ?aB ?aS ?aL ?_
                            (case aR => exact (by skip; exact Kd.N_F (Kd.N_mono (ok' := (fun k_ => ((fun k_ => some k_ ≠ (.slice Ao25 y178.length co25 : Value).ownBlock)) k_ ∧ some k_ ≠ (.slice Ao18 x7_2.length co18 : Value).ownBlock)) (HO186.out) (fun k_ hk => ⟨hk.2, hk.1⟩))))
                            (case aB => exact (by repeat (first | (with_reducible first | exact HB.out | apply below_alloc | apply pw_below_drewN | apply below_drew1) | exact HB.out)))
                            (case aF => exact (fun k_ hk => Kd.fresh' (Kd.R_lt (by (with_reducible repeat (first | apply Kd.R_alloc | apply Kd.R_drewN | apply Kd.R_drew)); exact HO180.out)) k_ hk))
                            (case aO => exact (by (with_reducible repeat (first | apply Kd.N_alloc | apply Kd.N_drewN | apply Kd.N_drew)); exact Kd.N_mono HO_7.out (fun _ hk => hk.1.1)))
                            (case aS => exact (below_size (by repeat (first | (with_reducible first | exact HB.out | apply below_alloc | apply pw_below_drewN | apply below_drew1) | exact HB.out))))
                            (case aL => have := LMc17.out; omega)
                            intro v188 w29 ho hb hg hat
                            rw [← Ny187.out] at ho
                            have n0_ := Aside0.mk (Kd.R_over' (by (with_reducible repeat (first | apply Kd.R_alloc | apply Kd.R_drewN | apply Kd.R_drew)); exact HO180.out) (Kd.N_typed (by (with_reducible repeat (first | apply Kd.N_alloc | apply Kd.N_drewN | apply Kd.N_drew)); exact HO_7.out)) (by decide) hg)
                            have n1_ := Aside0.mk (Kd.N_afterv (ok := (fun k_ => some k_ ≠ (.slice Ao25 y178.length co25 : Value).ownBlock)) (by (with_reducible repeat (first | apply Kd.N_alloc | apply Kd.N_drewN | apply Kd.N_drew)); exact Kd.N_mono HO186.out (fun _ hk => ⟨hk.2, hk.1⟩)) hg hat)
                            have n2_ := Aside0.mk (hb)
                            have n3_ := Aside0.mk (ho)
                            clear HO180
                            clear HO186
                            clear HB
                            clear HO_7
                            have HO180 := n0_
                            have HO186 := n1_
                            have HB := n2_
                            have HO189 := n3_
                            clear n0_ n1_ n2_ n3_
                            clear ho hb hg hat
                            refine hK.out _ _ (((HB.out.cell (World.block_lt_of_cell? w _ hw177_0)).trans hw177_0)) (fun hHeld => ?_)
                            clear hK K
                            refine norm_ (a' := ?_) ?_ ?_
                            rotate_left
                            · show Act.put _ (some 50) _ = _
                              simp only [Act.put, List.setIfInBounds_toArray, List.set_cons_zero, List.set_cons_succ, i64_w, i32_w]
                              rfl
                            refine pure_ (i := 11) (N := some 7) (v := ?_) (a' := ?_) #[true, true, true, true, true, true, true, true, true, true, true, true] rfl rfl (any_of HT_.out (by kernel_rfl)) (fun _ _ _ h => h) (Or.inl ⟨by rfl, ?_⟩) ?_ ?_
                            rotate_left
                            · intro w'
                              go_simp
                              with_reducible rfl
                            rotate_left
                            · simp only [Act.put, List.setIfInBounds_toArray, List.set_cons_zero, List.set_cons_succ, i64_w, i32_w]
                              rfl
                            refine done_ (done_of HT_.out (by kernel_rfl)) ?_
                            try go_wp2
                            go_roundg k2
                            case measure => have := HJ2.out; have := HK2.out; omega
                            case rel => exact ⟨(y187), (wrap64 (x35_2 + 1)), (by first | rfl | (simp; done) | (simp [*]; done)), H', ⟨by have := HJ2.out; have := HK2.out; omega⟩, ⟨by (with_reducible repeat (first | apply Kd.N_alloc | apply Kd.N_drewN | apply Kd.N_drew)); exact Kd.N_mono HO189.out (fun _ hk => trivial)⟩, ⟨by repeat (first | (with_reducible first | exact HB.out | apply below_alloc | apply pw_below_drewN | apply below_drew1) | exact HB.out)⟩⟩
                          · rw [if_neg c17] at H
                            exact absurd H (by simp)
                        · rw [if_neg c16] at H
                          exact absurd H (by simp)
                      · rw [if_neg c15] at H
                        exact absurd H (by simp)
                    · rw [if_neg c13] at H
                      exact absurd H (by simp)
                  · rw [if_neg c12] at H
                    exact absurd H (by simp)
                · rw [if_neg c11] at H
                  have c11b0 : decide (x35_2 < (l0.length : Int)) = false := decide_eq_false c11
                  clear c11
                  replace H := Option.bind_eq_some_iff.mp H
                  obtain ⟨⟨t190, t191⟩, A310, H⟩ := H
                  replace H : (if 0 ≤ (t191.length : Int) then (if (t191.length : Int) ≤ (t190.length : Int) then ((some (t190.drop ((t191.length : Int) : Int).toNat : List (List Int))).bind fun y196 => (solve_Solve.l1 k2 ((rd_L1 l0 0).length : Int) t190 t191 y196 (y196.length : Int) 0)) else (none)) else (none)) = some (r1, r2) := H
                  have A31 := Aside0.mk A310
                  clear A310
                  by_cases c32 : 0 ≤ (t191.length : Int)
                  · rw [if_pos c32] at H
                    have c32b0 := eq_true c32
                    have c32b1 : decide (0 ≤ (t191.length : Int)) = true := decide_eq_true c32
                    clear c32
                    by_cases c33 : (t191.length : Int) ≤ (t190.length : Int)
                    · rw [if_pos c33] at H
                      have c33b0 := eq_true c33
                      have c33b1 : decide ((t191.length : Int) ≤ (t190.length : Int)) = true := decide_eq_true c33
                      clear c33
                      obtain ⟨y196, hy196⟩ : ∃ y_ : List (List Int), y_ = (t190.drop ((t191.length : Int) : Int).toNat) := ⟨_, rfl⟩
                      replace H : (solve_Solve.l1 k2 ((rd_L1 l0 0).length : Int) t190 t191 y196 (y196.length : Int) 0) = some (r1, r2) := by first | (rw [hy196]; with_reducible exact H) | (have H2_ := (Option.bind_some _ _).symm.trans H; rw [hy196]; with_reducible exact H2_) | (have H2_ := (Option.bind_some _ _).symm.trans H; with_reducible exact H2_) | with_reducible exact H | (rw [hy196]; exact H) | exact H
                      have Ny196 := Aside0.mk hy196
                      clear hy196
                      have H' := Aside0.mk H
                      clear H
                      obtain ⟨Ao34, co34, eo34⟩ := Kd.N_slice HO_7.out
                      subst eo34
                      go_wp2_with (first | ((with_reducible refine gate_callee (f := 21) rfl ?_); refine goesL_ (some 55) rfl rfl Try.func21 (by kernel_rfl) rfl #[.slice Ao34 x7_2.length co34, .int .i64 ((rd_L1 l0 0).length : Int)] rfl (by (try simp only [List.map_toArray, List.map_cons, List.map_nil]); first | done | rfl | (simp only [List.length_drop, List.length_take]; rfl)) ?_; (with_reducible refine (solve_clear.calls k2 _ _ x7_2 ((rd_L1 l0 0).length : Int) t190 t191 _ ?side1 ?side2 A31.out).mono ?_); (case side1 => repeat (first | exact (Kd.N_reads' HO_7.out).2.2 | (with_reducible refine Kd.C_alloc ?_ _) | (with_reducible refine Kd.C_drewN ?_ _) | (with_reducible refine Kd.C_drew ?_))); (case side2 => exact (Kd.N_reads' HO_7.out).2.1); rintro e w35 ⟨v192, v194, rfl, ho0, ho1, hb⟩; refine ⟨_, rfl, ?_⟩; have n0_ := Aside0.mk (Kd.N_mono (Kd.N_told (Kd.N_told (Kd.N_old (by (with_reducible repeat (first | apply Kd.N_alloc | apply Kd.N_drewN | apply Kd.N_drew)); exact HO_7.out) hb) (by first | exact Kd.N_base ho0 | exact Kd.S_base ho0)) (Kd.R_base ho1)) (fun _ h_ => h_.1)); have n1_ := Aside0.mk (Kd.N_lower (Kd.N_mono (ok' := fun k_ => some k_ ≠ (v194 : Value).ownBlock ∧ some k_ ≠ (.slice Ao34 x7_2.length co34 : Value).ownBlock) (Kd.S_N (Kd.S_bound (Kd.S_apart' ho0 (Kd.R_typed ho1) (by decide)))) (fun k_ hk_ => ⟨hk_.1.2, (Kd.fresh' (Kd.N_lt (by (with_reducible repeat (first | apply Kd.N_alloc | apply Kd.N_drewN | apply Kd.N_drew)); exact HO_7.out)) k_ hk_.2.1)⟩)) (below_size (by repeat (first | (with_reducible first | exact HB.out | apply below_alloc | apply pw_below_drewN | apply below_drew1) | exact HB.out)))); have n2_ := Aside0.mk (Kd.R_lower ho1 (below_size (by repeat (first | (with_reducible first | exact HB.out | apply below_alloc | apply pw_below_drewN | apply below_drew1) | exact HB.out)))); have n3_ := Aside0.mk (below_step (by repeat (first | (with_reducible first | exact HB.out | apply below_alloc | apply pw_below_drewN | apply below_drew1) | exact HB.out)) hb); clear HO_7; clear HB; have HO_7 := n0_; have HO193 := n1_; have HO195 := n2_; have HB := n3_; clear n0_ n1_ n2_ n3_; (try clear hb); (try clear hb2); (try clear hk); (try clear hi); (try clear ho0); (try clear ho1); obtain ⟨Ao36, co36, eo36⟩ := Kd.R_slice HO195.out; subst eo36; obtain ⟨Ao38, co38, eo38⟩ := Kd.N_slice HO193.out; subst eo38; have q37 : ((t191.length : Int) : Int) ≤ ((t190.length : Int) : Int) := of_decide_eq_true (by first | (with_reducible assumption) | assumption); obtain ⟨i037, hi037, _, hsz37, _⟩ := info_parts info30; have hroom37 : t190.length ≤ co38 := (Kd.N_reads' HO193.out).2.1; have hC37 : Kd.F (Kd.slice 36 (Kd.int .u64)) _ _ Ao38 t190.length t190 := (Kd.V_at (base := w.heap.size) (Kd.N_V HO193.out)).2.2; have q037 : (0 : Int) ≤ ((t191.length : Int) : Int) := of_decide_eq_true (by first | (with_reducible assumption) | assumption); have hcut37 := cut_from (P := Try.prog) 22 30 .i64 Try.underlying22 hi037 1 hsz37 Ao38 t190.length co38 (t191.length : Int) q037 q37; have hr37 := Kd.F_cut (m := ((t191.length : Int) : Int).toNat) (c := co38) hC37 (by omega) hroom37; obtain ⟨A37, hA37⟩ : ∃ A1, A1 = (if co38 = ((t191.length : Int) : Int).toNat then Ao38 else (Ao38 : Option Addr).map (·.add (((t191.length : Int) : Int).toNat * 1))) := ⟨_, rfl⟩; obtain ⟨c37, hc37⟩ : ∃ c1, c1 = co38 - ((t191.length : Int) : Int).toNat := ⟨_, rfl⟩; have hy37 : y196.length = t190.length - ((t191.length : Int) : Int).toNat := (by rw [Ny196.out, List.length_drop] <;> omega); rw [show (t190).drop ((t191.length : Int) : Int).toNat = y196 from Ny196.out.symm] at hr37; replace hr37 : Kd.F (Kd.slice 36 (Kd.int .u64)) _ _ A37 y196.length y196 := (by rw [hA37]; exact hr37); rw [← hy37, ← hA37, ← hc37] at hcut37; have HO200 := Aside0.mk (show Kd.V (Kd.slice 36 (Kd.int .u64)) 30 _ w.heap.size _ (.slice A37 y196.length c37) y196 from Kd.V_mk (by rw [hy37, hc37]; exact Nat.sub_le_sub_right hroom37 _) hr37); have HC200 := Aside0.mk (show y196.length ≤ c37 from by rw [hy37, hc37]; exact Nat.sub_le_sub_right hroom37 _); clear hr37 hC37 hroom37 hi037 hsz37 hc37; have KY37 := Aside0.mk hy37; have KA37 := Aside0.mk hA37; clear hy37 hA37; replace q37 := eq_true q37))
                      go_loopg [63] k2 (fun kq v63 w' => ∃ (x63_3 : Int), v63 = .int .i64 x63_3 ∧ Aside0 (solve_Solve.l1 kq ((rd_L1 l0 0).length : Int) t190 t191 y196 (y196.length : Int) x63_3 = some (r1, r2)) ∧ Aside0 (kq ≤ k2) ∧ Aside0 (Kd.N (Kd.slice 36 (Kd.int .u64)) 30 w' w.heap.size (fun k_ => some k_ ≠ ((.slice Ao36 t191.length co36) : Value).ownBlock) (.slice Ao38 t190.length co38) t190) ∧ Aside0 (Kd.R (Kd.int .i64) 3 w' w.heap.size (fun _ => True) (.slice Ao36 t191.length co36) t191) ∧ Aside0 (Kd.V (Kd.slice 36 (Kd.int .u64)) 30 w' w.heap.size (fun k_ => some k_ ≠ ((.slice Ao36 t191.length co36) : Value).ownBlock) (.slice A37 y196.length c37) y196) ∧ Aside0 (Below w.heap.size w w'))
                      case atStart => exact ⟨(0), (by first | rfl | (simp; done) | (simp [*]; done)), H', ⟨Nat.le_refl _⟩, ⟨by (with_reducible repeat (first | apply Kd.N_alloc | apply Kd.N_drewN | apply Kd.N_drew)); exact Kd.N_mono HO193.out (fun _ hk => hk.1)⟩, ⟨by (with_reducible repeat (first | apply Kd.R_alloc | apply Kd.R_drewN | apply Kd.R_drew)); exact HO195.out⟩, ⟨by (with_reducible repeat (first | apply Kd.V_alloc | apply Kd.V_drewN | apply Kd.V_drew)); exact Kd.V_mono HO200.out (fun _ hk => hk.1)⟩, ⟨by repeat (first | (with_reducible first | exact HB.out | apply below_alloc | apply pw_below_drewN | apply below_drew1) | exact HB.out)⟩⟩
                      case round =>
                        clear H'
                        try clear c1
                        try clear p1
                        try clear q1
                        try clear hx1
                        try clear qi1
                        try clear c2
                        try clear p2
                        try clear c3
                        try clear q3
                        try clear c5
                        try clear p6
                        try clear c8
                        try clear c9
                        try clear c9b0
                        try clear c9b1
                        try clear c9b2
                        try clear c10
                        try clear c10b0
                        try clear c10b1
                        try clear c11
                        try clear c11b0
                        try clear c12
                        try clear c12b0
                        try clear c13
                        try clear c13b0
                        try clear c14
                        try clear c15
                        try clear c15b0
                        try clear c16
                        try clear c17
                        try clear p17
                        try clear q17
                        try clear hx17
                        try clear qi17
                        try clear c20
                        try clear c21
                        try clear c23
                        try clear c32
                        try clear c32b0
                        try clear c32b1
                        try clear c33
                        try clear c33b0
                        try clear c33b1
                        try clear c37
                        try clear q37
                        try clear hx172_0
                        try clear hx173_0
                        try clear hx177_0
                        try clear p1
                        try clear p172
                        try clear p173
                        try clear p177
                        try clear p2
                        try clear q037
                        try clear q1
                        try clear q172
                        try clear q173
                        try clear q177
                        try clear q37
                        obtain ⟨x63_3, rfl, HA, HK3, HO_10, HO_11, HO_61, HB⟩ := hrel
                        cases gk with
                        | zero => exact absurd HA.out (by simp [solve_Solve.l1])
                        | succ k3 =>
                          have H := HA.out
                          clear HA
                          simp only [solve_Solve.l1] at H
                          by_cases c39 : x63_3 < (y196.length : Int)
                          · rw [if_pos c39] at H
                            have c39b0 : decide (x63_3 < (y196.length : Int)) = true := decide_eq_true c39
                            clear c39
                            by_cases c40 : 0 ≤ x63_3
                            · rw [if_pos c40] at H
                              have c40b0 : decide (0 ≤ x63_3) = true := decide_eq_true c40
                              clear c40
                              by_cases c41 : x63_3 < (y196.length : Int)
                              · rw [if_pos c41] at H
                                have c41b0 : decide (x63_3 < (y196.length : Int)) = true := decide_eq_true c41
                                clear c41
                                by_cases c42 : 0 ≤ ((rd_L1 l0 0).length : Int)
                                · rw [if_pos c42] at H
                                  have c42b0 : decide (0 ≤ ((rd_L1 l0 0).length : Int)) = true := decide_eq_true c42
                                  have c42b1 : decide (0 ≤ (rd_L1 l0 0).length) = true := decide_eq_true (by omega)
                                  clear c42
                                  by_cases c43 : ((rd_L1 l0 0).length : Int) < ((rd_L1 y196 x63_3).length : Int)
                                  · rw [if_pos c43] at H
                                    have c43b0 : decide (((rd_L1 l0 0).length : Int) < ((rd_L1 y196 x63_3).length : Int)) = true := decide_eq_true c43
                                    have c43b1 : decide ((rd_L1 l0 0).length < (rd_L1 y196 x63_3).length) = true := decide_eq_true (Int.ofNat_lt.mp c43)
                                    clear c43
                                    by_cases c44 : (rd (rd_L1 y196 x63_3) ((rd_L1 l0 0).length : Int)) = 0
                                    · rw [if_pos c44] at H
                                      have c44b0 : ((rd (rd_L1 y196 x63_3) ((rd_L1 l0 0).length : Int)) == 0) = true := beq_iff_eq.mpr c44
                                      have c44b1 : ((rd (rd_L1 y196 x63_3) ((rd_L1 l0 0).length : Int)) != 0) = false := bne_eq_false_iff_eq.mpr c44
                                      clear c44
                                      have H' := Aside0.mk H
                                      clear H
                                      have p201 : 0 ≤ (x63_3 : Int) := of_decide_eq_true (by first | (with_reducible assumption) | assumption)
                                      have q201 : x63_3 < (y196.length : Int) := of_decide_eq_true (by first | (with_reducible assumption) | assumption)
                                      obtain ⟨ad201, A201_0, c201_0, e201, hx201_0, hl201_0, hi201_0⟩ := at_L1 (Kd.V_reads' HO_61.out).2.2 x63_3 p201 q201
                                      cases e201
                                      obtain ⟨ce201, hce201, hMe201, hcc201⟩ := Kd.V_get HO_61.out [] x63_3 p201 (by first | exact q201 | exact of_decide_eq_true (by first | (with_reducible assumption) | assumption) | (have e_ := (Kd.V_reads' HO_61.out).1; omega))
                                      obtain ⟨ua201_0, uc201_0, rfl, ul201_0, ge201_0⟩ := Kd.FK_slice_open hMe201
                                      have hv201_0 := hcc201 0 _ rfl
                                      rw [Nat.add_zero, show ((Kd.slice 36 (Kd.int .u64))).sz = 1 from rfl, Nat.mul_one] at hv201_0
                                      replace hv201_0 := Option.some.inj (hv201_0.symm.trans hx201_0)
                                      injection hv201_0 with hva_ hvn_ hvc_
                                      rw [hva_] at ge201_0
                                      rw [hvc_] at ul201_0
                                      have HL201_0 := Aside0.mk (show Kd.V (Kd.int .u64) 36 _ w.heap.size _ _ (rd_L1 y196 x63_3) from Kd.V_mk ul201_0 ge201_0)
                                      clear hva_ hvn_ hvc_ ge201_0 ul201_0
                                      clear hcc201 hce201
                                      have HR201_0 := Aside0.mk hi201_0
                                      have HC201_0 := Aside0.mk hl201_0
                                      clear hi201_0 hl201_0
                                      replace p201 := eq_true p201
                                      replace q201 := eq_true q201
                                      have p202 : 0 ≤ (((rd_L1 l0 0).length : Int) : Int) := of_decide_eq_true (by first | (with_reducible assumption) | assumption)
                                      have q202 : ((rd_L1 l0 0).length : Int) < ((rd_L1 y196 x63_3).length : Int) := of_decide_eq_true (by first | (with_reducible assumption) | assumption)
                                      obtain ⟨ad202, e202, hx202_0⟩ := Kd.at_int (by repeat (first | (with_reducible exact HR201_0.out) | (with_reducible refine Kd.C_alloc ?_ _) | (with_reducible refine Kd.C_drewN ?_ _) | (with_reducible refine Kd.C_drew ?_) | exact HR201_0.out)) ((rd_L1 l0 0).length : Int) p202 q202
                                      cases e202
                                      (try simp only [Go.IntWalk.toNatUp] at hx202_0)
                                      replace p202 := eq_true p202
                                      replace q202 := eq_true q202
                                      go_wp2
                                      go_roundg k3
                                      case measure => have := HJ2.out; have := HK2.out; have := HK3.out; omega
                                      case rel => exact ⟨(wrap64 (x63_3 + 1)), (by first | rfl | (simp; done) | (simp [*]; done)), H', ⟨by have := HJ2.out; have := HK2.out; have := HK3.out; omega⟩, ⟨by (with_reducible repeat (first | apply Kd.N_alloc | apply Kd.N_drewN | apply Kd.N_drew)); exact HO_10.out⟩, ⟨by (with_reducible repeat (first | apply Kd.R_alloc | apply Kd.R_drewN | apply Kd.R_drew)); exact HO_11.out⟩, ⟨by (with_reducible repeat (first | apply Kd.V_alloc | apply Kd.V_drewN | apply Kd.V_drew)); exact HO_61.out⟩, ⟨by repeat (first | (with_reducible first | exact HB.out | apply below_alloc | apply pw_below_drewN | apply below_drew1) | exact HB.out)⟩⟩
                                    · rw [if_neg c44] at H
                                      have c44b0 : ((rd (rd_L1 y196 x63_3) ((rd_L1 l0 0).length : Int)) == 0) = false := beq_eq_false_iff_ne.mpr c44
                                      have c44b1 : ((rd (rd_L1 y196 x63_3) ((rd_L1 l0 0).length : Int)) != 0) = true := bne_iff_ne.mpr c44
                                      simp only [Option.some.injEq, Prod.mk.injEq] at H
                                      obtain ⟨rfl, rfl⟩ := H
                                      have p201 : 0 ≤ (x63_3 : Int) := of_decide_eq_true (by first | (with_reducible assumption) | assumption)
                                      have q201 : x63_3 < (y196.length : Int) := of_decide_eq_true (by first | (with_reducible assumption) | assumption)
                                      obtain ⟨ad201, A201_0, c201_0, e201, hx201_0, hl201_0, hi201_0⟩ := at_L1 (Kd.V_reads' HO_61.out).2.2 x63_3 p201 q201
                                      cases e201
                                      obtain ⟨ce201, hce201, hMe201, hcc201⟩ := Kd.V_get HO_61.out [] x63_3 p201 (by first | exact q201 | exact of_decide_eq_true (by first | (with_reducible assumption) | assumption) | (have e_ := (Kd.V_reads' HO_61.out).1; omega))
                                      obtain ⟨ua201_0, uc201_0, rfl, ul201_0, ge201_0⟩ := Kd.FK_slice_open hMe201
                                      have hv201_0 := hcc201 0 _ rfl
                                      rw [Nat.add_zero, show ((Kd.slice 36 (Kd.int .u64))).sz = 1 from rfl, Nat.mul_one] at hv201_0
                                      replace hv201_0 := Option.some.inj (hv201_0.symm.trans hx201_0)
                                      injection hv201_0 with hva_ hvn_ hvc_
                                      rw [hva_] at ge201_0
                                      rw [hvc_] at ul201_0
                                      have HL201_0 := Aside0.mk (show Kd.V (Kd.int .u64) 36 _ w.heap.size _ _ (rd_L1 y196 x63_3) from Kd.V_mk ul201_0 ge201_0)
                                      clear hva_ hvn_ hvc_ ge201_0 ul201_0
                                      clear hcc201 hce201
                                      have HR201_0 := Aside0.mk hi201_0
                                      have HC201_0 := Aside0.mk hl201_0
                                      clear hi201_0 hl201_0
                                      replace p201 := eq_true p201
                                      replace q201 := eq_true q201
                                      have p202 : 0 ≤ (((rd_L1 l0 0).length : Int) : Int) := of_decide_eq_true (by first | (with_reducible assumption) | assumption)
                                      have q202 : ((rd_L1 l0 0).length : Int) < ((rd_L1 y196 x63_3).length : Int) := of_decide_eq_true (by first | (with_reducible assumption) | assumption)
                                      obtain ⟨ad202, e202, hx202_0⟩ := Kd.at_int (by repeat (first | (with_reducible exact HR201_0.out) | (with_reducible refine Kd.C_alloc ?_ _) | (with_reducible refine Kd.C_drewN ?_ _) | (with_reducible refine Kd.C_drew ?_) | exact HR201_0.out)) ((rd_L1 l0 0).length : Int) p202 q202
                                      cases e202
                                      (try simp only [Go.IntWalk.toNatUp] at hx202_0)
                                      replace p202 := eq_true p202
                                      replace q202 := eq_true q202
                                      go_wp2
                                      go_ret2
                                      exact ⟨_, by first | rfl | (simp [errW_none, errW_some] <;> rfl) | (simp [*, errW_none, errW_some] <;> rfl), by first | exact Kd.R_nil _ _ _ _ _ | exact Kd.N_nil _ _ _ _ _ | exact Kd.V_nil _ _ _ _ _ | exact Kd.Q_nil _ _ _ _ _ | exact Kd.S_nil _ _ _ _ _, by repeat (first | (with_reducible first | exact HB.out | apply below_alloc | apply pw_below_drewN | apply below_drew1) | exact HB.out)⟩
                                  · rw [if_neg c43] at H
                                    exact absurd H (by simp)
                                · rw [if_neg c42] at H
                                  exact absurd H (by simp)
                              · rw [if_neg c41] at H
                                exact absurd H (by simp)
                            · rw [if_neg c40] at H
                              exact absurd H (by simp)
                          · rw [if_neg c39] at H
                            have c39b0 : decide (x63_3 < (y196.length : Int)) = false := decide_eq_false c39
                            clear c39
                            by_cases c45 : (t191.length : Int) < ((rd_L1 l0 0).length : Int)
                            · rw [if_pos c45] at H
                              have c45b0 : decide ((t191.length : Int) < ((rd_L1 l0 0).length : Int)) = true := decide_eq_true c45
                              have c45b1 : decide (t191.length < (rd_L1 l0 0).length) = true := decide_eq_true (Int.ofNat_lt.mp c45)
                              clear c45
                              simp only [Option.some.injEq, Prod.mk.injEq] at H
                              obtain ⟨rfl, rfl⟩ := H
                              go_wp2
                              go_ret2
                              exact ⟨_, by first | rfl | (simp [errW_none, errW_some] <;> rfl) | (simp [*, errW_none, errW_some] <;> rfl), by first | exact Kd.R_nil _ _ _ _ _ | exact Kd.N_nil _ _ _ _ _ | exact Kd.V_nil _ _ _ _ _ | exact Kd.Q_nil _ _ _ _ _ | exact Kd.S_nil _ _ _ _ _, by repeat (first | (with_reducible first | exact HB.out | apply below_alloc | apply pw_below_drewN | apply below_drew1) | exact HB.out)⟩
                            · rw [if_neg c45] at H
                              have c45b0 : decide ((t191.length : Int) < ((rd_L1 l0 0).length : Int)) = false := decide_eq_false c45
                              have c45b1 : decide (t191.length < (rd_L1 l0 0).length) = false := decide_eq_false (fun h => c45 (Int.ofNat_lt.mpr h))
                              clear c45
                              have H' := Aside0.mk H
                              clear H
                              go_wp2
                              go_loopg [14, 78] k3 (fun kq v14 v78 w' => ∃ (x14_4 : List Int) (x78_4 : Int), v78 = .int .i64 x78_4 ∧ Aside0 (solve_Solve.l2 kq ((rd_L1 l0 0).length : Int) t190 x14_4 ((rd_L1 l0 0).length : Int) x78_4 = some (r1, r2)) ∧ Aside0 (kq ≤ k3) ∧ Aside0 (Kd.N (Kd.slice 36 (Kd.int .u64)) 30 w' w.heap.size (fun k_ => some k_ ≠ (v14 : Value).ownBlock) (.slice Ao38 t190.length co38) t190) ∧ Aside0 (Kd.R (Kd.int .u64) 36 w' w.heap.size (fun _ => True) v14 x14_4) ∧ Aside0 (Below w.heap.size w w'))
                              case atStart => exact ⟨(([] : List Int)), (0), (by first | rfl | (simp; done) | (simp [*]; done)), H', ⟨Nat.le_refl _⟩, ⟨by (with_reducible repeat (first | apply Kd.N_alloc | apply Kd.N_drewN | apply Kd.N_drew)); exact Kd.N_mono HO_10.out (fun _ hk => (by simp [Value.ownBlock]))⟩, ⟨by first | exact Kd.R_nil _ _ _ _ _ | exact Kd.N_nil _ _ _ _ _ | exact Kd.V_nil _ _ _ _ _ | exact Kd.Q_nil _ _ _ _ _ | exact Kd.S_nil _ _ _ _ _⟩, ⟨by repeat (first | (with_reducible first | exact HB.out | apply below_alloc | apply pw_below_drewN | apply below_drew1) | exact HB.out)⟩⟩
                              case round =>
                                clear H'
                                try clear c1
                                try clear p1
                                try clear q1
                                try clear hx1
                                try clear qi1
                                try clear c2
                                try clear p2
                                try clear q2
                                try clear hx2
                                try clear c3
                                try clear q3
                                try clear c4
                                try clear c5
                                try clear p6
                                try clear c8
                                try clear c9
                                try clear c9b0
                                try clear c9b1
                                try clear c9b2
                                try clear c10
                                try clear c10b0
                                try clear c10b1
                                try clear c11
                                try clear c11b0
                                try clear c12
                                try clear c12b0
                                try clear c13
                                try clear c13b0
                                try clear c14
                                try clear c15
                                try clear c15b0
                                try clear c16
                                try clear c17
                                try clear p17
                                try clear q17
                                try clear hx17
                                try clear qi17
                                try clear c20
                                try clear p20
                                try clear q20
                                try clear hx20
                                try clear c21
                                try clear c23
                                try clear c32
                                try clear c32b0
                                try clear c32b1
                                try clear c33
                                try clear c33b0
                                try clear c33b1
                                try clear c37
                                try clear q37
                                try clear c39
                                try clear c39b0
                                try clear c40
                                try clear c40b0
                                try clear c41
                                try clear c41b0
                                try clear c42
                                try clear c42b0
                                try clear c42b1
                                try clear c43
                                try clear c43b0
                                try clear c43b1
                                try clear c44
                                try clear c44b0
                                try clear c44b1
                                try clear c45
                                try clear c45b0
                                try clear c45b1
                                try clear hx172_0
                                try clear hx173_0
                                try clear hx177_0
                                try clear hx201_0
                                try clear hx202_0
                                try clear p1
                                try clear p17
                                try clear p172
                                try clear p173
                                try clear p177
                                try clear p2
                                try clear p201
                                try clear p202
                                try clear p6
                                try clear q037
                                try clear q1
                                try clear q17
                                try clear q172
                                try clear q173
                                try clear q177
                                try clear q201
                                try clear q202
                                try clear q3
                                try clear q37
                                obtain ⟨x14_4, x78_4, rfl, HA, HK4, HO_10, HO_14, HB⟩ := hrel
                                cases gk with
                                | zero => exact absurd HA.out (by simp [solve_Solve.l2])
                                | succ k4 =>
                                  have H := HA.out
                                  clear HA
                                  simp only [solve_Solve.l2] at H
                                  by_cases c46 : x78_4 < ((rd_L1 l0 0).length : Int)
                                  · rw [if_pos c46] at H
                                    have c46b0 : decide (x78_4 < ((rd_L1 l0 0).length : Int)) = true := decide_eq_true c46
                                    clear c46
                                    by_cases c47 : 0 ≤ x78_4
                                    · rw [if_pos c47] at H
                                      have c47b0 : decide (0 ≤ x78_4) = true := decide_eq_true c47
                                      clear c47
                                      by_cases c48 : x78_4 < (t190.length : Int)
                                      · rw [if_pos c48] at H
                                        have c48b0 : decide (x78_4 < (t190.length : Int)) = true := decide_eq_true c48
                                        clear c48
                                        by_cases c49 : 0 ≤ ((rd_L1 l0 0).length : Int)
                                        · rw [if_pos c49] at H
                                          have c49b0 : decide (0 ≤ ((rd_L1 l0 0).length : Int)) = true := decide_eq_true c49
                                          have c49b1 : decide (0 ≤ (rd_L1 l0 0).length) = true := decide_eq_true (by omega)
                                          clear c49
                                          by_cases c50 : ((rd_L1 l0 0).length : Int) < ((rd_L1 t190 x78_4).length : Int)
                                          · rw [if_pos c50] at H
                                            have c50b0 : decide (((rd_L1 l0 0).length : Int) < ((rd_L1 t190 x78_4).length : Int)) = true := decide_eq_true c50
                                            have c50b1 : decide ((rd_L1 l0 0).length < (rd_L1 t190 x78_4).length) = true := decide_eq_true (Int.ofNat_lt.mp c50)
                                            clear c50
                                            obtain ⟨y205, hy205⟩ : ∃ y_ : List Int, y_ = (([rd (rd_L1 t190 x78_4) ((rd_L1 l0 0).length : Int)] : List Int)) := ⟨_, rfl⟩
                                            replace H : (if x14_4.length + y205.length < 17592186044416 then (solve_Solve.l2 k4 ((rd_L1 l0 0).length : Int) t190 (x14_4 ++ y205) ((rd_L1 l0 0).length : Int) (wrap64 (x78_4 + 1))) else (none)) = some (r1, r2) := by first | (rw [hy205]; with_reducible exact H) | (have H2_ := (Option.bind_some _ _).symm.trans H; rw [hy205]; with_reducible exact H2_) | (have H2_ := (Option.bind_some _ _).symm.trans H; with_reducible exact H2_) | with_reducible exact H | (rw [hy205]; exact H) | exact H
                                            have Ny205 := Aside0.mk hy205
                                            clear hy205
                                            by_cases c51 : x14_4.length + y205.length < 17592186044416
                                            · rw [if_pos c51] at H
                                              have LMc51 := Aside0.mk c51
                                              clear c51
                                              obtain ⟨y208, hy208⟩ : ∃ y_ : List Int, y_ = (x14_4 ++ y205) := ⟨_, rfl⟩
                                              replace H : (solve_Solve.l2 k4 ((rd_L1 l0 0).length : Int) t190 y208 ((rd_L1 l0 0).length : Int) (wrap64 (x78_4 + 1))) = some (r1, r2) := by first | (rw [hy208]; with_reducible exact H) | (have H2_ := (Option.bind_some _ _).symm.trans H; rw [hy208]; with_reducible exact H2_) | (have H2_ := (Option.bind_some _ _).symm.trans H; with_reducible exact H2_) | with_reducible exact H | (rw [hy208]; exact H) | exact H
                                              have Ny208 := Aside0.mk hy208
                                              clear hy208
                                              have H' := Aside0.mk H
                                              clear H
                                              have p203 : 0 ≤ (x78_4 : Int) := of_decide_eq_true (by first | (with_reducible assumption) | assumption)
                                              have q203 : x78_4 < (t190.length : Int) := of_decide_eq_true (by first | (with_reducible assumption) | assumption)
                                              obtain ⟨ad203, A203_0, c203_0, e203, hx203_0, hl203_0, hi203_0⟩ := at_L1 (Kd.N_reads' HO_10.out).2.2 x78_4 p203 q203
                                              cases e203
                                              obtain ⟨ce203, hce203, hMe203, hcc203⟩ := Kd.N_get HO_10.out [] x78_4 p203 (by first | exact q203 | exact of_decide_eq_true (by first | (with_reducible assumption) | assumption) | (have e_ := (Kd.N_reads' HO_10.out).1; omega))
                                              obtain ⟨ua203_0, uc203_0, rfl, ul203_0, ge203_0⟩ := Kd.FK_slice_open hMe203
                                              have hv203_0 := hcc203 0 _ rfl
                                              rw [Nat.add_zero, show ((Kd.slice 36 (Kd.int .u64))).sz = 1 from rfl, Nat.mul_one] at hv203_0
                                              replace hv203_0 := Option.some.inj (hv203_0.symm.trans hx203_0)
                                              injection hv203_0 with hva_ hvn_ hvc_
                                              rw [hva_] at ge203_0
                                              rw [hvc_] at ul203_0
                                              have HL203_0 := Aside0.mk (show Kd.V (Kd.int .u64) 36 _ w.heap.size _ _ (rd_L1 t190 x78_4) from Kd.V_mk ul203_0 ge203_0)
                                              clear hva_ hvn_ hvc_ ge203_0 ul203_0
                                              clear hcc203 hce203
                                              have HR203_0 := Aside0.mk hi203_0
                                              have HC203_0 := Aside0.mk hl203_0
                                              clear hi203_0 hl203_0
                                              replace p203 := eq_true p203
                                              replace q203 := eq_true q203
                                              have p204 : 0 ≤ (((rd_L1 l0 0).length : Int) : Int) := of_decide_eq_true (by first | (with_reducible assumption) | assumption)
                                              have q204 : ((rd_L1 l0 0).length : Int) < ((rd_L1 t190 x78_4).length : Int) := of_decide_eq_true (by first | (with_reducible assumption) | assumption)
                                              obtain ⟨ad204, e204, hx204_0⟩ := Kd.at_int (by repeat (first | (with_reducible exact HR203_0.out) | (with_reducible refine Kd.C_alloc ?_ _) | (with_reducible refine Kd.C_drewN ?_ _) | (with_reducible refine Kd.C_drew ?_) | exact HR203_0.out)) ((rd_L1 l0 0).length : Int) p204 q204
                                              cases e204
                                              (try simp only [Go.IntWalk.toNatUp] at hx204_0)
                                              replace p204 := eq_true p204
                                              replace q204 := eq_true q204
                                              go_wp2_with (first | ((with_reducible refine gate_dst (N := 89) rfl ?_); (try (refine gate_guard (by rfl) ?_; dsimp only)); refine Kd.R_lit (Kd.int .u64) _ 36 ?hg (N := 89) ?hd (xs := ([rd (rd_L1 t190 x78_4) ((rd_L1 l0 0).length : Int)] : List Int)) (inner := [.int .u64 (rd (rd_L1 t190 x78_4) ((rd_L1 l0 0).length : Int))]) (ok := fun _ => True) (okp := fun _ => True) ?hr ?hp (fun _ hk => hk) trivial (Below.refl _ _) (Nat.le_refl _) (by simp) ?_; (case hd => rfl); (case hg => rfl); (case hr => first | (go_simp; done) | (go_simp; rfl)); (case hp => exact (Reps.one (show Kd.M (Kd.int .u64) _ _ _ (rd (rd_L1 t190 x78_4) ((rd_L1 l0 0).length : Int)) [.int .u64 (rd (rd_L1 t190 x78_4) ((rd_L1 l0 0).length : Int))] from rfl) (Reps.none _ _))); intro v206 w52 ho53 hb hg_ hnew_; clear hg_ hnew_; (first | rw [← Ny205.out] at ho53 | (simp only [Int.reduceToNat] at ho53; rw [← Ny205.out] at ho53)); have n0_ := Aside0.mk (Kd.N_elder' (by (with_reducible repeat (first | apply Kd.N_alloc | apply Kd.N_drewN | apply Kd.N_drew)); exact HO_10.out) (Kd.R_base ho53) hb); have n1_ := Aside0.mk (Kd.R_elder' (by (with_reducible repeat (first | apply Kd.R_alloc | apply Kd.R_drewN | apply Kd.R_drew)); exact HO_14.out) (Kd.R_base ho53) hb); have n2_ := Aside0.mk (Kd.V_elder' (by (with_reducible repeat (first | apply Kd.V_alloc | apply Kd.V_drewN | apply Kd.V_drew)); exact HL203_0.out) (Kd.R_base ho53) hb); have n3_ := Aside0.mk (Kd.R_lower (Kd.R_new' ho53 (Kd.R_lt (by (with_reducible repeat (first | apply Kd.R_alloc | apply Kd.R_drewN | apply Kd.R_drew)); exact HO_14.out))) (below_size (by repeat (first | (with_reducible first | exact HB.out | apply below_alloc | apply pw_below_drewN | apply below_drew1) | exact HB.out)))); have n4_ := Aside0.mk (Kd.C_below (by repeat (first | (with_reducible exact HR203_0.out) | (with_reducible refine Kd.C_alloc ?_ _) | (with_reducible refine Kd.C_drewN ?_ _) | (with_reducible refine Kd.C_drew ?_) | exact HR203_0.out)) hb); have n5_ := Aside0.mk (below_step (by repeat (first | (with_reducible first | exact HB.out | apply below_alloc | apply pw_below_drewN | apply below_drew1) | exact HB.out)) hb); clear HO_10; clear HO_14; clear HL203_0; clear HR203_0; clear HB; have HO_10 := n0_; have HO_14 := n1_; have HL203_0 := n2_; have HO207 := n3_; have HR203_0 := n4_; have HB := n5_; clear n0_ n1_ n2_ n3_ n4_ n5_; clear hb ho53; obtain ⟨Ao55, co55, eo55⟩ := Kd.R_slice HO207.out; subst eo55) | ((with_reducible refine gate_builtin (b := .append) (xs := #[.tmp 81, .tmp 89]) rfl ?_); (try (refine gate_guard (by rfl) ?_; dsimp only)); at_builtin; refine Kd.R_append_rows (Kd.int .u64) (w0 := w) w.heap.size rfl (.tmp 81) (.tmp 89) 30 36 (.int .u64 0) 8 rfl Try.underlying30 info36 rfl (by decide) (by omega) u14 x14_4 y205 _ _ _ (fun k_ => some k_ ≠ (.slice Ao55 y205.length co55 : Value).ownBlock) (fun _ => False) rfl rfl ?aO ?aR (fun _ _ h => h) (fun _ h => h.elim) ?aF ?aB ?aS ?aL ?_; (case aR => repeat (first | exact (Kd.R_reads' HO207.out).2.2 | (with_reducible refine Kd.C_alloc ?_ _) | (with_reducible refine Kd.C_drewN ?_ _) | (with_reducible refine Kd.C_drew ?_))); (case aB => exact (by repeat (first | (with_reducible first | exact HB.out | apply below_alloc | apply pw_below_drewN | apply below_drew1) | exact HB.out))); (case aF => exact (fun k_ hk => Kd.fresh' (Kd.R_lt (by (with_reducible repeat (first | apply Kd.R_alloc | apply Kd.R_drewN | apply Kd.R_drew)); exact HO207.out)) k_ hk)); (case aO => exact (by (with_reducible repeat (first | apply Kd.R_alloc | apply Kd.R_drewN | apply Kd.R_drew)); exact Kd.R_mono HO_14.out (fun _ hk => hk.2))); (case aS => exact (below_size (by repeat (first | (with_reducible first | exact HB.out | apply below_alloc | apply pw_below_drewN | apply below_drew1) | exact HB.out)))); (case aL => have := LMc51.out; omega); intro v209 w54 ho hb hg hat; rw [← Ny208.out] at ho; have n0_ := Aside0.mk (Kd.N_afterv (ok := (fun k_ => some k_ ≠ (.slice Ao55 y205.length co55 : Value).ownBlock)) (by (with_reducible repeat (first | apply Kd.N_alloc | apply Kd.N_drewN | apply Kd.N_drew)); exact Kd.N_mono HO_10.out (fun _ hk => ⟨hk.2, hk.1⟩)) hg hat); have n1_ := Aside0.mk (Kd.V_afterv (ok := (fun k_ => some k_ ≠ (.slice (some ad203) t190.length co38 : Value).ownBlock ∧ some k_ ≠ (.slice Ao55 y205.length co55 : Value).ownBlock)) (by (with_reducible repeat (first | apply Kd.V_alloc | apply Kd.V_drewN | apply Kd.V_drew)); exact Kd.V_mono HL203_0.out (fun _ hk => ⟨⟨hk.1.2, hk.2⟩, hk.1.1⟩)) hg hat); have n2_ := Aside0.mk (Kd.R_after (ok := (fun _ => True)) (by (with_reducible repeat (first | apply Kd.R_alloc | apply Kd.R_drewN | apply Kd.R_drew)); exact HO207.out) hg hat); have n3_ := Aside0.mk (hb); have n4_ := Aside0.mk (ho); clear HO_10; clear HL203_0; clear HO207; clear HB; clear HO_14; have HO_10 := n0_; have HL203_0 := n1_; have HO207 := n2_; have HB := n3_; have HO210 := n4_; clear n0_ n1_ n2_ n3_ n4_; clear ho hb hg hat))
                                              go_roundg k4
                                              case measure => have := HJ2.out; have := HK2.out; have := HK3.out; have := HK4.out; omega
                                              case rel => exact ⟨(y208), (wrap64 (x78_4 + 1)), (by first | rfl | (simp; done) | (simp [*]; done)), H', ⟨by have := HJ2.out; have := HK2.out; have := HK3.out; have := HK4.out; omega⟩, ⟨by (with_reducible repeat (first | apply Kd.N_alloc | apply Kd.N_drewN | apply Kd.N_drew)); exact Kd.N_mono HO_10.out (fun _ hk => hk.2)⟩, ⟨by (with_reducible repeat (first | apply Kd.R_alloc | apply Kd.R_drewN | apply Kd.R_drew)); exact Kd.R_mono HO210.out (fun _ hk => trivial)⟩, ⟨by repeat (first | (with_reducible first | exact HB.out | apply below_alloc | apply pw_below_drewN | apply below_drew1) | exact HB.out)⟩⟩
                                            · rw [if_neg c51] at H
                                              exact absurd H (by simp)
                                          · rw [if_neg c50] at H
                                            exact absurd H (by simp)
                                        · rw [if_neg c49] at H
                                          exact absurd H (by simp)
                                      · rw [if_neg c48] at H
                                        exact absurd H (by simp)
                                    · rw [if_neg c47] at H
                                      exact absurd H (by simp)
                                  · rw [if_neg c46] at H
                                    have c46b0 : decide (x78_4 < ((rd_L1 l0 0).length : Int)) = false := decide_eq_false c46
                                    clear c46
                                    simp only [Option.some.injEq, Prod.mk.injEq] at H
                                    obtain ⟨rfl, rfl⟩ := H
                                    go_wp2
                                    go_ret2
                                    exact ⟨_, by first | rfl | (simp [errW_none, errW_some] <;> rfl) | (simp [*, errW_none, errW_some] <;> rfl), by (with_reducible repeat (first | apply Kd.R_alloc | apply Kd.R_drewN | apply Kd.R_drew)); exact HO_14.out, by repeat (first | (with_reducible first | exact HB.out | apply below_alloc | apply pw_below_drewN | apply below_drew1) | exact HB.out)⟩
                    · rw [if_neg c33] at H
                      exact absurd H (by simp)
                  · rw [if_neg c32] at H
                    exact absurd H (by simp)
          · rw [if_neg c10] at H
            exact absurd H (by simp)

end Go.Proofs.Ytoplnkbhgpamaaa.PSolveTurns
