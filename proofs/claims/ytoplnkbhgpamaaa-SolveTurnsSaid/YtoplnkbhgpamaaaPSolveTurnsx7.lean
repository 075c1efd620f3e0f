/- The functions that a law uses, each as a plain function, with the proof that a call of the Go function comes to its answer. Condition of each: the arguments read as the data that it names, and the plain function has an answer. Written by a program of this session (standin.py). -/
import Derived.Test.YtoplnkbhgpamaaaPSolveTurnsx0
import Derived.Test.YtoplnkbhgpamaaaPSolveTurnsx1
import Derived.Test.YtoplnkbhgpamaaaPSolveTurnsx4
import Derived.Test.YtoplnkbhgpamaaaPSolveTurnsx6
import Derived.Lib.SliceRun
namespace Go.Proofs.Ytoplnkbhgpamaaa.PSolveTurns
open Go.RowKit Go.Proofs.YtoplnkbhgpamaaaW.PrintWords Go.Proofs.YtoplnkbhgpamaaaW.PrintLast Go.Proofs.YtoplnkbhgpamaaaW.PrintMore
attribute [local go_sem] max2_int min2_int max_two min_two max_three min_three max_four min_four   -- for this text's walks alone
set_option linter.unusedVariables false
set_option linter.unusedSimpArgs false

/-! ### rillmeterlaw03_SolveTurns: function 5 -/
mutual
def rillmeterlaw03_SolveTurns.j0 : Nat → List (List Int) → List Int → Bool → Option (Bool)
  | 0, _, _, _ => none
  | k + 1, x0, x1, x20 => if x20 = true then ((rillmeterlaw03_awake.f k).bind fun t241 => (some t241)) else ((solve_Rank.f k x0).bind fun bt242 => (if bt242.2 = 0 then (rillmeterlaw03_SolveTurns.l0 k x0 bt242.1 (([x1] : List (List Int))) (x0.length : Int) 0) else ((rillmeterlaw03_awake.f k).bind fun t244 => (some t244))))
def rillmeterlaw03_SolveTurns.l0 : Nat → List (List Int) → Int → List (List Int) → Int → Int → Option (Bool)
  | 0, _, _, _, _, _ => none
  | k + 1, x0, x5, x7, x33, x34 => if x34 < x33 then (if 0 ≤ (wrap64 ((wrap64 ((x0.length : Int) - 1)) - x34)) then (if (wrap64 ((wrap64 ((x0.length : Int) - 1)) - x34)) < (x0.length : Int) then (if x7.length < 5864062014805 then (rillmeterlaw03_SolveTurns.l0 k x0 x5 (x7 ++ [rd_L1 x0 (wrap64 ((wrap64 ((x0.length : Int) - 1)) - x34))]) x33 (wrap64 (x34 + 1))) else (none)) else (none)) else (none)) else (if 1 ≤ (x7.length : Int) then ((solve_Rank.f k (x7.drop 1)).bind fun bt257 => ((solve_Rank.f k x7).bind fun bt259 => (if bt257.1 = x5 then (if bt257.2 = 0 then (if x5 > (x0.length : Int) then (some false) else (if (x0.length : Int) > 0 then (if 0 < (x0.length : Int) then (if x5 > ((rd_L1 x0 0).length : Int) then (some false) else (if bt259.2 = 0 then (if bt259.1 ≥ x5 then (if bt259.1 ≤ (wrap64 (x5 + 1)) then ((rillmeterlaw03_awake.f k).bind fun t262 => (some t262)) else (some false)) else (some false)) else ((rillmeterlaw03_awake.f k).bind fun t263 => (some t263)))) else (none)) else (if bt259.2 = 0 then (if bt259.1 ≥ x5 then (if bt259.1 ≤ (wrap64 (x5 + 1)) then ((rillmeterlaw03_awake.f k).bind fun t264 => (some t264)) else (some false)) else (some false)) else ((rillmeterlaw03_awake.f k).bind fun t265 => (some t265))))) else (some false)) else (some false)))) else (none))
end
def rillmeterlaw03_SolveTurns.f (k : Nat) (l0 : List (List Int)) (l1 : List Int) : Option (Bool) := (rillmeterref03_Small.f k l0 31).bind fun t240 => (if t240 = true then (rillmeterlaw03_SolveTurns.j0 k l0 l1 (decide ((l1.length : Int) > 32))) else (rillmeterlaw03_SolveTurns.j0 k l0 l1 true))
theorem rillmeterlaw03_SolveTurns.mono_l : ∀ k, (∀ y0 y1 y2, LeO (rillmeterlaw03_SolveTurns.j0 k y0 y1 y2) (rillmeterlaw03_SolveTurns.j0 (k + 1) y0 y1 y2)) ∧ (∀ y0 y1 y2 y3 y4, LeO (rillmeterlaw03_SolveTurns.l0 k y0 y1 y2 y3 y4) (rillmeterlaw03_SolveTurns.l0 (k + 1) y0 y1 y2 y3 y4))
  | 0 => ⟨fun _ _ _ r h => by simp [rillmeterlaw03_SolveTurns.j0] at h, fun _ _ _ _ _ r h => by simp [rillmeterlaw03_SolveTurns.l0] at h⟩
  | k + 1 => by
    obtain ⟨ih0, ih1⟩ := rillmeterlaw03_SolveTurns.mono_l k
    refine ⟨?_, ?_⟩
    · intro y0 y1 y2
      unfold rillmeterlaw03_SolveTurns.j0
      repeat' first
      | (with_reducible exact ih0 _ _ _)
      | (with_reducible exact ih1 _ _ _ _ _)
      | (with_reducible exact rillmeterlaw03_awake.mono _)
      | (with_reducible exact rillmeterref03_Small.mono _ _ _)
      | (with_reducible exact solve_Rank.mono _ _)
      | (with_reducible exact LeO.refl _)
      | (with_reducible exact LeO.none _)
      | (with_reducible refine LeO.ite ?_ ?_)
      | (with_reducible refine LeO.bind ?_ (fun _ => ?_))
      | exact ih0 _ _ _
      | exact ih1 _ _ _ _ _
      | exact rillmeterlaw03_awake.mono _
      | exact rillmeterref03_Small.mono _ _ _
      | exact solve_Rank.mono _ _
      | exact LeO.none _
      | refine LeO.ite ?_ ?_
      | refine LeO.bind ?_ (fun _ => ?_)
    · intro y0 y1 y2 y3 y4
      unfold rillmeterlaw03_SolveTurns.l0
      repeat' first
      | (with_reducible exact ih0 _ _ _)
      | (with_reducible exact ih1 _ _ _ _ _)
      | (with_reducible exact rillmeterlaw03_awake.mono _)
      | (with_reducible exact rillmeterref03_Small.mono _ _ _)
      | (with_reducible exact solve_Rank.mono _ _)
      | (with_reducible exact LeO.refl _)
      | (with_reducible exact LeO.none _)
      | (with_reducible refine LeO.ite ?_ ?_)
      | (with_reducible refine LeO.bind ?_ (fun _ => ?_))
      | exact ih0 _ _ _
      | exact ih1 _ _ _ _ _
      | exact rillmeterlaw03_awake.mono _
      | exact rillmeterref03_Small.mono _ _ _
      | exact solve_Rank.mono _ _
      | exact LeO.none _
      | refine LeO.ite ?_ ?_
      | refine LeO.bind ?_ (fun _ => ?_)
theorem rillmeterlaw03_SolveTurns.mono : ∀ a0 a1 k, LeO (rillmeterlaw03_SolveTurns.f k a0 a1) (rillmeterlaw03_SolveTurns.f (k + 1) a0 a1) := by
  intro a0 a1 k
  obtain ⟨ih0, ih1⟩ := rillmeterlaw03_SolveTurns.mono_l k
  unfold rillmeterlaw03_SolveTurns.f
  repeat' first
      | (with_reducible exact ih0 _ _ _)
      | (with_reducible exact ih1 _ _ _ _ _)
      | (with_reducible exact rillmeterlaw03_awake.mono _)
      | (with_reducible exact rillmeterref03_Small.mono _ _ _)
      | (with_reducible exact solve_Rank.mono _ _)
      | (with_reducible exact LeO.refl _)
      | (with_reducible exact LeO.none _)
      | (with_reducible refine LeO.ite ?_ ?_)
      | (with_reducible refine LeO.bind ?_ (fun _ => ?_))
      | exact ih0 _ _ _
      | exact ih1 _ _ _ _ _
      | exact rillmeterlaw03_awake.mono _
      | exact rillmeterref03_Small.mono _ _ _
      | exact solve_Rank.mono _ _
      | exact LeO.none _
      | refine LeO.ite ?_ ?_
      | refine LeO.bind ?_ (fun _ => ?_)
set_option maxHeartbeats 8000000 in
set_option maxRecDepth 100000 in
theorem rillmeterlaw03_SolveTurns.calls (k : Nat) (P0_ : Nat → Prop) (A0 : Option Addr) (c0 : Nat) (l0 : List (List Int)) (P1_ : Nat → Prop) (A1 : Option Addr) (c1 : Nat) (l1 : List Int) (r : Bool) (w : World) (hs0 : Kd.V (Kd.slice 36 (Kd.int .u64)) 30 w w.heap.size (fun k_ => P0_ k_) (.slice A0 l0.length c0) l0) (hs1 : Kd.V (Kd.int .u64) 36 w w.heap.size (fun k_ => P1_ k_) (.slice A1 l1.length c1) l1) (h : rillmeterlaw03_SolveTurns.f k l0 l1 = some r) (hrt : Aside0 (r = true)) :
    Calls Try.prog 5 #[.slice A0 l0.length c0, .slice A1 l1.length c1] w fun e w' => e = .returned (.bool r) ∧ Below w.heap.size w w' := by
  have HO0 := Aside0.mk (show Kd.V (Kd.slice 36 (Kd.int .u64)) 30 w w.heap.size (fun k_ => ((P0_ k_ ∨ P1_ k_) ∨ w.heap.size ≤ k_)) (.slice A0 l0.length c0) l0 from Kd.V_mono hs0 (fun k_ hk => .inl (.inl hk)))
  have HO1 := Aside0.mk (show Kd.V (Kd.int .u64) 36 w w.heap.size (fun k_ => ((P0_ k_ ∨ P1_ k_) ∨ w.heap.size ≤ k_)) (.slice A1 l1.length c1) l1 from Kd.V_mono hs1 (fun k_ hk => .inl (.inr hk)))
  have HB := Aside0.mk (Below.refl w.heap.size w)
  have H : ((rillmeterref03_Small.f k l0 31).bind fun t240 => (if t240 = true then (rillmeterlaw03_SolveTurns.j0 k l0 l1 (decide ((l1.length : Int) > 32))) else (rillmeterlaw03_SolveTurns.j0 k l0 l1 true))) = some r := h
  clear h
  have HC3 := Aside0.mk H
  clear H
  go_enter Try.func5, Try.ntmps5
  go_upto_region 1 with (fail)
  go_cut [20] (fun v20 wc => ∃ (kq : Nat) (x20_2 : Bool), v20 = .bool x20_2 ∧ Aside0 (rillmeterlaw03_SolveTurns.j0 kq l0 l1 x20_2 = some r) ∧ Aside0 (kq ≤ k) ∧ Aside0 (Kd.V (Kd.slice 36 (Kd.int .u64)) 30 wc w.heap.size (fun k_ => ((P0_ k_ ∨ P1_ k_) ∨ w.heap.size ≤ k_)) (.slice A0 l0.length c0) l0) ∧ Aside0 (Kd.V (Kd.int .u64) 36 wc w.heap.size (fun k_ => ((P0_ k_ ∨ P1_ k_) ∨ w.heap.size ≤ k_)) (.slice A1 l1.length c1) l1) ∧ Aside0 (Below w.heap.size w wc))
  case first =>
    have H := HC3.out
    clear HC3
    replace H := Option.bind_eq_some_iff.mp H
    obtain ⟨t240, A40, H⟩ := H
    replace H : (if t240 = true then (rillmeterlaw03_SolveTurns.j0 k l0 l1 (decide ((l1.length : Int) > 32))) else (rillmeterlaw03_SolveTurns.j0 k l0 l1 true)) = some r := H
    have A4 := Aside0.mk A40
    clear A40
    by_cases c5 : t240 = true
    · subst c5
      have H1 : (rillmeterlaw03_SolveTurns.j0 k l0 l1 (decide ((l1.length : Int) > 32))) = some r := by rw [if_pos rfl] at H; exact H
      clear H
      have H := H1
      clear H1
      have H' := Aside0.mk H
      clear H
      go_wp2_with (first | ((with_reducible refine gate_callee (f := 9) rfl ?_); refine goesL_ (some 14) rfl rfl Try.func9 (by kernel_rfl) rfl #[.slice A0 l0.length c0, .int .i64 31] rfl (by (try simp only [List.map_toArray, List.map_cons, List.map_nil]); first | done | rfl | (simp only [List.length_drop, List.length_take]; rfl)) ?_; (with_reducible refine (rillmeterref03_Small.calls k _ _ l0 31 true _ ?side1 ?side2 A4.out).mono ?_); (case side1 => repeat (first | exact (Kd.V_reads' HO0.out).2.2 | (with_reducible refine Kd.C_alloc ?_ _) | (with_reducible refine Kd.C_drewN ?_ _) | (with_reducible refine Kd.C_drew ?_))); (case side2 => exact (Kd.V_reads' HO0.out).2.1); rintro e w' ⟨rfl, ⟨nd, rfl⟩⟩; refine ⟨_, rfl, ?_⟩))
      go_meet
      case rel => exact ⟨_, (decide ((l1.length : Int) > 32)), (by first | rfl | (simp; done) | (simp [*]; done)), H', ⟨by first | omega | exact Nat.le_refl _⟩, ⟨by (with_reducible repeat (first | apply Kd.V_alloc | apply Kd.V_drewN | apply Kd.V_drew)); exact HO0.out⟩, ⟨by (with_reducible repeat (first | apply Kd.V_alloc | apply Kd.V_drewN | apply Kd.V_drew)); exact HO1.out⟩, ⟨by repeat (first | (with_reducible first | exact HB.out | apply below_alloc | apply pw_below_drewN | apply below_drew1) | exact HB.out)⟩⟩
    · replace c5 := Bool.eq_false_iff.mpr c5
      subst c5
      have H1 : (rillmeterlaw03_SolveTurns.j0 k l0 l1 true) = some r := by rw [if_neg (show ¬ (false = true) by decide)] at H; exact H
      clear H
      have H := H1
      clear H1
      have H' := Aside0.mk H
      clear H
      go_wp2_with (first | ((with_reducible refine gate_callee (f := 9) rfl ?_); refine goesL_ (some 14) rfl rfl Try.func9 (by kernel_rfl) rfl #[.slice A0 l0.length c0, .int .i64 31] rfl (by (try simp only [List.map_toArray, List.map_cons, List.map_nil]); first | done | rfl | (simp only [List.length_drop, List.length_take]; rfl)) ?_; (with_reducible refine (rillmeterref03_Small.calls k _ _ l0 31 false _ ?side1 ?side2 A4.out).mono ?_); (case side1 => repeat (first | exact (Kd.V_reads' HO0.out).2.2 | (with_reducible refine Kd.C_alloc ?_ _) | (with_reducible refine Kd.C_drewN ?_ _) | (with_reducible refine Kd.C_drew ?_))); (case side2 => exact (Kd.V_reads' HO0.out).2.1); rintro e w' ⟨rfl, ⟨nd, rfl⟩⟩; refine ⟨_, rfl, ?_⟩))
      go_meet
      case rel => exact ⟨_, (true), (by first | rfl | (simp; done) | (simp [*]; done)), H', ⟨by first | omega | exact Nat.le_refl _⟩, ⟨by (with_reducible repeat (first | apply Kd.V_alloc | apply Kd.V_drewN | apply Kd.V_drew)); exact HO0.out⟩, ⟨by (with_reducible repeat (first | apply Kd.V_alloc | apply Kd.V_drewN | apply Kd.V_drew)); exact HO1.out⟩, ⟨by repeat (first | (with_reducible first | exact HB.out | apply below_alloc | apply pw_below_drewN | apply below_drew1) | exact HB.out)⟩⟩
  case rest =>
    clear HC3
    try clear c1
    try clear p2
    try clear c5
    obtain ⟨kq, x20_2, rfl, HA, HJ2, HO_0, HO_1, HB⟩ := hcut
    cases kq with
    | zero => exact absurd HA.out (by simp [rillmeterlaw03_SolveTurns.j0])
    | succ kj2 =>
      have H := HA.out
      clear HA
      simp only [rillmeterlaw03_SolveTurns.j0] at H
      by_cases c6 : x20_2 = true
      · subst c6
        have H1 : ((rillmeterlaw03_awake.f kj2).bind fun t241 => (some t241)) = some r := by rw [if_pos rfl] at H; exact H
        clear H
        have H := H1
        clear H1
        replace H := Option.bind_eq_some_iff.mp H
        obtain ⟨t241, A70, H⟩ := H
        replace H : (some t241) = some r := H
        have A7 := Aside0.mk A70
        clear A70
        obtain rfl := Option.some.inj H
        go_wp2_with (first | ((with_reducible refine gate_callee (f := 10) rfl ?_); refine goesL_ (some 21) rfl rfl Try.func10 (by kernel_rfl) rfl #[] rfl (by (try simp only [List.map_toArray, List.map_cons, List.map_nil]); first | done | rfl | (simp only [List.length_drop, List.length_take]; rfl)) ?_; (with_reducible refine (rillmeterlaw03_awake.calls kj2  t241 _ A7.out).mono ?_); rintro e w8 ⟨rfl, hb⟩; refine ⟨_, rfl, ?_⟩; have n0_ := Aside0.mk (Kd.V_below (by (with_reducible repeat (first | apply Kd.V_alloc | apply Kd.V_drewN | apply Kd.V_drew)); exact HO_0.out) hb); have n1_ := Aside0.mk (Kd.V_below (by (with_reducible repeat (first | apply Kd.V_alloc | apply Kd.V_drewN | apply Kd.V_drew)); exact HO_1.out) hb); have n2_ := Aside0.mk (below_step (by repeat (first | (with_reducible first | exact HB.out | apply below_alloc | apply pw_below_drewN | apply below_drew1) | exact HB.out)) hb); clear HO_0; clear HO_1; clear HB; have HO_0 := n0_; have HO_1 := n1_; have HB := n2_; clear n0_ n1_ n2_; (try clear hb); (try clear hb2); (try clear hk); (try clear hi)))
        go_ret
        exact ⟨by first | rfl | (simp [errW_none, errW_some] <;> rfl) | (simp [*, errW_none, errW_some] <;> rfl), by repeat (first | (with_reducible first | exact HB.out | apply below_alloc | apply pw_below_drewN | apply below_drew1) | exact HB.out)⟩
      · replace c6 := Bool.eq_false_iff.mpr c6
        subst c6
        have H1 : ((solve_Rank.f kj2 l0).bind fun bt242 => (if bt242.2 = 0 then (rillmeterlaw03_SolveTurns.l0 kj2 l0 bt242.1 (([l1] : List (List Int))) (l0.length : Int) 0) else ((rillmeterlaw03_awake.f kj2).bind fun t244 => (some t244)))) = some r := by rw [if_neg (show ¬ (false = true) by decide)] at H; exact H
        clear H
        have H := H1
        clear H1
        replace H := Option.bind_eq_some_iff.mp H
        obtain ⟨⟨t242, t243⟩, A90, H⟩ := H
        replace H : (if t243 = 0 then (rillmeterlaw03_SolveTurns.l0 kj2 l0 t242 (([l1] : List (List Int))) (l0.length : Int) 0) else ((rillmeterlaw03_awake.f kj2).bind fun t244 => (some t244))) = some r := H
        have A9 := Aside0.mk A90
        clear A90
        by_cases c10 : t243 = 0
        · rw [if_pos c10] at H
          have c10b0 : (t243 == 0) = true := beq_iff_eq.mpr c10
          have c10b1 : (t243 != 0) = false := bne_eq_false_iff_eq.mpr c10
          clear c10
          obtain ⟨y245, hy245⟩ : ∃ y_ : List (List Int), y_ = (([l1] : List (List Int))) := ⟨_, rfl⟩
          replace H : (rillmeterlaw03_SolveTurns.l0 kj2 l0 t242 y245 (l0.length : Int) 0) = some r := by first | (rw [hy245]; with_reducible exact H) | (have H2_ := (Option.bind_some _ _).symm.trans H; rw [hy245]; with_reducible exact H2_) | (have H2_ := (Option.bind_some _ _).symm.trans H; with_reducible exact H2_) | with_reducible exact H | (rw [hy245]; exact H) | exact H
          have Ny245 := Aside0.mk hy245
          clear hy245
          have H' := Aside0.mk H
          clear H
          go_wp2_with (first | ((with_reducible refine gate_callee (f := 11) rfl ?_); refine goesL_ (some 24) rfl rfl Try.func11 (by kernel_rfl) rfl #[.slice A0 l0.length c0] rfl (by (try simp only [List.map_toArray, List.map_cons, List.map_nil]); first | done | rfl | (simp only [List.length_drop, List.length_take]; rfl)) ?_; (with_reducible refine (solve_Rank.calls kj2 _ _ l0 t242 t243 _ ?side1 ?side2 A9.out).mono ?_); (case side1 => repeat (first | exact (Kd.V_reads' HO_0.out).2.2 | (with_reducible refine Kd.C_alloc ?_ _) | (with_reducible refine Kd.C_drewN ?_ _) | (with_reducible refine Kd.C_drew ?_))); (case side2 => exact (Kd.V_reads' HO_0.out).2.1); rintro e w11 ⟨rfl, hb⟩; refine ⟨_, rfl, ?_⟩; have n0_ := Aside0.mk (Kd.V_below (by (with_reducible repeat (first | apply Kd.V_alloc | apply Kd.V_drewN | apply Kd.V_drew)); exact HO_0.out) hb); have n1_ := Aside0.mk (Kd.V_below (by (with_reducible repeat (first | apply Kd.V_alloc | apply Kd.V_drewN | apply Kd.V_drew)); exact HO_1.out) hb); have n2_ := Aside0.mk (below_step (by repeat (first | (with_reducible first | exact HB.out | apply below_alloc | apply pw_below_drewN | apply below_drew1) | exact HB.out)) hb); clear HO_0; clear HO_1; clear HB; have HO_0 := n0_; have HO_1 := n1_; have HB := n2_; clear n0_ n1_ n2_; (try clear hb); (try clear hb2); (try clear hk); (try clear hi)) | ((with_reducible refine gate_dst (N := 31) rfl ?_); (try (refine gate_guard (by rfl) ?_; dsimp only)); refine Kd.N_lit (Kd.slice 36 (Kd.int .u64)) _ 30 ?hg (N' := 31) ?hd (xs := ([l1] : List (List Int))) (inner := [.slice A1 l1.length c1]) (ok := (fun k_ => ((P0_ k_ ∨ P1_ k_) ∨ w.heap.size ≤ k_))) (okp := (fun k_ => ((P0_ k_ ∨ P1_ k_) ∨ w.heap.size ≤ k_))) ?hr ?hp (fun _ hk => hk) ((show ∀ k_, w11.heap.size ≤ k_ → (fun k_ => ((P0_ k_ ∨ P1_ k_) ∨ w.heap.size ≤ k_)) k_ from fun k_ hk => (.inr (Nat.le_trans (below_size (by repeat (first | (with_reducible first | exact HB.out | apply below_alloc | apply pw_below_drewN | apply below_drew1) | exact HB.out))) hk))) _ (Nat.le_refl _)) (Below.refl _ _) (Nat.le_refl _) (by simp) ?_; (case hd => rfl); (case hg => rfl); (case hr => first | (go_simp; done) | (go_simp; rfl)); (case hp => exact (Reps.one (show Kd.FK (Kd.slice 36 (Kd.int .u64)) _ _ l1 [.slice A1 l1.length c1] from (Kd.FK_slice_mk (Kd.V_reads' (Kd.V_mono (ok' := (fun k_ => ((P0_ k_ ∨ P1_ k_) ∨ w.heap.size ≤ k_))) (HO_1.out) (fun k_ hk => hk))).2.1 (Kd.V_F (Kd.V_mono (ok' := (fun k_ => ((P0_ k_ ∨ P1_ k_) ∨ w.heap.size ≤ k_))) (HO_1.out) (fun k_ hk => hk))))) (Reps.none _ _))); intro v246 w12 ho13 hb hg_ hnew_; clear hg_ hnew_; (first | rw [← Ny245.out] at ho13 | (simp only [Int.reduceToNat] at ho13; rw [← Ny245.out] at ho13)); have n0_ := Aside0.mk (Kd.V_elder' (by (with_reducible repeat (first | apply Kd.V_alloc | apply Kd.V_drewN | apply Kd.V_drew)); exact HO_0.out) (by first | exact Kd.N_base ho13 | exact Kd.S_base ho13) hb); have n1_ := Aside0.mk (Kd.V_elder' (by (with_reducible repeat (first | apply Kd.V_alloc | apply Kd.V_drewN | apply Kd.V_drew)); exact HO_1.out) (by first | exact Kd.N_base ho13 | exact Kd.S_base ho13) hb); have n2_ := Aside0.mk (Kd.N_lower ho13 (below_size (by repeat (first | (with_reducible first | exact HB.out | apply below_alloc | apply pw_below_drewN | apply below_drew1) | exact HB.out)))); have n3_ := Aside0.mk (below_step (by repeat (first | (with_reducible first | exact HB.out | apply below_alloc | apply pw_below_drewN | apply below_drew1) | exact HB.out)) hb); clear HO_0; clear HO_1; clear HB; have HO_0 := n0_; have HO_1 := n1_; have HO247 := n2_; have HB := n3_; clear n0_ n1_ n2_ n3_; clear hb ho13))
          go_loopg [7, 34] kj2 (fun kq v7 v34 w' => ∃ (x7_2 : List (List Int)) (x34_2 : Int), v34 = .int .i64 x34_2 ∧ Aside0 (rillmeterlaw03_SolveTurns.l0 kq l0 t242 x7_2 (l0.length : Int) x34_2 = some r) ∧ Aside0 (kq ≤ kj2) ∧ Aside0 (Kd.V (Kd.slice 36 (Kd.int .u64)) 30 w' w.heap.size (fun k_ => ((P0_ k_ ∨ P1_ k_) ∨ w.heap.size ≤ k_) ∧ some k_ ≠ (v7 : Value).ownBlock) (.slice A0 l0.length c0) l0) ∧ Aside0 (Kd.N (Kd.slice 36 (Kd.int .u64)) 30 w' w.heap.size (fun k_ => ((P0_ k_ ∨ P1_ k_) ∨ w.heap.size ≤ k_)) v7 x7_2) ∧ Aside0 (Below w.heap.size w w'))
          case atStart => exact ⟨(y245), (0), (by first | rfl | (simp; done) | (simp [*]; done)), H', ⟨Nat.le_refl _⟩, ⟨by (with_reducible repeat (first | apply Kd.V_alloc | apply Kd.V_drewN | apply Kd.V_drew)); exact HO_0.out⟩, ⟨by (with_reducible repeat (first | apply Kd.N_alloc | apply Kd.N_drewN | apply Kd.N_drew)); exact HO247.out⟩, ⟨by repeat (first | (with_reducible first | exact HB.out | apply below_alloc | apply pw_below_drewN | apply below_drew1) | exact HB.out)⟩⟩
          case round =>
            clear H'
            try clear c1
            try clear p2
            try clear c5
            try clear c6
            try clear c9
            try clear c10
            try clear c10b0
            try clear c10b1
            try clear c11
            try clear p2
            obtain ⟨x7_2, x34_2, rfl, HA, HK2, HO_0, HO_7, HB⟩ := hrel
            cases gk with
            | zero => exact absurd HA.out (by simp [rillmeterlaw03_SolveTurns.l0])
            | succ k2 =>
              have H := HA.out
              clear HA
              simp only [rillmeterlaw03_SolveTurns.l0] at H
              by_cases c14 : x34_2 < (l0.length : Int)
              · rw [if_pos c14] at H
                have c14b0 : decide (x34_2 < (l0.length : Int)) = true := decide_eq_true c14
                clear c14
                obtain ⟨ji15, hji15⟩ : ∃ j_ : Int, (wrap64 ((wrap64 ((l0.length : Int) - 1)) - x34_2)) = j_ := ⟨_, rfl⟩
                replace H : (if 0 ≤ (ji15) then (if (ji15) < (l0.length : Int) then (if x7_2.length < 5864062014805 then (rillmeterlaw03_SolveTurns.l0 k2 l0 t242 (x7_2 ++ [rd_L1 l0 (ji15)]) (l0.length : Int) (wrap64 (x34_2 + 1))) else (none)) else (none)) else (none)) = some r := by first | (rw [hji15] at H; exact H) | (simp only [hji15] at H ⊢; exact H)
                have hji15w : (IntKind.i64.wrap ((wrap64 ((l0.length : Int) - 1)) - x34_2)) = ji15 := (i64_w _).trans hji15
                by_cases c16 : 0 ≤ (ji15)
                · rw [if_pos c16] at H
                  have c16b0 : decide (0 ≤ (ji15)) = true := decide_eq_true c16
                  clear c16
                  by_cases c17 : (ji15) < (l0.length : Int)
                  · rw [if_pos c17] at H
                    have c17b0 : decide ((ji15) < (l0.length : Int)) = true := decide_eq_true c17
                    clear c17
                    by_cases c18 : x7_2.length < 5864062014805
                    · rw [if_pos c18] at H
                      have LMc18 := Aside0.mk c18
                      clear c18
                      obtain ⟨y249, hy249⟩ : ∃ y_ : List (List Int), y_ = (x7_2 ++ [rd_L1 l0 (ji15)]) := ⟨_, rfl⟩
                      replace H : (rillmeterlaw03_SolveTurns.l0 k2 l0 t242 y249 (l0.length : Int) (wrap64 (x34_2 + 1))) = some r := by first | (rw [hy249]; with_reducible exact H) | (have H2_ := (Option.bind_some _ _).symm.trans H; rw [hy249]; with_reducible exact H2_) | (have H2_ := (Option.bind_some _ _).symm.trans H; with_reducible exact H2_) | with_reducible exact H | (rw [hy249]; exact H) | exact H
                      have Ny249 := Aside0.mk hy249
                      clear hy249
                      have H' := Aside0.mk H
                      clear H
                      have p248 : 0 ≤ ((ji15) : Int) := of_decide_eq_true (by first | (with_reducible assumption) | assumption)
                      have q248 : (ji15) < (l0.length : Int) := of_decide_eq_true (by first | (with_reducible assumption) | assumption)
                      obtain ⟨ad248, A248_0, c248_0, e248, hx248_0, hl248_0, hi248_0⟩ := at_L1 (Kd.V_reads' HO_0.out).2.2 (ji15) p248 q248
                      cases e248
                      obtain ⟨ce248, hce248, hMe248, hcc248⟩ := Kd.V_get HO_0.out [] (ji15) p248 (by first | exact q248 | exact of_decide_eq_true (by first | (with_reducible assumption) | assumption) | (have e_ := (Kd.V_reads' HO_0.out).1; omega))
                      obtain ⟨ua248_0, uc248_0, rfl, ul248_0, ge248_0⟩ := Kd.FK_slice_open hMe248
                      have hv248_0 := hcc248 0 _ rfl
                      rw [Nat.add_zero, show ((Kd.slice 36 (Kd.int .u64))).sz = 1 from rfl, Nat.mul_one] at hv248_0
                      replace hv248_0 := Option.some.inj (hv248_0.symm.trans hx248_0)
                      injection hv248_0 with hva_ hvn_ hvc_
                      rw [hva_] at ge248_0
                      rw [hvc_] at ul248_0
                      have HL248_0 := Aside0.mk (show Kd.V (Kd.int .u64) 36 _ w.heap.size _ _ (rd_L1 l0 (ji15)) from Kd.V_mk ul248_0 ge248_0)
                      clear hva_ hvn_ hvc_ ge248_0 ul248_0
                      clear hcc248 hce248
                      have HR248_0 := Aside0.mk hi248_0
                      have HC248_0 := Aside0.mk hl248_0
                      clear hi248_0 hl248_0
                      replace p248 := eq_true p248
                      replace q248 := eq_true q248
                      go_wp2_with (first | ((with_reducible refine gate_builtin (b := .append) (xs := #[.tmp 37, .tmp 46]) rfl ?_); (try (refine gate_guard (by rfl) ?_; dsimp only)); at_builtin; refine Kd.N_append (Kd.slice 36 (Kd.int .u64)) (w0 := w) w.heap.size rfl (.tmp 37) (.tmp 46) 22 30 (.slice none 0 0) 24 rfl Try.underlying22 info30 rfl (by decide) (by omega) u7 x7_2 (rd_L1 l0 (ji15)) [.slice A248_0 (rd_L1 l0 (ji15)).length c248_0] (fun k_ => ((P0_ k_ ∨ P1_ k_) ∨ w.heap.size ≤ k_)) (fun k_ => ((fun k_ => ((P0_ k_ ∨ P1_ k_) ∨ w.heap.size ≤ k_))) k_ ∧ some k_ ≠ (u7 : Value).ownBlock) rfl rfl ?aP (fun _ hk => hk) ?aF ?aO ?aB ?aS ?aL ?_; (case aP => exact (Kd.FK_slice_mk (Kd.V_reads' (Kd.V_mono (ok' := (fun k_ => ((fun k_ => ((P0_ k_ ∨ P1_ k_) ∨ w.heap.size ≤ k_))) k_ ∧ some k_ ≠ (u7 : Value).ownBlock)) (HL248_0.out) (fun k_ hk => ⟨hk.1, hk.2⟩))).2.1 (Kd.V_F (Kd.V_mono (ok' := (fun k_ => ((fun k_ => ((P0_ k_ ∨ P1_ k_) ∨ w.heap.size ≤ k_))) k_ ∧ some k_ ≠ (u7 : Value).ownBlock)) (HL248_0.out) (fun k_ hk => ⟨hk.1, hk.2⟩))))); (case aB => exact (by repeat (first | (with_reducible first | exact HB.out | apply below_alloc | apply pw_below_drewN | apply below_drew1) | exact HB.out))); (case aF => exact (fun k_ hk => (.inr (Nat.le_trans (below_size (by repeat (first | (with_reducible first | exact HB.out | apply below_alloc | apply pw_below_drewN | apply below_drew1) | exact HB.out))) hk)))); (case aO => exact (by (with_reducible repeat (first | apply Kd.N_alloc | apply Kd.N_drewN | apply Kd.N_drew)); exact HO_7.out)); (case aS => exact (below_size (by repeat (first | (with_reducible first | exact HB.out | apply below_alloc | apply pw_below_drewN | apply below_drew1) | exact HB.out)))); (case aL => have := LMc18.out; omega); intro v250 w19 ho hb hg hat; rw [← Ny249.out] at ho; have n0_ := Aside0.mk (Kd.V_afterv (ok := (fun k_ => ((P0_ k_ ∨ P1_ k_) ∨ w.heap.size ≤ k_))) (by (with_reducible repeat (first | apply Kd.V_alloc | apply Kd.V_drewN | apply Kd.V_drew)); exact HO_0.out) hg hat); have n1_ := Aside0.mk (Kd.V_afterv (ok := (fun k_ => ((P0_ k_ ∨ P1_ k_) ∨ w.heap.size ≤ k_))) (by (with_reducible repeat (first | apply Kd.V_alloc | apply Kd.V_drewN | apply Kd.V_drew)); exact HL248_0.out) hg hat); have n2_ := Aside0.mk (hb); have n3_ := Aside0.mk (ho); clear HO_0; clear HL248_0; clear HB; clear HO_7; have HO_0 := n0_; have HL248_0 := n1_; have HB := n2_; have HO251 := n3_; clear n0_ n1_ n2_ n3_; clear ho hb hg hat))
                      go_roundg k2
                      case measure => have := HJ2.out; have := HK2.out; omega
                      case rel => exact ⟨(y249), (wrap64 (x34_2 + 1)), (by first | rfl | (simp; done) | (simp [*]; done)), H', ⟨by have := HJ2.out; have := HK2.out; omega⟩, ⟨by (with_reducible repeat (first | apply Kd.V_alloc | apply Kd.V_drewN | apply Kd.V_drew)); exact HO_0.out⟩, ⟨by (with_reducible repeat (first | apply Kd.N_alloc | apply Kd.N_drewN | apply Kd.N_drew)); exact HO251.out⟩, ⟨by repeat (first | (with_reducible first | exact HB.out | apply below_alloc | apply pw_below_drewN | apply below_drew1) | exact HB.out)⟩⟩
                    · rw [if_neg c18] at H
                      exact absurd H (by simp)
                  · rw [if_neg c17] at H
                    exact absurd H (by simp)
                · rw [if_neg c16] at H
                  exact absurd H (by simp)
              · rw [if_neg c14] at H
                have c14b0 : decide (x34_2 < (l0.length : Int)) = false := decide_eq_false c14
                clear c14
                by_cases c20 : 1 ≤ (x7_2.length : Int)
                · rw [if_pos c20] at H
                  have c20b0 := eq_true c20
                  have c20b1 : decide (1 ≤ (x7_2.length : Int)) = true := decide_eq_true c20
                  clear c20
                  obtain ⟨y252, hy252⟩ : ∃ y_ : List (List Int), y_ = (x7_2.drop 1) := ⟨_, rfl⟩
                  replace H : ((solve_Rank.f k2 y252).bind fun bt257 => ((solve_Rank.f k2 x7_2).bind fun bt259 => (if bt257.1 = t242 then (if bt257.2 = 0 then (if t242 > (l0.length : Int) then (some false) else (if (l0.length : Int) > 0 then (if 0 < (l0.length : Int) then (if t242 > ((rd_L1 l0 0).length : Int) then (some false) else (if bt259.2 = 0 then (if bt259.1 ≥ t242 then (if bt259.1 ≤ (wrap64 (t242 + 1)) then ((rillmeterlaw03_awake.f k2).bind fun t262 => (some t262)) else (some false)) else (some false)) else ((rillmeterlaw03_awake.f k2).bind fun t263 => (some t263)))) else (none)) else (if bt259.2 = 0 then (if bt259.1 ≥ t242 then (if bt259.1 ≤ (wrap64 (t242 + 1)) then ((rillmeterlaw03_awake.f k2).bind fun t264 => (some t264)) else (some false)) else (some false)) else ((rillmeterlaw03_awake.f k2).bind fun t265 => (some t265))))) else (some false)) else (some false)))) = some r := by first | (rw [hy252]; with_reducible exact H) | (have H2_ := (Option.bind_some _ _).symm.trans H; rw [hy252]; with_reducible exact H2_) | (have H2_ := (Option.bind_some _ _).symm.trans H; with_reducible exact H2_) | with_reducible exact H | (rw [hy252]; exact H) | exact H
                  have Ny252 := Aside0.mk hy252
                  clear hy252
                  replace H := Option.bind_eq_some_iff.mp H
                  obtain ⟨⟨t257, t258⟩, A210, H⟩ := H
                  replace H : ((solve_Rank.f k2 x7_2).bind fun bt259 => (if t257 = t242 then (if t258 = 0 then (if t242 > (l0.length : Int) then (some false) else (if (l0.length : Int) > 0 then (if 0 < (l0.length : Int) then (if t242 > ((rd_L1 l0 0).length : Int) then (some false) else (if bt259.2 = 0 then (if bt259.1 ≥ t242 then (if bt259.1 ≤ (wrap64 (t242 + 1)) then ((rillmeterlaw03_awake.f k2).bind fun t262 => (some t262)) else (some false)) else (some false)) else ((rillmeterlaw03_awake.f k2).bind fun t263 => (some t263)))) else (none)) else (if bt259.2 = 0 then (if bt259.1 ≥ t242 then (if bt259.1 ≤ (wrap64 (t242 + 1)) then ((rillmeterlaw03_awake.f k2).bind fun t264 => (some t264)) else (some false)) else (some false)) else ((rillmeterlaw03_awake.f k2).bind fun t265 => (some t265))))) else (some false)) else (some false))) = some r := H
                  have A21 := Aside0.mk A210
                  clear A210
                  replace H := Option.bind_eq_some_iff.mp H
                  obtain ⟨⟨t259, t260⟩, A220, H⟩ := H
                  replace H : (if t257 = t242 then (if t258 = 0 then (if t242 > (l0.length : Int) then (some false) else (if (l0.length : Int) > 0 then (if 0 < (l0.length : Int) then (if t242 > ((rd_L1 l0 0).length : Int) then (some false) else (if t260 = 0 then (if t259 ≥ t242 then (if t259 ≤ (wrap64 (t242 + 1)) then ((rillmeterlaw03_awake.f k2).bind fun t262 => (some t262)) else (some false)) else (some false)) else ((rillmeterlaw03_awake.f k2).bind fun t263 => (some t263)))) else (none)) else (if t260 = 0 then (if t259 ≥ t242 then (if t259 ≤ (wrap64 (t242 + 1)) then ((rillmeterlaw03_awake.f k2).bind fun t264 => (some t264)) else (some false)) else (some false)) else ((rillmeterlaw03_awake.f k2).bind fun t265 => (some t265))))) else (some false)) else (some false)) = some r := H
                  have A22 := Aside0.mk A220
                  clear A220
                  by_cases c23 : t257 = t242
                  · rw [if_pos c23] at H
                    have c23b0 : (t257 == t242) = true := beq_iff_eq.mpr c23
                    have c23b1 : (t257 != t242) = false := bne_eq_false_iff_eq.mpr c23
                    clear c23
                    by_cases c24 : t258 = 0
                    · rw [if_pos c24] at H
                      have c24b0 : (t258 == 0) = true := beq_iff_eq.mpr c24
                      have c24b1 : (t258 != 0) = false := bne_eq_false_iff_eq.mpr c24
                      clear c24
                      by_cases c25 : t242 > (l0.length : Int)
                      · rw [if_pos c25] at H
                        have c25b0 : decide ((l0.length : Int) < t242) = true := decide_eq_true c25
                        clear c25
                        exact absurd ((Option.some.inj H).trans hrt.out) (by decide)
                      · rw [if_neg c25] at H
                        have c25b0 : decide ((l0.length : Int) < t242) = false := decide_eq_false c25
                        clear c25
                        by_cases c26 : (l0.length : Int) > 0
                        · rw [if_pos c26] at H
                          have c26b0 : decide (0 < (l0.length : Int)) = true := decide_eq_true c26
                          have c26b1 : decide (0 < l0.length) = true := decide_eq_true (by omega)
                          clear c26
                          by_cases c27 : 0 < (l0.length : Int)
                          · rw [if_pos c27] at H
                            have c27b0 : decide (0 < (l0.length : Int)) = true := decide_eq_true c27
                            have c27b1 : decide (0 < l0.length) = true := decide_eq_true (by omega)
                            clear c27
                            by_cases c28 : t242 > ((rd_L1 l0 0).length : Int)
                            · rw [if_pos c28] at H
                              have c28b0 : decide (((rd_L1 l0 0).length : Int) < t242) = true := decide_eq_true c28
                              clear c28
                              exact absurd ((Option.some.inj H).trans hrt.out) (by decide)
                            · rw [if_neg c28] at H
                              have c28b0 : decide (((rd_L1 l0 0).length : Int) < t242) = false := decide_eq_false c28
                              clear c28
                              by_cases c29 : t260 = 0
                              · rw [if_pos c29] at H
                                have c29b0 : (t260 == 0) = true := beq_iff_eq.mpr c29
                                have c29b1 : (t260 != 0) = false := bne_eq_false_iff_eq.mpr c29
                                clear c29
                                by_cases c30 : t259 ≥ t242
                                · rw [if_pos c30] at H
                                  have c30b0 : decide (t242 ≤ t259) = true := decide_eq_true c30
                                  clear c30
                                  by_cases c31 : t259 ≤ (wrap64 (t242 + 1))
                                  · rw [if_pos c31] at H
                                    have c31b0 : decide (t259 ≤ (wrap64 (t242 + 1))) = true := decide_eq_true c31
                                    clear c31
                                    replace H := Option.bind_eq_some_iff.mp H
                                    obtain ⟨t262, A320, H⟩ := H
                                    replace H : (some t262) = some r := H
                                    have A32 := Aside0.mk A320
                                    clear A320
                                    obtain rfl := Option.some.inj H
                                    obtain ⟨Ao34, co34, eo34⟩ := Kd.N_slice HO_7.out
                                    subst eo34
                                    have q33 : (1 : Int) ≤ ((x7_2.length : Int) : Int) := of_decide_eq_true (by first | (with_reducible assumption) | assumption)
                                    obtain ⟨i033, hi033, _, hsz33, _⟩ := info_parts info30
                                    have hroom33 : x7_2.length ≤ co34 := (Kd.N_reads' HO_7.out).2.1
                                    have hC33 : Kd.F (Kd.slice 36 (Kd.int .u64)) _ _ Ao34 x7_2.length x7_2 := (Kd.V_at (base := w.heap.size) (Kd.N_V HO_7.out)).2.2
                                    have hcut33 := cut_from (P := Try.prog) 22 30 .i64 Try.underlying22 hi033 1 hsz33 Ao34 x7_2.length co34 1 (by omega) q33
                                    have hr33 := Kd.F_cut (m := (1 : Int).toNat) (c := co34) hC33 (by omega) hroom33
                                    obtain ⟨A33, hA33⟩ : ∃ A1, A1 = (if co34 = (1 : Int).toNat then Ao34 else (Ao34 : Option Addr).map (·.add ((1 : Int).toNat * 1))) := ⟨_, rfl⟩
                                    obtain ⟨c33, hc33⟩ : ∃ c1, c1 = co34 - (1 : Int).toNat := ⟨_, rfl⟩
                                    have hy33 : y252.length = x7_2.length - (1 : Int).toNat := (by rw [Ny252.out, List.length_drop] <;> omega)
                                    rw [show (x7_2).drop (1 : Int).toNat = y252 from Ny252.out.symm] at hr33
                                    replace hr33 : Kd.F (Kd.slice 36 (Kd.int .u64)) _ _ A33 y252.length y252 := (by rw [hA33]; exact hr33)
                                    rw [← hy33, ← hA33, ← hc33] at hcut33
                                    have HO256 := Aside0.mk (show Kd.V (Kd.slice 36 (Kd.int .u64)) 30 _ w.heap.size _ (.slice A33 y252.length c33) y252 from Kd.V_mk (by rw [hy33, hc33]; exact Nat.sub_le_sub_right hroom33 _) hr33)
                                    have HC256 := Aside0.mk (show y252.length ≤ c33 from by rw [hy33, hc33]; exact Nat.sub_le_sub_right hroom33 _)
                                    clear hr33 hC33 hroom33 hi033 hsz33 hc33
                                    have KY33 := Aside0.mk hy33
                                    have KA33 := Aside0.mk hA33
                                    clear hy33 hA33
                                    replace q33 := eq_true q33
                                    go_wp2_with (first | ((with_reducible refine gate_callee (f := 11) rfl ?_); refine goesL_ (some 52) rfl rfl Try.func11 (by kernel_rfl) rfl #[.slice A33 y252.length c33] rfl (by (try simp only [List.map_toArray, List.map_cons, List.map_nil]); first | done | rfl | (simp only [List.length_drop, List.length_take]; rfl)) ?_; (with_reducible refine (solve_Rank.calls k2 _ _ y252 t257 t258 _ ?side1 ?side2 A21.out).mono ?_); (case side1 => repeat (first | exact (Kd.V_reads' HO256.out).2.2 | (with_reducible refine Kd.C_alloc ?_ _) | (with_reducible refine Kd.C_drewN ?_ _) | (with_reducible refine Kd.C_drew ?_))); (case side2 => exact (Kd.V_reads' HO256.out).2.1); rintro e w35 ⟨rfl, hb⟩; refine ⟨_, rfl, ?_⟩; have n0_ := Aside0.mk (Kd.V_below (by (with_reducible repeat (first | apply Kd.V_alloc | apply Kd.V_drewN | apply Kd.V_drew)); exact HO_0.out) hb); have n1_ := Aside0.mk (Kd.N_below (by (with_reducible repeat (first | apply Kd.N_alloc | apply Kd.N_drewN | apply Kd.N_drew)); exact HO_7.out) hb); have n2_ := Aside0.mk (Kd.V_below (by (with_reducible repeat (first | apply Kd.V_alloc | apply Kd.V_drewN | apply Kd.V_drew)); exact HO256.out) hb); have n3_ := Aside0.mk (below_step (by repeat (first | (with_reducible first | exact HB.out | apply below_alloc | apply pw_below_drewN | apply below_drew1) | exact HB.out)) hb); clear HO_0; clear HO_7; clear HO256; clear HB; have HO_0 := n0_; have HO_7 := n1_; have HO256 := n2_; have HB := n3_; clear n0_ n1_ n2_ n3_; (try clear hb); (try clear hb2); (try clear hk); (try clear hi)) | ((with_reducible refine gate_callee (f := 11) rfl ?_); refine goesL_ (some 57) rfl rfl Try.func11 (by kernel_rfl) rfl #[.slice Ao34 x7_2.length co34] rfl (by (try simp only [List.map_toArray, List.map_cons, List.map_nil]); first | done | rfl | (simp only [List.length_drop, List.length_take]; rfl)) ?_; (with_reducible refine (solve_Rank.calls k2 _ _ x7_2 t259 t260 _ ?side1 ?side2 A22.out).mono ?_); (case side1 => repeat (first | exact (Kd.N_reads' HO_7.out).2.2 | (with_reducible refine Kd.C_alloc ?_ _) | (with_reducible refine Kd.C_drewN ?_ _) | (with_reducible refine Kd.C_drew ?_))); (case side2 => exact (Kd.N_reads' HO_7.out).2.1); rintro e w36 ⟨rfl, hb⟩; refine ⟨_, rfl, ?_⟩; have n0_ := Aside0.mk (Kd.V_below (by (with_reducible repeat (first | apply Kd.V_alloc | apply Kd.V_drewN | apply Kd.V_drew)); exact HO_0.out) hb); have n1_ := Aside0.mk (Kd.N_below (by (with_reducible repeat (first | apply Kd.N_alloc | apply Kd.N_drewN | apply Kd.N_drew)); exact HO_7.out) hb); have n2_ := Aside0.mk (Kd.V_below (by (with_reducible repeat (first | apply Kd.V_alloc | apply Kd.V_drewN | apply Kd.V_drew)); exact HO256.out) hb); have n3_ := Aside0.mk (below_step (by repeat (first | (with_reducible first | exact HB.out | apply below_alloc | apply pw_below_drewN | apply below_drew1) | exact HB.out)) hb); clear HO_0; clear HO_7; clear HO256; clear HB; have HO_0 := n0_; have HO_7 := n1_; have HO256 := n2_; have HB := n3_; clear n0_ n1_ n2_ n3_; (try clear hb); (try clear hb2); (try clear hk); (try clear hi); have p261 : 0 ≤ (0 : Int) := (by omega); have q261 : 0 < (l0.length : Int) := of_decide_eq_true (by first | (with_reducible assumption) | assumption); obtain ⟨ad261, A261_0, c261_0, e261, hx261_0, hl261_0, hi261_0⟩ := at_L1 (Kd.V_reads' HO_0.out).2.2 0 p261 q261; cases e261; obtain ⟨ce261, hce261, hMe261, hcc261⟩ := Kd.V_get HO_0.out [] 0 p261 (by first | exact q261 | exact of_decide_eq_true (by first | (with_reducible assumption) | assumption) | (have e_ := (Kd.V_reads' HO_0.out).1; omega)); obtain ⟨ua261_0, uc261_0, rfl, ul261_0, ge261_0⟩ := Kd.FK_slice_open hMe261; have hv261_0 := hcc261 0 _ rfl; rw [Nat.add_zero, show ((Kd.slice 36 (Kd.int .u64))).sz = 1 from rfl, Nat.mul_one] at hv261_0; replace hv261_0 := Option.some.inj (hv261_0.symm.trans hx261_0); injection hv261_0 with hva_ hvn_ hvc_; rw [hva_] at ge261_0; rw [hvc_] at ul261_0; have HL261_0 := Aside0.mk (show Kd.V (Kd.int .u64) 36 _ w.heap.size _ _ (rd_L1 l0 0) from Kd.V_mk ul261_0 ge261_0); clear hva_ hvn_ hvc_ ge261_0 ul261_0; clear hcc261 hce261; have qi261 : (0 < l0.length) = True := eq_true (by omega); (try rw [show ((0 : Int)).toNat = 0 from rfl] at hx261_0); (try rw [Addr.add_zero'] at hx261_0); have HR261_0 := Aside0.mk hi261_0; have HC261_0 := Aside0.mk hl261_0; clear hi261_0 hl261_0; replace p261 := eq_true p261; replace q261 := eq_true q261) | (go_at_call 10; (with_reducible refine (rillmeterlaw03_awake.calls k2  t262 _ A32.out).mono ?_); rintro e w37 ⟨rfl, hb⟩; have n0_ := Aside0.mk (Kd.V_below (by (with_reducible repeat (first | apply Kd.V_alloc | apply Kd.V_drewN | apply Kd.V_drew)); exact HO_0.out) hb); have n1_ := Aside0.mk (Kd.N_below (by (with_reducible repeat (first | apply Kd.N_alloc | apply Kd.N_drewN | apply Kd.N_drew)); exact HO_7.out) hb); have n2_ := Aside0.mk (Kd.V_below (by (with_reducible repeat (first | apply Kd.V_alloc | apply Kd.V_drewN | apply Kd.V_drew)); exact HO256.out) hb); have n3_ := Aside0.mk (Kd.V_below (by (with_reducible repeat (first | apply Kd.V_alloc | apply Kd.V_drewN | apply Kd.V_drew)); exact HL261_0.out) hb); have n4_ := Aside0.mk (Kd.C_below (by repeat (first | (with_reducible exact HR261_0.out) | (with_reducible refine Kd.C_alloc ?_ _) | (with_reducible refine Kd.C_drewN ?_ _) | (with_reducible refine Kd.C_drew ?_) | exact HR261_0.out)) hb); have n5_ := Aside0.mk (below_step (by repeat (first | (with_reducible first | exact HB.out | apply below_alloc | apply pw_below_drewN | apply below_drew1) | exact HB.out)) hb); clear HO_0; clear HO_7; clear HO256; clear HL261_0; clear HR261_0; clear HB; have HO_0 := n0_; have HO_7 := n1_; have HO256 := n2_; have HL261_0 := n3_; have HR261_0 := n4_; have HB := n5_; clear n0_ n1_ n2_ n3_ n4_ n5_; (try clear hb); (try clear hb2); (try clear hk); (try clear hi)))
                                    go_ret
                                    exact ⟨by first | rfl | (simp [errW_none, errW_some] <;> rfl) | (simp [*, errW_none, errW_some] <;> rfl), by repeat (first | (with_reducible first | exact HB.out | apply below_alloc | apply pw_below_drewN | apply below_drew1) | exact HB.out)⟩
                                  · rw [if_neg c31] at H
                                    have c31b0 : decide (t259 ≤ (wrap64 (t242 + 1))) = false := decide_eq_false c31
                                    clear c31
                                    exact absurd ((Option.some.inj H).trans hrt.out) (by decide)
                                · rw [if_neg c30] at H
                                  have c30b0 : decide (t242 ≤ t259) = false := decide_eq_false c30
                                  clear c30
                                  exact absurd ((Option.some.inj H).trans hrt.out) (by decide)
                              · rw [if_neg c29] at H
                                have c29b0 : (t260 == 0) = false := beq_eq_false_iff_ne.mpr c29
                                have c29b1 : (t260 != 0) = true := bne_iff_ne.mpr c29
                                replace H := Option.bind_eq_some_iff.mp H
                                obtain ⟨t263, A380, H⟩ := H
                                replace H : (some t263) = some r := H
                                have A38 := Aside0.mk A380
                                clear A380
                                obtain rfl := Option.some.inj H
                                obtain ⟨Ao40, co40, eo40⟩ := Kd.N_slice HO_7.out
                                subst eo40
                                have q39 : (1 : Int) ≤ ((x7_2.length : Int) : Int) := of_decide_eq_true (by first | (with_reducible assumption) | assumption)
                                obtain ⟨i039, hi039, _, hsz39, _⟩ := info_parts info30
                                have hroom39 : x7_2.length ≤ co40 := (Kd.N_reads' HO_7.out).2.1
                                have hC39 : Kd.F (Kd.slice 36 (Kd.int .u64)) _ _ Ao40 x7_2.length x7_2 := (Kd.V_at (base := w.heap.size) (Kd.N_V HO_7.out)).2.2
                                have hcut39 := cut_from (P := Try.prog) 22 30 .i64 Try.underlying22 hi039 1 hsz39 Ao40 x7_2.length co40 1 (by omega) q39
                                have hr39 := Kd.F_cut (m := (1 : Int).toNat) (c := co40) hC39 (by omega) hroom39
                                obtain ⟨A39, hA39⟩ : ∃ A1, A1 = (if co40 = (1 : Int).toNat then Ao40 else (Ao40 : Option Addr).map (·.add ((1 : Int).toNat * 1))) := ⟨_, rfl⟩
                                obtain ⟨c39, hc39⟩ : ∃ c1, c1 = co40 - (1 : Int).toNat := ⟨_, rfl⟩
                                have hy39 : y252.length = x7_2.length - (1 : Int).toNat := (by rw [Ny252.out, List.length_drop] <;> omega)
                                rw [show (x7_2).drop (1 : Int).toNat = y252 from Ny252.out.symm] at hr39
                                replace hr39 : Kd.F (Kd.slice 36 (Kd.int .u64)) _ _ A39 y252.length y252 := (by rw [hA39]; exact hr39)
                                rw [← hy39, ← hA39, ← hc39] at hcut39
                                have HO256 := Aside0.mk (show Kd.V (Kd.slice 36 (Kd.int .u64)) 30 _ w.heap.size _ (.slice A39 y252.length c39) y252 from Kd.V_mk (by rw [hy39, hc39]; exact Nat.sub_le_sub_right hroom39 _) hr39)
                                have HC256 := Aside0.mk (show y252.length ≤ c39 from by rw [hy39, hc39]; exact Nat.sub_le_sub_right hroom39 _)
                                clear hr39 hC39 hroom39 hi039 hsz39 hc39
                                have KY39 := Aside0.mk hy39
                                have KA39 := Aside0.mk hA39
                                clear hy39 hA39
                                replace q39 := eq_true q39
                                go_wp2_with (first | ((with_reducible refine gate_callee (f := 11) rfl ?_); refine goesL_ (some 52) rfl rfl Try.func11 (by kernel_rfl) rfl #[.slice A39 y252.length c39] rfl (by (try simp only [List.map_toArray, List.map_cons, List.map_nil]); first | done | rfl | (simp only [List.length_drop, List.length_take]; rfl)) ?_; (with_reducible refine (solve_Rank.calls k2 _ _ y252 t257 t258 _ ?side1 ?side2 A21.out).mono ?_); (case side1 => repeat (first | exact (Kd.V_reads' HO256.out).2.2 | (with_reducible refine Kd.C_alloc ?_ _) | (with_reducible refine Kd.C_drewN ?_ _) | (with_reducible refine Kd.C_drew ?_))); (case side2 => exact (Kd.V_reads' HO256.out).2.1); rintro e w41 ⟨rfl, hb⟩; refine ⟨_, rfl, ?_⟩; have n0_ := Aside0.mk (Kd.V_below (by (with_reducible repeat (first | apply Kd.V_alloc | apply Kd.V_drewN | apply Kd.V_drew)); exact HO_0.out) hb); have n1_ := Aside0.mk (Kd.N_below (by (with_reducible repeat (first | apply Kd.N_alloc | apply Kd.N_drewN | apply Kd.N_drew)); exact HO_7.out) hb); have n2_ := Aside0.mk (Kd.V_below (by (with_reducible repeat (first | apply Kd.V_alloc | apply Kd.V_drewN | apply Kd.V_drew)); exact HO256.out) hb); have n3_ := Aside0.mk (below_step (by repeat (first | (with_reducible first | exact HB.out | apply below_alloc | apply pw_below_drewN | apply below_drew1) | exact HB.out)) hb); clear HO_0; clear HO_7; clear HO256; clear HB; have HO_0 := n0_; have HO_7 := n1_; have HO256 := n2_; have HB := n3_; clear n0_ n1_ n2_ n3_; (try clear hb); (try clear hb2); (try clear hk); (try clear hi)) | ((with_reducible refine gate_callee (f := 11) rfl ?_); refine goesL_ (some 57) rfl rfl Try.func11 (by kernel_rfl) rfl #[.slice Ao40 x7_2.length co40] rfl (by (try simp only [List.map_toArray, List.map_cons, List.map_nil]); first | done | rfl | (simp only [List.length_drop, List.length_take]; rfl)) ?_; (with_reducible refine (solve_Rank.calls k2 _ _ x7_2 t259 t260 _ ?side1 ?side2 A22.out).mono ?_); (case side1 => repeat (first | exact (Kd.N_reads' HO_7.out).2.2 | (with_reducible refine Kd.C_alloc ?_ _) | (with_reducible refine Kd.C_drewN ?_ _) | (with_reducible refine Kd.C_drew ?_))); (case side2 => exact (Kd.N_reads' HO_7.out).2.1); rintro e w42 ⟨rfl, hb⟩; refine ⟨_, rfl, ?_⟩; have n0_ := Aside0.mk (Kd.V_below (by (with_reducible repeat (first | apply Kd.V_alloc | apply Kd.V_drewN | apply Kd.V_drew)); exact HO_0.out) hb); have n1_ := Aside0.mk (Kd.N_below (by (with_reducible repeat (first | apply Kd.N_alloc | apply Kd.N_drewN | apply Kd.N_drew)); exact HO_7.out) hb); have n2_ := Aside0.mk (Kd.V_below (by (with_reducible repeat (first | apply Kd.V_alloc | apply Kd.V_drewN | apply Kd.V_drew)); exact HO256.out) hb); have n3_ := Aside0.mk (below_step (by repeat (first | (with_reducible first | exact HB.out | apply below_alloc | apply pw_below_drewN | apply below_drew1) | exact HB.out)) hb); clear HO_0; clear HO_7; clear HO256; clear HB; have HO_0 := n0_; have HO_7 := n1_; have HO256 := n2_; have HB := n3_; clear n0_ n1_ n2_ n3_; (try clear hb); (try clear hb2); (try clear hk); (try clear hi); have p261 : 0 ≤ (0 : Int) := (by omega); have q261 : 0 < (l0.length : Int) := of_decide_eq_true (by first | (with_reducible assumption) | assumption); obtain ⟨ad261, A261_0, c261_0, e261, hx261_0, hl261_0, hi261_0⟩ := at_L1 (Kd.V_reads' HO_0.out).2.2 0 p261 q261; cases e261; obtain ⟨ce261, hce261, hMe261, hcc261⟩ := Kd.V_get HO_0.out [] 0 p261 (by first | exact q261 | exact of_decide_eq_true (by first | (with_reducible assumption) | assumption) | (have e_ := (Kd.V_reads' HO_0.out).1; omega)); obtain ⟨ua261_0, uc261_0, rfl, ul261_0, ge261_0⟩ := Kd.FK_slice_open hMe261; have hv261_0 := hcc261 0 _ rfl; rw [Nat.add_zero, show ((Kd.slice 36 (Kd.int .u64))).sz = 1 from rfl, Nat.mul_one] at hv261_0; replace hv261_0 := Option.some.inj (hv261_0.symm.trans hx261_0); injection hv261_0 with hva_ hvn_ hvc_; rw [hva_] at ge261_0; rw [hvc_] at ul261_0; have HL261_0 := Aside0.mk (show Kd.V (Kd.int .u64) 36 _ w.heap.size _ _ (rd_L1 l0 0) from Kd.V_mk ul261_0 ge261_0); clear hva_ hvn_ hvc_ ge261_0 ul261_0; clear hcc261 hce261; have qi261 : (0 < l0.length) = True := eq_true (by omega); (try rw [show ((0 : Int)).toNat = 0 from rfl] at hx261_0); (try rw [Addr.add_zero'] at hx261_0); have HR261_0 := Aside0.mk hi261_0; have HC261_0 := Aside0.mk hl261_0; clear hi261_0 hl261_0; replace p261 := eq_true p261; replace q261 := eq_true q261) | (go_at_call 10; (with_reducible refine (rillmeterlaw03_awake.calls k2  t263 _ A38.out).mono ?_); rintro e w43 ⟨rfl, hb⟩; have n0_ := Aside0.mk (Kd.V_below (by (with_reducible repeat (first | apply Kd.V_alloc | apply Kd.V_drewN | apply Kd.V_drew)); exact HO_0.out) hb); have n1_ := Aside0.mk (Kd.N_below (by (with_reducible repeat (first | apply Kd.N_alloc | apply Kd.N_drewN | apply Kd.N_drew)); exact HO_7.out) hb); have n2_ := Aside0.mk (Kd.V_below (by (with_reducible repeat (first | apply Kd.V_alloc | apply Kd.V_drewN | apply Kd.V_drew)); exact HO256.out) hb); have n3_ := Aside0.mk (Kd.V_below (by (with_reducible repeat (first | apply Kd.V_alloc | apply Kd.V_drewN | apply Kd.V_drew)); exact HL261_0.out) hb); have n4_ := Aside0.mk (Kd.C_below (by repeat (first | (with_reducible exact HR261_0.out) | (with_reducible refine Kd.C_alloc ?_ _) | (with_reducible refine Kd.C_drewN ?_ _) | (with_reducible refine Kd.C_drew ?_) | exact HR261_0.out)) hb); have n5_ := Aside0.mk (below_step (by repeat (first | (with_reducible first | exact HB.out | apply below_alloc | apply pw_below_drewN | apply below_drew1) | exact HB.out)) hb); clear HO_0; clear HO_7; clear HO256; clear HL261_0; clear HR261_0; clear HB; have HO_0 := n0_; have HO_7 := n1_; have HO256 := n2_; have HL261_0 := n3_; have HR261_0 := n4_; have HB := n5_; clear n0_ n1_ n2_ n3_ n4_ n5_; (try clear hb); (try clear hb2); (try clear hk); (try clear hi)))
                                go_ret
                                exact ⟨by first | rfl | (simp [errW_none, errW_some] <;> rfl) | (simp [*, errW_none, errW_some] <;> rfl), by repeat (first | (with_reducible first | exact HB.out | apply below_alloc | apply pw_below_drewN | apply below_drew1) | exact HB.out)⟩
                          · rw [if_neg c27] at H
                            exact absurd H (by simp)
                        · rw [if_neg c26] at H
                          have c26b0 : decide (0 < (l0.length : Int)) = false := decide_eq_false c26
                          have c26b1 : decide (0 < l0.length) = false := decide_eq_false (by omega)
                          clear c26
                          by_cases c44 : t260 = 0
                          · rw [if_pos c44] at H
                            have c44b0 : (t260 == 0) = true := beq_iff_eq.mpr c44
                            have c44b1 : (t260 != 0) = false := bne_eq_false_iff_eq.mpr c44
                            clear c44
                            by_cases c45 : t259 ≥ t242
                            · rw [if_pos c45] at H
                              have c45b0 : decide (t242 ≤ t259) = true := decide_eq_true c45
                              clear c45
                              by_cases c46 : t259 ≤ (wrap64 (t242 + 1))
                              · rw [if_pos c46] at H
                                have c46b0 : decide (t259 ≤ (wrap64 (t242 + 1))) = true := decide_eq_true c46
                                clear c46
                                replace H := Option.bind_eq_some_iff.mp H
                                obtain ⟨t264, A470, H⟩ := H
                                replace H : (some t264) = some r := H
                                have A47 := Aside0.mk A470
                                clear A470
                                obtain rfl := Option.some.inj H
                                obtain ⟨Ao49, co49, eo49⟩ := Kd.N_slice HO_7.out
                                subst eo49
                                have q48 : (1 : Int) ≤ ((x7_2.length : Int) : Int) := of_decide_eq_true (by first | (with_reducible assumption) | assumption)
                                obtain ⟨i048, hi048, _, hsz48, _⟩ := info_parts info30
                                have hroom48 : x7_2.length ≤ co49 := (Kd.N_reads' HO_7.out).2.1
                                have hC48 : Kd.F (Kd.slice 36 (Kd.int .u64)) _ _ Ao49 x7_2.length x7_2 := (Kd.V_at (base := w.heap.size) (Kd.N_V HO_7.out)).2.2
                                have hcut48 := cut_from (P := Try.prog) 22 30 .i64 Try.underlying22 hi048 1 hsz48 Ao49 x7_2.length co49 1 (by omega) q48
                                have hr48 := Kd.F_cut (m := (1 : Int).toNat) (c := co49) hC48 (by omega) hroom48
                                obtain ⟨A48, hA48⟩ : ∃ A1, A1 = (if co49 = (1 : Int).toNat then Ao49 else (Ao49 : Option Addr).map (·.add ((1 : Int).toNat * 1))) := ⟨_, rfl⟩
                                obtain ⟨c48, hc48⟩ : ∃ c1, c1 = co49 - (1 : Int).toNat := ⟨_, rfl⟩
                                have hy48 : y252.length = x7_2.length - (1 : Int).toNat := (by rw [Ny252.out, List.length_drop] <;> omega)
                                rw [show (x7_2).drop (1 : Int).toNat = y252 from Ny252.out.symm] at hr48
                                replace hr48 : Kd.F (Kd.slice 36 (Kd.int .u64)) _ _ A48 y252.length y252 := (by rw [hA48]; exact hr48)
                                rw [← hy48, ← hA48, ← hc48] at hcut48
                                have HO256 := Aside0.mk (show Kd.V (Kd.slice 36 (Kd.int .u64)) 30 _ w.heap.size _ (.slice A48 y252.length c48) y252 from Kd.V_mk (by rw [hy48, hc48]; exact Nat.sub_le_sub_right hroom48 _) hr48)
                                have HC256 := Aside0.mk (show y252.length ≤ c48 from by rw [hy48, hc48]; exact Nat.sub_le_sub_right hroom48 _)
                                clear hr48 hC48 hroom48 hi048 hsz48 hc48
                                have KY48 := Aside0.mk hy48
                                have KA48 := Aside0.mk hA48
                                clear hy48 hA48
                                replace q48 := eq_true q48
                                go_wp2_with (first | ((with_reducible refine gate_callee (f := 11) rfl ?_); refine goesL_ (some 52) rfl rfl Try.func11 (by kernel_rfl) rfl #[.slice A48 y252.length c48] rfl (by (try simp only [List.map_toArray, List.map_cons, List.map_nil]); first | done | rfl | (simp only [List.length_drop, List.length_take]; rfl)) ?_; (with_reducible refine (solve_Rank.calls k2 _ _ y252 t257 t258 _ ?side1 ?side2 A21.out).mono ?_); (case side1 => repeat (first | exact (Kd.V_reads' HO256.out).2.2 | (with_reducible refine Kd.C_alloc ?_ _) | (with_reducible refine Kd.C_drewN ?_ _) | (with_reducible refine Kd.C_drew ?_))); (case side2 => exact (Kd.V_reads' HO256.out).2.1); rintro e w50 ⟨rfl, hb⟩; refine ⟨_, rfl, ?_⟩; have n0_ := Aside0.mk (Kd.V_below (by (with_reducible repeat (first | apply Kd.V_alloc | apply Kd.V_drewN | apply Kd.V_drew)); exact HO_0.out) hb); have n1_ := Aside0.mk (Kd.N_below (by (with_reducible repeat (first | apply Kd.N_alloc | apply Kd.N_drewN | apply Kd.N_drew)); exact HO_7.out) hb); have n2_ := Aside0.mk (Kd.V_below (by (with_reducible repeat (first | apply Kd.V_alloc | apply Kd.V_drewN | apply Kd.V_drew)); exact HO256.out) hb); have n3_ := Aside0.mk (below_step (by repeat (first | (with_reducible first | exact HB.out | apply below_alloc | apply pw_below_drewN | apply below_drew1) | exact HB.out)) hb); clear HO_0; clear HO_7; clear HO256; clear HB; have HO_0 := n0_; have HO_7 := n1_; have HO256 := n2_; have HB := n3_; clear n0_ n1_ n2_ n3_; (try clear hb); (try clear hb2); (try clear hk); (try clear hi)) | ((with_reducible refine gate_callee (f := 11) rfl ?_); refine goesL_ (some 57) rfl rfl Try.func11 (by kernel_rfl) rfl #[.slice Ao49 x7_2.length co49] rfl (by (try simp only [List.map_toArray, List.map_cons, List.map_nil]); first | done | rfl | (simp only [List.length_drop, List.length_take]; rfl)) ?_; (with_reducible refine (solve_Rank.calls k2 _ _ x7_2 t259 t260 _ ?side1 ?side2 A22.out).mono ?_); (case side1 => repeat (first | exact (Kd.N_reads' HO_7.out).2.2 | (with_reducible refine Kd.C_alloc ?_ _) | (with_reducible refine Kd.C_drewN ?_ _) | (with_reducible refine Kd.C_drew ?_))); (case side2 => exact (Kd.N_reads' HO_7.out).2.1); rintro e w51 ⟨rfl, hb⟩; refine ⟨_, rfl, ?_⟩; have n0_ := Aside0.mk (Kd.V_below (by (with_reducible repeat (first | apply Kd.V_alloc | apply Kd.V_drewN | apply Kd.V_drew)); exact HO_0.out) hb); have n1_ := Aside0.mk (Kd.N_below (by (with_reducible repeat (first | apply Kd.N_alloc | apply Kd.N_drewN | apply Kd.N_drew)); exact HO_7.out) hb); have n2_ := Aside0.mk (Kd.V_below (by (with_reducible repeat (first | apply Kd.V_alloc | apply Kd.V_drewN | apply Kd.V_drew)); exact HO256.out) hb); have n3_ := Aside0.mk (below_step (by repeat (first | (with_reducible first | exact HB.out | apply below_alloc | apply pw_below_drewN | apply below_drew1) | exact HB.out)) hb); clear HO_0; clear HO_7; clear HO256; clear HB; have HO_0 := n0_; have HO_7 := n1_; have HO256 := n2_; have HB := n3_; clear n0_ n1_ n2_ n3_; (try clear hb); (try clear hb2); (try clear hk); (try clear hi)) | (go_at_call 10; (with_reducible refine (rillmeterlaw03_awake.calls k2  t264 _ A47.out).mono ?_); rintro e w52 ⟨rfl, hb⟩; have n0_ := Aside0.mk (Kd.V_below (by (with_reducible repeat (first | apply Kd.V_alloc | apply Kd.V_drewN | apply Kd.V_drew)); exact HO_0.out) hb); have n1_ := Aside0.mk (Kd.N_below (by (with_reducible repeat (first | apply Kd.N_alloc | apply Kd.N_drewN | apply Kd.N_drew)); exact HO_7.out) hb); have n2_ := Aside0.mk (Kd.V_below (by (with_reducible repeat (first | apply Kd.V_alloc | apply Kd.V_drewN | apply Kd.V_drew)); exact HO256.out) hb); have n3_ := Aside0.mk (below_step (by repeat (first | (with_reducible first | exact HB.out | apply below_alloc | apply pw_below_drewN | apply below_drew1) | exact HB.out)) hb); clear HO_0; clear HO_7; clear HO256; clear HB; have HO_0 := n0_; have HO_7 := n1_; have HO256 := n2_; have HB := n3_; clear n0_ n1_ n2_ n3_; (try clear hb); (try clear hb2); (try clear hk); (try clear hi)))
                                go_ret
                                exact ⟨by first | rfl | (simp [errW_none, errW_some] <;> rfl) | (simp [*, errW_none, errW_some] <;> rfl), by repeat (first | (with_reducible first | exact HB.out | apply below_alloc | apply pw_below_drewN | apply below_drew1) | exact HB.out)⟩
                              · rw [if_neg c46] at H
                                have c46b0 : decide (t259 ≤ (wrap64 (t242 + 1))) = false := decide_eq_false c46
                                clear c46
                                exact absurd ((Option.some.inj H).trans hrt.out) (by decide)
                            · rw [if_neg c45] at H
                              have c45b0 : decide (t242 ≤ t259) = false := decide_eq_false c45
                              clear c45
                              exact absurd ((Option.some.inj H).trans hrt.out) (by decide)
                          · rw [if_neg c44] at H
                            have c44b0 : (t260 == 0) = false := beq_eq_false_iff_ne.mpr c44
                            have c44b1 : (t260 != 0) = true := bne_iff_ne.mpr c44
                            replace H := Option.bind_eq_some_iff.mp H
                            obtain ⟨t265, A530, H⟩ := H
                            replace H : (some t265) = some r := H
                            have A53 := Aside0.mk A530
                            clear A530
                            obtain rfl := Option.some.inj H
                            obtain ⟨Ao55, co55, eo55⟩ := Kd.N_slice HO_7.out
                            subst eo55
                            have q54 : (1 : Int) ≤ ((x7_2.length : Int) : Int) := of_decide_eq_true (by first | (with_reducible assumption) | assumption)
                            obtain ⟨i054, hi054, _, hsz54, _⟩ := info_parts info30
                            have hroom54 : x7_2.length ≤ co55 := (Kd.N_reads' HO_7.out).2.1
                            have hC54 : Kd.F (Kd.slice 36 (Kd.int .u64)) _ _ Ao55 x7_2.length x7_2 := (Kd.V_at (base := w.heap.size) (Kd.N_V HO_7.out)).2.2
                            have hcut54 := cut_from (P := Try.prog) 22 30 .i64 Try.underlying22 hi054 1 hsz54 Ao55 x7_2.length co55 1 (by omega) q54
                            have hr54 := Kd.F_cut (m := (1 : Int).toNat) (c := co55) hC54 (by omega) hroom54
                            obtain ⟨A54, hA54⟩ : ∃ A1, A1 = (if co55 = (1 : Int).toNat then Ao55 else (Ao55 : Option Addr).map (·.add ((1 : Int).toNat * 1))) := ⟨_, rfl⟩
                            obtain ⟨c54, hc54⟩ : ∃ c1, c1 = co55 - (1 : Int).toNat := ⟨_, rfl⟩
                            have hy54 : y252.length = x7_2.length - (1 : Int).toNat := (by rw [Ny252.out, List.length_drop] <;> omega)
                            rw [show (x7_2).drop (1 : Int).toNat = y252 from Ny252.out.symm] at hr54
                            replace hr54 : Kd.F (Kd.slice 36 (Kd.int .u64)) _ _ A54 y252.length y252 := (by rw [hA54]; exact hr54)
                            rw [← hy54, ← hA54, ← hc54] at hcut54
                            have HO256 := Aside0.mk (show Kd.V (Kd.slice 36 (Kd.int .u64)) 30 _ w.heap.size _ (.slice A54 y252.length c54) y252 from Kd.V_mk (by rw [hy54, hc54]; exact Nat.sub_le_sub_right hroom54 _) hr54)
                            have HC256 := Aside0.mk (show y252.length ≤ c54 from by rw [hy54, hc54]; exact Nat.sub_le_sub_right hroom54 _)
                            clear hr54 hC54 hroom54 hi054 hsz54 hc54
                            have KY54 := Aside0.mk hy54
                            have KA54 := Aside0.mk hA54
                            clear hy54 hA54
                            replace q54 := eq_true q54
                            go_wp2_with (first | ((with_reducible refine gate_callee (f := 11) rfl ?_); refine goesL_ (some 52) rfl rfl Try.func11 (by kernel_rfl) rfl #[.slice A54 y252.length c54] rfl (by (try simp only [List.map_toArray, List.map_cons, List.map_nil]); first | done | rfl | (simp only [List.length_drop, List.length_take]; rfl)) ?_; (with_reducible refine (solve_Rank.calls k2 _ _ y252 t257 t258 _ ?side1 ?side2 A21.out).mono ?_); (case side1 => repeat (first | exact (Kd.V_reads' HO256.out).2.2 | (with_reducible refine Kd.C_alloc ?_ _) | (with_reducible refine Kd.C_drewN ?_ _) | (with_reducible refine Kd.C_drew ?_))); (case side2 => exact (Kd.V_reads' HO256.out).2.1); rintro e w56 ⟨rfl, hb⟩; refine ⟨_, rfl, ?_⟩; have n0_ := Aside0.mk (Kd.V_below (by (with_reducible repeat (first | apply Kd.V_alloc | apply Kd.V_drewN | apply Kd.V_drew)); exact HO_0.out) hb); have n1_ := Aside0.mk (Kd.N_below (by (with_reducible repeat (first | apply Kd.N_alloc | apply Kd.N_drewN | apply Kd.N_drew)); exact HO_7.out) hb); have n2_ := Aside0.mk (Kd.V_below (by (with_reducible repeat (first | apply Kd.V_alloc | apply Kd.V_drewN | apply Kd.V_drew)); exact HO256.out) hb); have n3_ := Aside0.mk (below_step (by repeat (first | (with_reducible first | exact HB.out | apply below_alloc | apply pw_below_drewN | apply below_drew1) | exact HB.out)) hb); clear HO_0; clear HO_7; clear HO256; clear HB; have HO_0 := n0_; have HO_7 := n1_; have HO256 := n2_; have HB := n3_; clear n0_ n1_ n2_ n3_; (try clear hb); (try clear hb2); (try clear hk); (try clear hi)) | ((with_reducible refine gate_callee (f := 11) rfl ?_); refine goesL_ (some 57) rfl rfl Try.func11 (by kernel_rfl) rfl #[.slice Ao55 x7_2.length co55] rfl (by (try simp only [List.map_toArray, List.map_cons, List.map_nil]); first | done | rfl | (simp only [List.length_drop, List.length_take]; rfl)) ?_; (with_reducible refine (solve_Rank.calls k2 _ _ x7_2 t259 t260 _ ?side1 ?side2 A22.out).mono ?_); (case side1 => repeat (first | exact (Kd.N_reads' HO_7.out).2.2 | (with_reducible refine Kd.C_alloc ?_ _) | (with_reducible refine Kd.C_drewN ?_ _) | (with_reducible refine Kd.C_drew ?_))); (case side2 => exact (Kd.N_reads' HO_7.out).2.1); rintro e w57 ⟨rfl, hb⟩; refine ⟨_, rfl, ?_⟩; have n0_ := Aside0.mk (Kd.V_below (by (with_reducible repeat (first | apply Kd.V_alloc | apply Kd.V_drewN | apply Kd.V_drew)); exact HO_0.out) hb); have n1_ := Aside0.mk (Kd.N_below (by (with_reducible repeat (first | apply Kd.N_alloc | apply Kd.N_drewN | apply Kd.N_drew)); exact HO_7.out) hb); have n2_ := Aside0.mk (Kd.V_below (by (with_reducible repeat (first | apply Kd.V_alloc | apply Kd.V_drewN | apply Kd.V_drew)); exact HO256.out) hb); have n3_ := Aside0.mk (below_step (by repeat (first | (with_reducible first | exact HB.out | apply below_alloc | apply pw_below_drewN | apply below_drew1) | exact HB.out)) hb); clear HO_0; clear HO_7; clear HO256; clear HB; have HO_0 := n0_; have HO_7 := n1_; have HO256 := n2_; have HB := n3_; clear n0_ n1_ n2_ n3_; (try clear hb); (try clear hb2); (try clear hk); (try clear hi)) | (go_at_call 10; (with_reducible refine (rillmeterlaw03_awake.calls k2  t265 _ A53.out).mono ?_); rintro e w58 ⟨rfl, hb⟩; have n0_ := Aside0.mk (Kd.V_below (by (with_reducible repeat (first | apply Kd.V_alloc | apply Kd.V_drewN | apply Kd.V_drew)); exact HO_0.out) hb); have n1_ := Aside0.mk (Kd.N_below (by (with_reducible repeat (first | apply Kd.N_alloc | apply Kd.N_drewN | apply Kd.N_drew)); exact HO_7.out) hb); have n2_ := Aside0.mk (Kd.V_below (by (with_reducible repeat (first | apply Kd.V_alloc | apply Kd.V_drewN | apply Kd.V_drew)); exact HO256.out) hb); have n3_ := Aside0.mk (below_step (by repeat (first | (with_reducible first | exact HB.out | apply below_alloc | apply pw_below_drewN | apply below_drew1) | exact HB.out)) hb); clear HO_0; clear HO_7; clear HO256; clear HB; have HO_0 := n0_; have HO_7 := n1_; have HO256 := n2_; have HB := n3_; clear n0_ n1_ n2_ n3_; (try clear hb); (try clear hb2); (try clear hk); (try clear hi)))
                            go_ret
                            exact ⟨by first | rfl | (simp [errW_none, errW_some] <;> rfl) | (simp [*, errW_none, errW_some] <;> rfl), by repeat (first | (with_reducible first | exact HB.out | apply below_alloc | apply pw_below_drewN | apply below_drew1) | exact HB.out)⟩
                    · rw [if_neg c24] at H
                      have c24b0 : (t258 == 0) = false := beq_eq_false_iff_ne.mpr c24
                      have c24b1 : (t258 != 0) = true := bne_iff_ne.mpr c24
                      exact absurd ((Option.some.inj H).trans hrt.out) (by decide)
                  · rw [if_neg c23] at H
                    have c23b0 : (t257 == t242) = false := beq_eq_false_iff_ne.mpr c23
                    have c23b1 : (t257 != t242) = true := bne_iff_ne.mpr c23
                    exact absurd ((Option.some.inj H).trans hrt.out) (by decide)
                · rw [if_neg c20] at H
                  exact absurd H (by simp)
        · rw [if_neg c10] at H
          have c10b0 : (t243 == 0) = false := beq_eq_false_iff_ne.mpr c10
          have c10b1 : (t243 != 0) = true := bne_iff_ne.mpr c10
          replace H := Option.bind_eq_some_iff.mp H
          obtain ⟨t244, A590, H⟩ := H
          replace H : (some t244) = some r := H
          have A59 := Aside0.mk A590
          clear A590
          obtain rfl := Option.some.inj H
          go_wp2_with (first | ((with_reducible refine gate_callee (f := 11) rfl ?_); refine goesL_ (some 24) rfl rfl Try.func11 (by kernel_rfl) rfl #[.slice A0 l0.length c0] rfl (by (try simp only [List.map_toArray, List.map_cons, List.map_nil]); first | done | rfl | (simp only [List.length_drop, List.length_take]; rfl)) ?_; (with_reducible refine (solve_Rank.calls kj2 _ _ l0 t242 t243 _ ?side1 ?side2 A9.out).mono ?_); (case side1 => repeat (first | exact (Kd.V_reads' HO_0.out).2.2 | (with_reducible refine Kd.C_alloc ?_ _) | (with_reducible refine Kd.C_drewN ?_ _) | (with_reducible refine Kd.C_drew ?_))); (case side2 => exact (Kd.V_reads' HO_0.out).2.1); rintro e w60 ⟨rfl, hb⟩; refine ⟨_, rfl, ?_⟩; have n0_ := Aside0.mk (Kd.V_below (by (with_reducible repeat (first | apply Kd.V_alloc | apply Kd.V_drewN | apply Kd.V_drew)); exact HO_0.out) hb); have n1_ := Aside0.mk (Kd.V_below (by (with_reducible repeat (first | apply Kd.V_alloc | apply Kd.V_drewN | apply Kd.V_drew)); exact HO_1.out) hb); have n2_ := Aside0.mk (below_step (by repeat (first | (with_reducible first | exact HB.out | apply below_alloc | apply pw_below_drewN | apply below_drew1) | exact HB.out)) hb); clear HO_0; clear HO_1; clear HB; have HO_0 := n0_; have HO_1 := n1_; have HB := n2_; clear n0_ n1_ n2_; (try clear hb); (try clear hb2); (try clear hk); (try clear hi)) | ((with_reducible refine gate_callee (f := 10) rfl ?_); refine goesL_ (some 29) rfl rfl Try.func10 (by kernel_rfl) rfl #[] rfl (by (try simp only [List.map_toArray, List.map_cons, List.map_nil]); first | done | rfl | (simp only [List.length_drop, List.length_take]; rfl)) ?_; (with_reducible refine (rillmeterlaw03_awake.calls kj2  t244 _ A59.out).mono ?_); rintro e w61 ⟨rfl, hb⟩; refine ⟨_, rfl, ?_⟩; have n0_ := Aside0.mk (Kd.V_below (by (with_reducible repeat (first | apply Kd.V_alloc | apply Kd.V_drewN | apply Kd.V_drew)); exact HO_0.out) hb); have n1_ := Aside0.mk (Kd.V_below (by (with_reducible repeat (first | apply Kd.V_alloc | apply Kd.V_drewN | apply Kd.V_drew)); exact HO_1.out) hb); have n2_ := Aside0.mk (below_step (by repeat (first | (with_reducible first | exact HB.out | apply below_alloc | apply pw_below_drewN | apply below_drew1) | exact HB.out)) hb); clear HO_0; clear HO_1; clear HB; have HO_0 := n0_; have HO_1 := n1_; have HB := n2_; clear n0_ n1_ n2_; (try clear hb); (try clear hb2); (try clear hk); (try clear hi)))
          go_ret
          exact ⟨by first | rfl | (simp [errW_none, errW_some] <;> rfl) | (simp [*, errW_none, errW_some] <;> rfl), by repeat (first | (with_reducible first | exact HB.out | apply below_alloc | apply pw_below_drewN | apply below_drew1) | exact HB.out)⟩

end Go.Proofs.Ytoplnkbhgpamaaa.PSolveTurns
