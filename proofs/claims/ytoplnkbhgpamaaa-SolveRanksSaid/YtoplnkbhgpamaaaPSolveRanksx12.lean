/- The functions that a law uses, each as a plain function, with the proof that a call of the Go function comes to its answer. Condition of each: the arguments read as the data that it names, and the plain function has an answer. Written by a program of this session (standin.py). -/
import Derived.Test.YtoplnkbhgpamaaaPSolveRanksx0
import Derived.Test.YtoplnkbhgpamaaaPSolveRanksx1
import Derived.Test.YtoplnkbhgpamaaaPSolveRanksx4
import Derived.Test.YtoplnkbhgpamaaaPSolveRanksx6
import Derived.Test.YtoplnkbhgpamaaaPSolveRanksx7
import Derived.Test.YtoplnkbhgpamaaaPSolveRanksx11
import Derived.Lib.SliceRun
namespace Go.Proofs.Ytoplnkbhgpamaaa.PSolveRanks
open Go.RowKit Go.Proofs.YtoplnkbhgpamaaaW.PrintWords Go.Proofs.YtoplnkbhgpamaaaW.PrintLast Go.Proofs.YtoplnkbhgpamaaaW.PrintMore
attribute [local go_sem] max2_int min2_int max_two min_two max_three min_three max_four min_four   -- for this text's walks alone
set_option linter.unusedVariables false
set_option linter.unusedSimpArgs false

/-! ### rillmeterlaw03_SolveRanks: function 3 -/
def rillmeterlaw03_SolveRanks.f (k : Nat) (l0 : List (List Int)) : Option (Bool) := (rillmeterref03_Small.f k l0 40).bind fun t274 => (if t274 = true then ((solve_Rank.f k l0).bind fun bt276 => ((rillmeterref03_Even.f k l0).bind fun t278 => (if t278 = true then ((rillmeterref03_Rank.f k l0).bind fun t279 => (if bt276.1 = t279 then (if bt276.2 = 0 then ((rillmeterlaw03_awake.f k).bind fun t280 => (some t280)) else (some false)) else (some false))) else (if bt276.1 = 0 then (if bt276.2 = 1 then ((rillmeterlaw03_awake.f k).bind fun t281 => (some t281)) else (some false)) else (some false))))) else ((rillmeterlaw03_awake.f k).bind fun t275 => (some t275)))
theorem rillmeterlaw03_SolveRanks.mono : ∀ a0 k, LeO (rillmeterlaw03_SolveRanks.f k a0) (rillmeterlaw03_SolveRanks.f (k + 1) a0) := by
  intro a0 k
  unfold rillmeterlaw03_SolveRanks.f
  repeat' first
      | (with_reducible exact rillmeterlaw03_awake.mono _)
      | (with_reducible exact rillmeterref03_Even.mono _ _)
      | (with_reducible exact rillmeterref03_Rank.mono _ _)
      | (with_reducible exact rillmeterref03_Small.mono _ _ _)
      | (with_reducible exact solve_Rank.mono _ _)
      | (with_reducible exact LeO.refl _)
      | (with_reducible exact LeO.none _)
      | (with_reducible refine LeO.ite ?_ ?_)
      | (with_reducible refine LeO.bind ?_ (fun _ => ?_))
      | exact rillmeterlaw03_awake.mono _
      | exact rillmeterref03_Even.mono _ _
      | exact rillmeterref03_Rank.mono _ _
      | exact rillmeterref03_Small.mono _ _ _
      | exact solve_Rank.mono _ _
      | exact LeO.none _
      | refine LeO.ite ?_ ?_
      | refine LeO.bind ?_ (fun _ => ?_)
set_option maxHeartbeats 8000000 in
set_option maxRecDepth 100000 in
theorem rillmeterlaw03_SolveRanks.calls (k : Nat) (A0 : Option Addr) (c0 : Nat) (l0 : List (List Int)) (r : Bool) (w : World) (hr0 : Kd.C (Kd.slice 36 (Kd.int .u64)) w A0 l0.length l0) (hc0 : l0.length ≤ c0) (h : rillmeterlaw03_SolveRanks.f k l0 = some r) (hrt : Aside0 (r = true)) :
    Calls Try.prog 3 #[.slice A0 l0.length c0] w fun e w' => e = .returned (.bool r) ∧ Below w.heap.size w w' := by
  have HR0 := Aside0.mk hr0
  have HC0 := Aside0.mk hc0
  clear hr0 hc0
  have HB := Aside0.mk (Below.refl w.heap.size w)
  have H : ((rillmeterref03_Small.f k l0 40).bind fun t274 => (if t274 = true then ((solve_Rank.f k l0).bind fun bt276 => ((rillmeterref03_Even.f k l0).bind fun t278 => (if t278 = true then ((rillmeterref03_Rank.f k l0).bind fun t279 => (if bt276.1 = t279 then (if bt276.2 = 0 then ((rillmeterlaw03_awake.f k).bind fun t280 => (some t280)) else (some false)) else (some false))) else (if bt276.1 = 0 then (if bt276.2 = 1 then ((rillmeterlaw03_awake.f k).bind fun t281 => (some t281)) else (some false)) else (some false))))) else ((rillmeterlaw03_awake.f k).bind fun t275 => (some t275)))) = some r := h
  clear h
  replace H := Option.bind_eq_some_iff.mp H
  obtain ⟨t274, A20, H⟩ := H
  replace H : (if t274 = true then ((solve_Rank.f k l0).bind fun bt276 => ((rillmeterref03_Even.f k l0).bind fun t278 => (if t278 = true then ((rillmeterref03_Rank.f k l0).bind fun t279 => (if bt276.1 = t279 then (if bt276.2 = 0 then ((rillmeterlaw03_awake.f k).bind fun t280 => (some t280)) else (some false)) else (some false))) else (if bt276.1 = 0 then (if bt276.2 = 1 then ((rillmeterlaw03_awake.f k).bind fun t281 => (some t281)) else (some false)) else (some false))))) else ((rillmeterlaw03_awake.f k).bind fun t275 => (some t275))) = some r := H
  have A2 := Aside0.mk A20
  clear A20
  by_cases c3 : t274 = true
  · subst c3
    have H1 : ((solve_Rank.f k l0).bind fun bt276 => ((rillmeterref03_Even.f k l0).bind fun t278 => (if t278 = true then ((rillmeterref03_Rank.f k l0).bind fun t279 => (if bt276.1 = t279 then (if bt276.2 = 0 then ((rillmeterlaw03_awake.f k).bind fun t280 => (some t280)) else (some false)) else (some false))) else (if bt276.1 = 0 then (if bt276.2 = 1 then ((rillmeterlaw03_awake.f k).bind fun t281 => (some t281)) else (some false)) else (some false))))) = some r := by rw [if_pos rfl] at H; exact H
    clear H
    have H := H1
    clear H1
    replace H := Option.bind_eq_some_iff.mp H
    obtain ⟨⟨t276, t277⟩, A40, H⟩ := H
    replace H : ((rillmeterref03_Even.f k l0).bind fun t278 => (if t278 = true then ((rillmeterref03_Rank.f k l0).bind fun t279 => (if t276 = t279 then (if t277 = 0 then ((rillmeterlaw03_awake.f k).bind fun t280 => (some t280)) else (some false)) else (some false))) else (if t276 = 0 then (if t277 = 1 then ((rillmeterlaw03_awake.f k).bind fun t281 => (some t281)) else (some false)) else (some false)))) = some r := H
    have A4 := Aside0.mk A40
    clear A40
    replace H := Option.bind_eq_some_iff.mp H
    obtain ⟨t278, A50, H⟩ := H
    replace H : (if t278 = true then ((rillmeterref03_Rank.f k l0).bind fun t279 => (if t276 = t279 then (if t277 = 0 then ((rillmeterlaw03_awake.f k).bind fun t280 => (some t280)) else (some false)) else (some false))) else (if t276 = 0 then (if t277 = 1 then ((rillmeterlaw03_awake.f k).bind fun t281 => (some t281)) else (some false)) else (some false))) = some r := H
    have A5 := Aside0.mk A50
    clear A50
    by_cases c6 : t278 = true
    · subst c6
      have H1 : ((rillmeterref03_Rank.f k l0).bind fun t279 => (if t276 = t279 then (if t277 = 0 then ((rillmeterlaw03_awake.f k).bind fun t280 => (some t280)) else (some false)) else (some false))) = some r := by rw [if_pos rfl] at H; exact H
      clear H
      have H := H1
      clear H1
      replace H := Option.bind_eq_some_iff.mp H
      obtain ⟨t279, A70, H⟩ := H
      replace H : (if t276 = t279 then (if t277 = 0 then ((rillmeterlaw03_awake.f k).bind fun t280 => (some t280)) else (some false)) else (some false)) = some r := H
      have A7 := Aside0.mk A70
      clear A70
      by_cases c8 : t276 = t279
      · rw [if_pos c8] at H
        have c8b0 : (t276 == t279) = true := beq_iff_eq.mpr c8
        have c8b1 : (t276 != t279) = false := bne_eq_false_iff_eq.mpr c8
        clear c8
        by_cases c9 : t277 = 0
        · rw [if_pos c9] at H
          have c9b0 : (t277 == 0) = true := beq_iff_eq.mpr c9
          have c9b1 : (t277 != 0) = false := bne_eq_false_iff_eq.mpr c9
          clear c9
          replace H := Option.bind_eq_some_iff.mp H
          obtain ⟨t280, A100, H⟩ := H
          replace H : (some t280) = some r := H
          have A10 := Aside0.mk A100
          clear A100
          obtain rfl := Option.some.inj H
          go_enter Try.func3, Try.ntmps3
          go_wp2_with (first | ((with_reducible refine gate_callee (f := 9) rfl ?_); refine goesL_ (some 6) rfl rfl Try.func9 (by kernel_rfl) rfl #[.slice A0 l0.length c0, .int .i64 40] rfl (by (try simp only [List.map_toArray, List.map_cons, List.map_nil]); first | done | rfl | (simp only [List.length_drop, List.length_take]; rfl)) ?_; (with_reducible refine (rillmeterref03_Small.calls k _ _ l0 40 true _ ?side1 ?side2 A2.out).mono ?_); (case side1 => repeat (first | exact HR0.out | (with_reducible refine Kd.C_alloc ?_ _) | (with_reducible refine Kd.C_drewN ?_ _) | (with_reducible refine Kd.C_drew ?_))); (case side2 => exact HC0.out); rintro e w' ⟨rfl, ⟨nd, rfl⟩⟩; refine ⟨_, rfl, ?_⟩) | ((with_reducible refine gate_callee (f := 11) rfl ?_); refine goesL_ (some 11) rfl rfl Try.func11 (by kernel_rfl) rfl #[.slice A0 l0.length c0] rfl (by (try simp only [List.map_toArray, List.map_cons, List.map_nil]); first | done | rfl | (simp only [List.length_drop, List.length_take]; rfl)) ?_; (with_reducible refine (solve_Rank.calls k _ _ l0 t276 t277 _ ?side1 ?side2 A4.out).mono ?_); (case side1 => repeat (first | exact HR0.out | (with_reducible refine Kd.C_alloc ?_ _) | (with_reducible refine Kd.C_drewN ?_ _) | (with_reducible refine Kd.C_drew ?_))); (case side2 => exact HC0.out); rintro e w11 ⟨rfl, hb⟩; refine ⟨_, rfl, ?_⟩; have n0_ := Aside0.mk (below_step (by repeat (first | (with_reducible first | exact HB.out | apply below_alloc | apply pw_below_drewN | apply below_drew1) | exact HB.out)) hb); clear HB; have HB := n0_; clear n0_; (try clear hb); (try clear hb2); (try clear hk); (try clear hi)) | ((with_reducible refine gate_callee (f := 12) rfl ?_); refine goesL_ (some 15) rfl rfl Try.func12 (by kernel_rfl) rfl #[.slice A0 l0.length c0] rfl (by (try simp only [List.map_toArray, List.map_cons, List.map_nil]); first | done | rfl | (simp only [List.length_drop, List.length_take]; rfl)) ?_; (with_reducible refine (rillmeterref03_Even.calls k _ _ l0 true _ ?side1 ?side2 A5.out).mono ?_); (case side1 => repeat (first | exact (Kd.C_below HR0.out HB.out) | (with_reducible refine Kd.C_alloc ?_ _) | (with_reducible refine Kd.C_drewN ?_ _) | (with_reducible refine Kd.C_drew ?_))); (case side2 => exact HC0.out); rintro e w' ⟨rfl, ⟨nd, rfl⟩⟩; refine ⟨_, rfl, ?_⟩) | ((with_reducible refine gate_callee (f := 13) rfl ?_); refine goesL_ (some 28) rfl rfl Try.func13 (by kernel_rfl) rfl #[.slice A0 l0.length c0] rfl (by (try simp only [List.map_toArray, List.map_cons, List.map_nil]); first | done | rfl | (simp only [List.length_drop, List.length_take]; rfl)) ?_; (with_reducible refine (rillmeterref03_Rank.calls k _ _ l0 t279 _ ?side1 ?side2 A7.out).mono ?_); (case side1 => repeat (first | exact (Kd.C_below HR0.out (by repeat (first | (with_reducible first | exact HB.out | apply below_alloc | apply pw_below_drewN | apply below_drew1) | exact HB.out))) | (with_reducible refine Kd.C_alloc ?_ _) | (with_reducible refine Kd.C_drewN ?_ _) | (with_reducible refine Kd.C_drew ?_))); (case side2 => exact HC0.out); rintro e w12 ⟨rfl, hb⟩; refine ⟨_, rfl, ?_⟩; have n0_ := Aside0.mk (below_step (by repeat (first | (with_reducible first | exact HB.out | apply below_alloc | apply pw_below_drewN | apply below_drew1) | exact HB.out)) hb); clear HB; have HB := n0_; clear n0_; (try clear hb); (try clear hb2); (try clear hk); (try clear hi)) | (go_at_call 10; (with_reducible refine (rillmeterlaw03_awake.calls k  t280 _ A10.out).mono ?_); rintro e w13 ⟨rfl, hb⟩; have n0_ := Aside0.mk (below_step (by repeat (first | (with_reducible first | exact HB.out | apply below_alloc | apply pw_below_drewN | apply below_drew1) | exact HB.out)) hb); clear HB; have HB := n0_; clear n0_; (try clear hb); (try clear hb2); (try clear hk); (try clear hi)))
          go_ret
          exact ⟨by first | rfl | (simp [errW_none, errW_some] <;> rfl) | (simp [*, errW_none, errW_some] <;> rfl), by repeat (first | (with_reducible first | exact HB.out | apply below_alloc | apply pw_below_drewN | apply below_drew1) | exact HB.out)⟩
        · rw [if_neg c9] at H
          have c9b0 : (t277 == 0) = false := beq_eq_false_iff_ne.mpr c9
          have c9b1 : (t277 != 0) = true := bne_iff_ne.mpr c9
          exact absurd ((Option.some.inj H).trans hrt.out) (by decide)
      · rw [if_neg c8] at H
        have c8b0 : (t276 == t279) = false := beq_eq_false_iff_ne.mpr c8
        have c8b1 : (t276 != t279) = true := bne_iff_ne.mpr c8
        exact absurd ((Option.some.inj H).trans hrt.out) (by decide)
    · replace c6 := Bool.eq_false_iff.mpr c6
      subst c6
      have H1 : (if t276 = 0 then (if t277 = 1 then ((rillmeterlaw03_awake.f k).bind fun t281 => (some t281)) else (some false)) else (some false)) = some r := by rw [if_neg (show ¬ (false = true) by decide)] at H; exact H
      clear H
      have H := H1
      clear H1
      by_cases c14 : t276 = 0
      · rw [if_pos c14] at H
        have c14b0 : (t276 == 0) = true := beq_iff_eq.mpr c14
        have c14b1 : (t276 != 0) = false := bne_eq_false_iff_eq.mpr c14
        clear c14
        by_cases c15 : t277 = 1
        · rw [if_pos c15] at H
          have c15b0 : (t277 == 1) = true := beq_iff_eq.mpr c15
          have c15b1 : (t277 != 1) = false := bne_eq_false_iff_eq.mpr c15
          clear c15
          replace H := Option.bind_eq_some_iff.mp H
          obtain ⟨t281, A160, H⟩ := H
          replace H : (some t281) = some r := H
          have A16 := Aside0.mk A160
          clear A160
          obtain rfl := Option.some.inj H
          go_enter Try.func3, Try.ntmps3
          go_wp2_with (first | ((with_reducible refine gate_callee (f := 9) rfl ?_); refine goesL_ (some 6) rfl rfl Try.func9 (by kernel_rfl) rfl #[.slice A0 l0.length c0, .int .i64 40] rfl (by (try simp only [List.map_toArray, List.map_cons, List.map_nil]); first | done | rfl | (simp only [List.length_drop, List.length_take]; rfl)) ?_; (with_reducible refine (rillmeterref03_Small.calls k _ _ l0 40 true _ ?side1 ?side2 A2.out).mono ?_); (case side1 => repeat (first | exact HR0.out | (with_reducible refine Kd.C_alloc ?_ _) | (with_reducible refine Kd.C_drewN ?_ _) | (with_reducible refine Kd.C_drew ?_))); (case side2 => exact HC0.out); rintro e w' ⟨rfl, ⟨nd, rfl⟩⟩; refine ⟨_, rfl, ?_⟩) | ((with_reducible refine gate_callee (f := 11) rfl ?_); refine goesL_ (some 11) rfl rfl Try.func11 (by kernel_rfl) rfl #[.slice A0 l0.length c0] rfl (by (try simp only [List.map_toArray, List.map_cons, List.map_nil]); first | done | rfl | (simp only [List.length_drop, List.length_take]; rfl)) ?_; (with_reducible refine (solve_Rank.calls k _ _ l0 t276 t277 _ ?side1 ?side2 A4.out).mono ?_); (case side1 => repeat (first | exact HR0.out | (with_reducible refine Kd.C_alloc ?_ _) | (with_reducible refine Kd.C_drewN ?_ _) | (with_reducible refine Kd.C_drew ?_))); (case side2 => exact HC0.out); rintro e w17 ⟨rfl, hb⟩; refine ⟨_, rfl, ?_⟩; have n0_ := Aside0.mk (below_step (by repeat (first | (with_reducible first | exact HB.out | apply below_alloc | apply pw_below_drewN | apply below_drew1) | exact HB.out)) hb); clear HB; have HB := n0_; clear n0_; (try clear hb); (try clear hb2); (try clear hk); (try clear hi)) | ((with_reducible refine gate_callee (f := 12) rfl ?_); refine goesL_ (some 15) rfl rfl Try.func12 (by kernel_rfl) rfl #[.slice A0 l0.length c0] rfl (by (try simp only [List.map_toArray, List.map_cons, List.map_nil]); first | done | rfl | (simp only [List.length_drop, List.length_take]; rfl)) ?_; (with_reducible refine (rillmeterref03_Even.calls k _ _ l0 false _ ?side1 ?side2 A5.out).mono ?_); (case side1 => repeat (first | exact (Kd.C_below HR0.out HB.out) | (with_reducible refine Kd.C_alloc ?_ _) | (with_reducible refine Kd.C_drewN ?_ _) | (with_reducible refine Kd.C_drew ?_))); (case side2 => exact HC0.out); rintro e w' ⟨rfl, ⟨nd, rfl⟩⟩; refine ⟨_, rfl, ?_⟩) | (go_at_call 10; (with_reducible refine (rillmeterlaw03_awake.calls k  t281 _ A16.out).mono ?_); rintro e w18 ⟨rfl, hb⟩; have n0_ := Aside0.mk (below_step (by repeat (first | (with_reducible first | exact HB.out | apply below_alloc | apply pw_below_drewN | apply below_drew1) | exact HB.out)) hb); clear HB; have HB := n0_; clear n0_; (try clear hb); (try clear hb2); (try clear hk); (try clear hi)))
          go_ret
          exact ⟨by first | rfl | (simp [errW_none, errW_some] <;> rfl) | (simp [*, errW_none, errW_some] <;> rfl), by repeat (first | (with_reducible first | exact HB.out | apply below_alloc | apply pw_below_drewN | apply below_drew1) | exact HB.out)⟩
        · rw [if_neg c15] at H
          have c15b0 : (t277 == 1) = false := beq_eq_false_iff_ne.mpr c15
          have c15b1 : (t277 != 1) = true := bne_iff_ne.mpr c15
          exact absurd ((Option.some.inj H).trans hrt.out) (by decide)
      · rw [if_neg c14] at H
        have c14b0 : (t276 == 0) = false := beq_eq_false_iff_ne.mpr c14
        have c14b1 : (t276 != 0) = true := bne_iff_ne.mpr c14
        exact absurd ((Option.some.inj H).trans hrt.out) (by decide)
  · replace c3 := Bool.eq_false_iff.mpr c3
    subst c3
    have H1 : ((rillmeterlaw03_awake.f k).bind fun t275 => (some t275)) = some r := by rw [if_neg (show ¬ (false = true) by decide)] at H; exact H
    clear H
    have H := H1
    clear H1
    replace H := Option.bind_eq_some_iff.mp H
    obtain ⟨t275, A190, H⟩ := H
    replace H : (some t275) = some r := H
    have A19 := Aside0.mk A190
    clear A190
    obtain rfl := Option.some.inj H
    go_enter Try.func3, Try.ntmps3
    go_wp2_with (first | ((with_reducible refine gate_callee (f := 9) rfl ?_); refine goesL_ (some 6) rfl rfl Try.func9 (by kernel_rfl) rfl #[.slice A0 l0.length c0, .int .i64 40] rfl (by (try simp only [List.map_toArray, List.map_cons, List.map_nil]); first | done | rfl | (simp only [List.length_drop, List.length_take]; rfl)) ?_; (with_reducible refine (rillmeterref03_Small.calls k _ _ l0 40 false _ ?side1 ?side2 A2.out).mono ?_); (case side1 => repeat (first | exact HR0.out | (with_reducible refine Kd.C_alloc ?_ _) | (with_reducible refine Kd.C_drewN ?_ _) | (with_reducible refine Kd.C_drew ?_))); (case side2 => exact HC0.out); rintro e w' ⟨rfl, ⟨nd, rfl⟩⟩; refine ⟨_, rfl, ?_⟩) | ((with_reducible refine gate_callee (f := 10) rfl ?_); refine goesL_ (some 8) rfl rfl Try.func10 (by kernel_rfl) rfl #[] rfl (by (try simp only [List.map_toArray, List.map_cons, List.map_nil]); first | done | rfl | (simp only [List.length_drop, List.length_take]; rfl)) ?_; (with_reducible refine (rillmeterlaw03_awake.calls k  t275 _ A19.out).mono ?_); rintro e w20 ⟨rfl, hb⟩; refine ⟨_, rfl, ?_⟩; have n0_ := Aside0.mk (below_step (by repeat (first | (with_reducible first | exact HB.out | apply below_alloc | apply pw_below_drewN | apply below_drew1) | exact HB.out)) hb); clear HB; have HB := n0_; clear n0_; (try clear hb); (try clear hb2); (try clear hk); (try clear hi)))
    go_ret
    exact ⟨by first | rfl | (simp [errW_none, errW_some] <;> rfl) | (simp [*, errW_none, errW_some] <;> rfl), by repeat (first | (with_reducible first | exact HB.out | apply below_alloc | apply pw_below_drewN | apply below_drew1) | exact HB.out)⟩

end Go.Proofs.Ytoplnkbhgpamaaa.PSolveRanks
