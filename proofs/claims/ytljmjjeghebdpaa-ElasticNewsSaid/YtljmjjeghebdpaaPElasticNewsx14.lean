/- The functions that a law uses, each as a plain function, with the proof that a call of the Go function comes to its answer. Condition of each: the arguments read as the data that it names, and the plain function has an answer. Written by a program of this session (standin.py). -/
import Derived.Test.YtljmjjeghebdpaaPElasticNewsx0
import Derived.Test.YtljmjjeghebdpaaPElasticNewsx1
import Derived.Test.YtljmjjeghebdpaaPElasticNewsx9
import Derived.Test.YtljmjjeghebdpaaPElasticNewsx10
import Derived.Test.YtljmjjeghebdpaaPElasticNewsx13
import Derived.Test.YtljmjjeghebdpaaShort
import Derived.Lib.SliceRun
import Derived.Test.YtljmjjeghebdpaaPressMore
namespace Go.Proofs.Ytljmjjeghebdpaa.PElasticNews
open Go.RowKit Go.Proofs.YtljmjjeghebdpaaW.PrintWords Go.Proofs.YtljmjjeghebdpaaW.PrintLast Go.Proofs.YtljmjjeghebdpaaW.PrintMore Go.Proofs.Ytljmjjeghebdpaa.Short Go.Proofs.Ytljmjjeghebdpaa.Press Go.Proofs.Ytljmjjeghebdpaa.PressMore
attribute [local go_sem] max2_int min2_int max_two min_two max_three min_three max_four min_four   -- for this text's walks alone
set_option linter.unusedVariables false
set_option linter.unusedSimpArgs false

/-! ### rillmeterlaw15_shape: function 22 -/
def rillmeterlaw15_shape.f (a0 : Int) (a1 : Int) (a2 : Int) (a3 : Int) (a4 : Int) : Option (Bool) := if a0 ≥ 1 then (if a0 ≤ 256 then (if a1 ≥ 1 then (if a1 ≤ 8 then (if a2 ≥ 1 then (if a2 ≤ 64 then (if a3 ≥ 1 then (if a3 ≤ 7 then (if a4 ≥ 1 then (some (decide (a4 ≤ 256))) else (some false)) else (some false)) else (some false)) else (some false)) else (some false)) else (some false)) else (some false)) else (some false)) else (some false)
set_option maxHeartbeats 80000000 in
set_option maxRecDepth 100000 in
theorem rillmeterlaw15_shape.calls (a0 : Int) (a1 : Int) (a2 : Int) (a3 : Int) (a4 : Int) (r : Bool) (w : World) (h : rillmeterlaw15_shape.f a0 a1 a2 a3 a4 = some r) :
    Calls Try.prog 22 #[.int .i64 a0, .int .i64 a1, .int .i64 a2, .int .i64 a3, .int .i64 a4] w fun e w' => e = .returned (.bool r) ∧ Drawn0 w w' := by
 have H : (if a0 ≥ 1 then (if a0 ≤ 256 then (if a1 ≥ 1 then (if a1 ≤ 8 then (if a2 ≥ 1 then (if a2 ≤ 64 then (if a3 ≥ 1 then (if a3 ≤ 7 then (if a4 ≥ 1 then (some (decide (a4 ≤ 256))) else (some false)) else (some false)) else (some false)) else (some false)) else (some false)) else (some false)) else (some false)) else (some false)) else (some false)) = some r := h; clear h
 by_cases c6 : a0 ≥ 1
 ·rw [if_pos c6] at H; have aF : decide (1 ≤ a0) = true := decide_eq_true c6; clear c6
  by_cases c7 : a0 ≤ 256
  ·rw [if_pos c7] at H; have aG : decide (a0 ≤ 256) = true := decide_eq_true c7; clear c7
   by_cases c8 : a1 ≥ 1
   ·rw [if_pos c8] at H; have aH : decide (1 ≤ a1) = true := decide_eq_true c8; clear c8
    by_cases c9 : a1 ≤ 8
    ·rw [if_pos c9] at H; have aI : decide (a1 ≤ 8) = true := decide_eq_true c9; clear c9
     by_cases aA : a2 ≥ 1
     ·rw [if_pos aA] at H; have aJ : decide (1 ≤ a2) = true := decide_eq_true aA; clear aA
      by_cases aB : a2 ≤ 64
      ·rw [if_pos aB] at H; have aK : decide (a2 ≤ 64) = true := decide_eq_true aB; clear aB
       by_cases aC : a3 ≥ 1
       ·rw [if_pos aC] at H; have aL : decide (1 ≤ a3) = true := decide_eq_true aC; clear aC
        by_cases aD : a3 ≤ 7
        ·rw [if_pos aD] at H; have aM : decide (a3 ≤ 7) = true := decide_eq_true aD; clear aD
         by_cases aE : a4 ≥ 1
         ·rw [if_pos aE] at H; have aN : decide (1 ≤ a4) = true := decide_eq_true aE; clear aE; obtain rfl := Option.some.inj H
          go_enter Try.func22, Try.ntmps22
          go_wp2
          go_ret; exact ⟨by first | rfl | (simp; done) | (simp [*]; done), by repeat (first | exact Drawn0.refl _ | apply Drawn0.step)⟩
         ·rw [if_neg aE] at H; have aN : decide (1 ≤ a4) = false := decide_eq_false aE; clear aE; obtain rfl := Option.some.inj H
          go_enter Try.func22, Try.ntmps22
          go_wp2
          go_ret; exact ⟨by first | rfl | (simp; done) | (simp [*]; done), by repeat (first | exact Drawn0.refl _ | apply Drawn0.step)⟩
        ·rw [if_neg aD] at H; have aM : decide (a3 ≤ 7) = false := decide_eq_false aD; clear aD; obtain rfl := Option.some.inj H
         go_enter Try.func22, Try.ntmps22
         go_wp2
         go_ret; exact ⟨by first | rfl | (simp; done) | (simp [*]; done), by repeat (first | exact Drawn0.refl _ | apply Drawn0.step)⟩
       ·rw [if_neg aC] at H; have aL : decide (1 ≤ a3) = false := decide_eq_false aC; clear aC; obtain rfl := Option.some.inj H
        go_enter Try.func22, Try.ntmps22
        go_wp2
        go_ret; exact ⟨by first | rfl | (simp; done) | (simp [*]; done), by repeat (first | exact Drawn0.refl _ | apply Drawn0.step)⟩
      ·rw [if_neg aB] at H; have aK : decide (a2 ≤ 64) = false := decide_eq_false aB; clear aB; obtain rfl := Option.some.inj H
       go_enter Try.func22, Try.ntmps22
       go_wp2
       go_ret; exact ⟨by first | rfl | (simp; done) | (simp [*]; done), by repeat (first | exact Drawn0.refl _ | apply Drawn0.step)⟩
     ·rw [if_neg aA] at H; have aJ : decide (1 ≤ a2) = false := decide_eq_false aA; clear aA; obtain rfl := Option.some.inj H
      go_enter Try.func22, Try.ntmps22
      go_wp2
      go_ret; exact ⟨by first | rfl | (simp; done) | (simp [*]; done), by repeat (first | exact Drawn0.refl _ | apply Drawn0.step)⟩
    ·rw [if_neg c9] at H; have aI : decide (a1 ≤ 8) = false := decide_eq_false c9; clear c9; obtain rfl := Option.some.inj H
     go_enter Try.func22, Try.ntmps22
     go_wp2
     go_ret; exact ⟨by first | rfl | (simp; done) | (simp [*]; done), by repeat (first | exact Drawn0.refl _ | apply Drawn0.step)⟩
   ·rw [if_neg c8] at H; have aH : decide (1 ≤ a1) = false := decide_eq_false c8; clear c8; obtain rfl := Option.some.inj H
    go_enter Try.func22, Try.ntmps22
    go_wp2
    go_ret; exact ⟨by first | rfl | (simp; done) | (simp [*]; done), by repeat (first | exact Drawn0.refl _ | apply Drawn0.step)⟩
  ·rw [if_neg c7] at H; have aG : decide (a0 ≤ 256) = false := decide_eq_false c7; clear c7; obtain rfl := Option.some.inj H
   go_enter Try.func22, Try.ntmps22
   go_wp2
   go_ret; exact ⟨by first | rfl | (simp; done) | (simp [*]; done), by repeat (first | exact Drawn0.refl _ | apply Drawn0.step)⟩
 ·rw [if_neg c6] at H; have aF : decide (1 ≤ a0) = false := decide_eq_false c6; clear c6; obtain rfl := Option.some.inj H
  go_enter Try.func22, Try.ntmps22
  go_wp2
  go_ret; exact ⟨by first | rfl | (simp; done) | (simp [*]; done), by repeat (first | exact Drawn0.refl _ | apply Drawn0.step)⟩

/-! ### rillmeterlaw15_ElasticNews: function 4 -/
mutual
def rillmeterlaw15_ElasticNews.j0 : Nat → Int → Bool → Int → Int → Int → List (S56) → Int → Int → List (List Int) → Option (Bool)
  | 0, _, _, _, _, _, _, _, _, _ => none
  | k + 1, x5, x78, x392000, x392001, x392002, x392003, x392004, x392005, x392006 => if x78 = true then (some false) else (rillmeterlaw15_ElasticNews.l0 k x5 (x392003.length : Int) 0 x392000 x392001 x392002 x392003 x392004 x392005 x392006)
def rillmeterlaw15_ElasticNews.l0 : Nat → Int → Int → Int → Int → Int → Int → List (S56) → Int → Int → List (List Int) → Option (Bool)
  | 0, _, _, _, _, _, _, _, _, _, _ => none
  | k + 1, x5, x81, x82, x392000, x392001, x392002, x392003, x392004, x392005, x392006 => if x82 < x81 then (if 0 ≤ x82 then (if x82 < (x392003.length : Int) then (if (((rd_T56 x392003 x82).f0).length : Int) > 0 then (some false) else (if ((rd_T56 x392003 x82).f1) = 0 then (rillmeterlaw15_ElasticNews.l0 k x5 x81 (wrap64 (x82 + 1)) x392000 x392001 x392002 x392003 x392004 x392005 x392006) else (some false))) else (none)) else (none)) else (if 0 < (x392006.length : Int) then (if ((rd_L9 x392006 0).length : Int) = x5 then ((elastic_List.f k x392000 x392001 x392002 x392003 x392004 x392005 x392006 0).bind fun t409 => (if (t409.length : Int) = 0 then ((rillmeterlaw15_awake.f k).bind fun t412 => (some t412)) else (some false))) else (some false)) else (none))
end
def rillmeterlaw15_ElasticNews.f (k : Nat) (a0 : Int) (a1 : Int) (a2 : Int) (a3 : Int) (a4 : Int) (a5 : Int) : Option (Bool) := (elastic_New.f k a0 a1 a2 a3 a4 a5).bind fun bt379 => ((rillmeterlaw15_shape.f a1 a2 a3 a4 a5).bind fun t392 => (if t392 = true then (if bt379.2.2.2.2.2.2.2 = 0 then (if (bt379.2.2.2.1.length : Int) = a1 then (if bt379.2.1 = a2 then (if bt379.2.2.1 = a3 then (if (bt379.2.2.2.2.2.2.1.length : Int) = a4 then ((rillmeterlaw15_ref.f k bt379.1 bt379.2.1 bt379.2.2.1 bt379.2.2.2.1 bt379.2.2.2.2.1 bt379.2.2.2.2.2.1 bt379.2.2.2.2.2.2.1).bind fun bt394 => ((rillmeterref15_Right.f k bt394.1 bt394.2.1 bt394.2.2.1 bt394.2.2.2.1 bt394.2.2.2.2.1 bt394.2.2.2.2.2.1 bt394.2.2.2.2.2.2).bind fun t405 => (rillmeterlaw15_ElasticNews.j0 k a5 (!t405) bt379.1 bt379.2.1 bt379.2.2.1 bt379.2.2.2.1 bt379.2.2.2.2.1 bt379.2.2.2.2.2.1 bt379.2.2.2.2.2.2.1))) else (rillmeterlaw15_ElasticNews.j0 k a5 true bt379.1 bt379.2.1 bt379.2.2.1 bt379.2.2.2.1 bt379.2.2.2.2.1 bt379.2.2.2.2.2.1 bt379.2.2.2.2.2.2.1)) else (rillmeterlaw15_ElasticNews.j0 k a5 true bt379.1 bt379.2.1 bt379.2.2.1 bt379.2.2.2.1 bt379.2.2.2.2.1 bt379.2.2.2.2.2.1 bt379.2.2.2.2.2.2.1)) else (rillmeterlaw15_ElasticNews.j0 k a5 true bt379.1 bt379.2.1 bt379.2.2.1 bt379.2.2.2.1 bt379.2.2.2.2.1 bt379.2.2.2.2.2.1 bt379.2.2.2.2.2.2.1)) else (rillmeterlaw15_ElasticNews.j0 k a5 true bt379.1 bt379.2.1 bt379.2.2.1 bt379.2.2.2.1 bt379.2.2.2.2.1 bt379.2.2.2.2.2.1 bt379.2.2.2.2.2.2.1)) else (rillmeterlaw15_ElasticNews.j0 k a5 true bt379.1 bt379.2.1 bt379.2.2.1 bt379.2.2.2.1 bt379.2.2.2.2.1 bt379.2.2.2.2.2.1 bt379.2.2.2.2.2.2.1)) else (if bt379.2.2.2.2.2.2.2 = 1 then (if (bt379.2.2.2.1.length : Int) = 0 then ((rillmeterlaw15_awake.f k).bind fun t393 => (some t393)) else (some false)) else (some false))))
theorem rillmeterlaw15_ElasticNews.mono_l : ∀ k, (∀ y0 y1 y2 y3 y4 y5 y6 y7 y8, LeO (rillmeterlaw15_ElasticNews.j0 k y0 y1 y2 y3 y4 y5 y6 y7 y8) (rillmeterlaw15_ElasticNews.j0 (k + 1) y0 y1 y2 y3 y4 y5 y6 y7 y8)) ∧ (∀ y0 y1 y2 y3 y4 y5 y6 y7 y8 y9, LeO (rillmeterlaw15_ElasticNews.l0 k y0 y1 y2 y3 y4 y5 y6 y7 y8 y9) (rillmeterlaw15_ElasticNews.l0 (k + 1) y0 y1 y2 y3 y4 y5 y6 y7 y8 y9))
  | 0 => ⟨fun _ _ _ _ _ _ _ _ _ r h => by simp [rillmeterlaw15_ElasticNews.j0] at h, fun _ _ _ _ _ _ _ _ _ _ r h => by simp [rillmeterlaw15_ElasticNews.l0] at h⟩
  | k + 1 => by
    obtain ⟨ih0, ih1⟩ := rillmeterlaw15_ElasticNews.mono_l k
    refine ⟨?_, ?_⟩
    · intro y0 y1 y2 y3 y4 y5 y6 y7 y8
      unfold rillmeterlaw15_ElasticNews.j0
      repeat' first
      | (with_reducible exact ih0 _ _ _ _ _ _ _ _ _)
      | (with_reducible exact ih1 _ _ _ _ _ _ _ _ _ _)
      | (with_reducible exact elastic_List.mono _ _ _ _ _ _ _ _ _)
      | (with_reducible exact elastic_New.mono _ _ _ _ _ _ _)
      | (with_reducible exact rillmeterlaw15_awake.mono _)
      | (with_reducible exact rillmeterlaw15_ref.mono _ _ _ _ _ _ _ _)
      | (with_reducible exact rillmeterref15_Right.mono _ _ _ _ _ _ _ _)
      | (with_reducible exact LeO.refl _)
      | (with_reducible exact LeO.none _)
      | (with_reducible refine LeO.ite ?_ ?_)
      | (with_reducible refine LeO.bind ?_ (fun _ => ?_))
      | exact ih0 _ _ _ _ _ _ _ _ _
      | exact ih1 _ _ _ _ _ _ _ _ _ _
      | exact elastic_List.mono _ _ _ _ _ _ _ _ _
      | exact elastic_New.mono _ _ _ _ _ _ _
      | exact rillmeterlaw15_awake.mono _
      | exact rillmeterlaw15_ref.mono _ _ _ _ _ _ _ _
      | exact rillmeterref15_Right.mono _ _ _ _ _ _ _ _
      | exact LeO.none _
      | refine LeO.ite ?_ ?_
      | refine LeO.bind ?_ (fun _ => ?_)
    · intro y0 y1 y2 y3 y4 y5 y6 y7 y8 y9
      unfold rillmeterlaw15_ElasticNews.l0
      repeat' first
      | (with_reducible exact ih0 _ _ _ _ _ _ _ _ _)
      | (with_reducible exact ih1 _ _ _ _ _ _ _ _ _ _)
      | (with_reducible exact elastic_List.mono _ _ _ _ _ _ _ _ _)
      | (with_reducible exact elastic_New.mono _ _ _ _ _ _ _)
      | (with_reducible exact rillmeterlaw15_awake.mono _)
      | (with_reducible exact rillmeterlaw15_ref.mono _ _ _ _ _ _ _ _)
      | (with_reducible exact rillmeterref15_Right.mono _ _ _ _ _ _ _ _)
      | (with_reducible exact LeO.refl _)
      | (with_reducible exact LeO.none _)
      | (with_reducible refine LeO.ite ?_ ?_)
      | (with_reducible refine LeO.bind ?_ (fun _ => ?_))
      | exact ih0 _ _ _ _ _ _ _ _ _
      | exact ih1 _ _ _ _ _ _ _ _ _ _
      | exact elastic_List.mono _ _ _ _ _ _ _ _ _
      | exact elastic_New.mono _ _ _ _ _ _ _
      | exact rillmeterlaw15_awake.mono _
      | exact rillmeterlaw15_ref.mono _ _ _ _ _ _ _ _
      | exact rillmeterref15_Right.mono _ _ _ _ _ _ _ _
      | exact LeO.none _
      | refine LeO.ite ?_ ?_
      | refine LeO.bind ?_ (fun _ => ?_)
theorem rillmeterlaw15_ElasticNews.mono : ∀ a0 a1 a2 a3 a4 a5 k, LeO (rillmeterlaw15_ElasticNews.f k a0 a1 a2 a3 a4 a5) (rillmeterlaw15_ElasticNews.f (k + 1) a0 a1 a2 a3 a4 a5) := by
  intro a0 a1 a2 a3 a4 a5 k
  obtain ⟨ih0, ih1⟩ := rillmeterlaw15_ElasticNews.mono_l k
  unfold rillmeterlaw15_ElasticNews.f
  repeat' first
      | (with_reducible exact ih0 _ _ _ _ _ _ _ _ _)
      | (with_reducible exact ih1 _ _ _ _ _ _ _ _ _ _)
      | (with_reducible exact elastic_List.mono _ _ _ _ _ _ _ _ _)
      | (with_reducible exact elastic_New.mono _ _ _ _ _ _ _)
      | (with_reducible exact rillmeterlaw15_awake.mono _)
      | (with_reducible exact rillmeterlaw15_ref.mono _ _ _ _ _ _ _ _)
      | (with_reducible exact rillmeterref15_Right.mono _ _ _ _ _ _ _ _)
      | (with_reducible exact LeO.refl _)
      | (with_reducible exact LeO.none _)
      | (with_reducible refine LeO.ite ?_ ?_)
      | (with_reducible refine LeO.bind ?_ (fun _ => ?_))
      | exact ih0 _ _ _ _ _ _ _ _ _
      | exact ih1 _ _ _ _ _ _ _ _ _ _
      | exact elastic_List.mono _ _ _ _ _ _ _ _ _
      | exact elastic_New.mono _ _ _ _ _ _ _
      | exact rillmeterlaw15_awake.mono _
      | exact rillmeterlaw15_ref.mono _ _ _ _ _ _ _ _
      | exact rillmeterref15_Right.mono _ _ _ _ _ _ _ _
      | exact LeO.none _
      | refine LeO.ite ?_ ?_
      | refine LeO.bind ?_ (fun _ => ?_)
set_option maxHeartbeats 80000000 in
set_option maxRecDepth 100000 in
theorem rillmeterlaw15_ElasticNews.calls (k : Nat) (a0 : Int) (a1 : Int) (a2 : Int) (a3 : Int) (a4 : Int) (a5 : Int) (r : Bool) (w : World) (h : rillmeterlaw15_ElasticNews.f k a0 a1 a2 a3 a4 a5 = some r) (hrt : Aside0 (r = true)) :
    Calls Try.prog 4 #[.int .u64 a0, .int .i64 a1, .int .i64 a2, .int .i64 a3, .int .i64 a4, .int .i64 a5] w fun e w' => e = .returned (.bool r) ∧ Below w.heap.size w w' := by
 have hu28 := Try.underlying28; have HB := mk_ (Below.refl w.heap.size w)
 have H : ((elastic_New.f k a0 a1 a2 a3 a4 a5).bind fun bt379 => ((rillmeterlaw15_shape.f a1 a2 a3 a4 a5).bind fun bL => (if bL = true then (if bt379.2.2.2.2.2.2.2 = 0 then (if (bt379.2.2.2.1.length : Int) = a1 then (if bt379.2.1 = a2 then (if bt379.2.2.1 = a3 then (if (bt379.2.2.2.2.2.2.1.length : Int) = a4 then ((rillmeterlaw15_ref.f k bt379.1 bt379.2.1 bt379.2.2.1 bt379.2.2.2.1 bt379.2.2.2.2.1 bt379.2.2.2.2.2.1 bt379.2.2.2.2.2.2.1).bind fun bt394 => ((rillmeterref15_Right.f k bt394.1 bt394.2.1 bt394.2.2.1 bt394.2.2.2.1 bt394.2.2.2.2.1 bt394.2.2.2.2.2.1 bt394.2.2.2.2.2.2).bind fun aU => (rillmeterlaw15_ElasticNews.j0 k a5 (!aU) bt379.1 bt379.2.1 bt379.2.2.1 bt379.2.2.2.1 bt379.2.2.2.2.1 bt379.2.2.2.2.2.1 bt379.2.2.2.2.2.2.1))) else (rillmeterlaw15_ElasticNews.j0 k a5 true bt379.1 bt379.2.1 bt379.2.2.1 bt379.2.2.2.1 bt379.2.2.2.2.1 bt379.2.2.2.2.2.1 bt379.2.2.2.2.2.2.1)) else (rillmeterlaw15_ElasticNews.j0 k a5 true bt379.1 bt379.2.1 bt379.2.2.1 bt379.2.2.2.1 bt379.2.2.2.2.1 bt379.2.2.2.2.2.1 bt379.2.2.2.2.2.2.1)) else (rillmeterlaw15_ElasticNews.j0 k a5 true bt379.1 bt379.2.1 bt379.2.2.1 bt379.2.2.2.1 bt379.2.2.2.2.1 bt379.2.2.2.2.2.1 bt379.2.2.2.2.2.2.1)) else (rillmeterlaw15_ElasticNews.j0 k a5 true bt379.1 bt379.2.1 bt379.2.2.1 bt379.2.2.2.1 bt379.2.2.2.2.1 bt379.2.2.2.2.2.1 bt379.2.2.2.2.2.2.1)) else (rillmeterlaw15_ElasticNews.j0 k a5 true bt379.1 bt379.2.1 bt379.2.2.1 bt379.2.2.2.1 bt379.2.2.2.2.1 bt379.2.2.2.2.2.1 bt379.2.2.2.2.2.2.1)) else (if bt379.2.2.2.2.2.2.2 = 1 then (if (bt379.2.2.2.1.length : Int) = 0 then ((rillmeterlaw15_awake.f k).bind fun aW => (some aW)) else (some false)) else (some false))))) = some r := h
 clear h; replace H := Option.bind_eq_some_iff.mp H; obtain ⟨⟨aG, aE, aF, aC, aH, aI, aD, aP⟩, dD, H⟩ := H; replace H : ((rillmeterlaw15_shape.f a1 a2 a3 a4 a5).bind fun bL => (if bL = true then (if aP = 0 then (if (aC.length : Int) = a1 then (if aE = a2 then (if aF = a3 then (if (aD.length : Int) = a4 then ((rillmeterlaw15_ref.f k aG aE aF aC aH aI aD).bind fun bt394 => ((rillmeterref15_Right.f k bt394.1 bt394.2.1 bt394.2.2.1 bt394.2.2.2.1 bt394.2.2.2.2.1 bt394.2.2.2.2.2.1 bt394.2.2.2.2.2.2).bind fun aU => (rillmeterlaw15_ElasticNews.j0 k a5 (!aU) aG aE aF aC aH aI aD))) else (rillmeterlaw15_ElasticNews.j0 k a5 true aG aE aF aC aH aI aD)) else (rillmeterlaw15_ElasticNews.j0 k a5 true aG aE aF aC aH aI aD)) else (rillmeterlaw15_ElasticNews.j0 k a5 true aG aE aF aC aH aI aD)) else (rillmeterlaw15_ElasticNews.j0 k a5 true aG aE aF aC aH aI aD)) else (rillmeterlaw15_ElasticNews.j0 k a5 true aG aE aF aC aH aI aD)) else (if aP = 1 then (if (aC.length : Int) = 0 then ((rillmeterlaw15_awake.f k).bind fun aW => (some aW)) else (some false)) else (some false)))) = some r := H; have A7 := mk_ dD; clear dD; replace H := Option.bind_eq_some_iff.mp H; obtain ⟨bL, dE, H⟩ := H
 replace H : (if bL = true then (if aP = 0 then (if (aC.length : Int) = a1 then (if aE = a2 then (if aF = a3 then (if (aD.length : Int) = a4 then ((rillmeterlaw15_ref.f k aG aE aF aC aH aI aD).bind fun bt394 => ((rillmeterref15_Right.f k bt394.1 bt394.2.1 bt394.2.2.1 bt394.2.2.2.1 bt394.2.2.2.2.1 bt394.2.2.2.2.2.1 bt394.2.2.2.2.2.2).bind fun aU => (rillmeterlaw15_ElasticNews.j0 k a5 (!aU) aG aE aF aC aH aI aD))) else (rillmeterlaw15_ElasticNews.j0 k a5 true aG aE aF aC aH aI aD)) else (rillmeterlaw15_ElasticNews.j0 k a5 true aG aE aF aC aH aI aD)) else (rillmeterlaw15_ElasticNews.j0 k a5 true aG aE aF aC aH aI aD)) else (rillmeterlaw15_ElasticNews.j0 k a5 true aG aE aF aC aH aI aD)) else (rillmeterlaw15_ElasticNews.j0 k a5 true aG aE aF aC aH aI aD)) else (if aP = 1 then (if (aC.length : Int) = 0 then ((rillmeterlaw15_awake.f k).bind fun aW => (some aW)) else (some false)) else (some false))) = some r := H; have A8 := mk_ dE; clear dE
 by_cases c9 : bL = true
 ·subst c9
  have H1 : (if aP = 0 then (if (aC.length : Int) = a1 then (if aE = a2 then (if aF = a3 then (if (aD.length : Int) = a4 then ((rillmeterlaw15_ref.f k aG aE aF aC aH aI aD).bind fun bt394 => ((rillmeterref15_Right.f k bt394.1 bt394.2.1 bt394.2.2.1 bt394.2.2.2.1 bt394.2.2.2.2.1 bt394.2.2.2.2.2.1 bt394.2.2.2.2.2.2).bind fun aU => (rillmeterlaw15_ElasticNews.j0 k a5 (!aU) aG aE aF aC aH aI aD))) else (rillmeterlaw15_ElasticNews.j0 k a5 true aG aE aF aC aH aI aD)) else (rillmeterlaw15_ElasticNews.j0 k a5 true aG aE aF aC aH aI aD)) else (rillmeterlaw15_ElasticNews.j0 k a5 true aG aE aF aC aH aI aD)) else (rillmeterlaw15_ElasticNews.j0 k a5 true aG aE aF aC aH aI aD)) else (rillmeterlaw15_ElasticNews.j0 k a5 true aG aE aF aC aH aI aD)) = some r := by rw [if_pos rfl] at H; exact H
  clear H; have H := H1; clear H1; have HC10 := mk_ H; clear H
  go_enter Try.func4, Try.ntmps4
  go_upto_region 4 with (first | ((with_reducible refine gate_callee (f := 21) rfl ?_); refine goesL_ (some 23) rfl rfl Try.func21 (by kernel_rfl) rfl #[.int .u64 a0, .int .i64 a1, .int .i64 a2, .int .i64 a3, .int .i64 a4, .int .i64 a5] rfl (by (try simp only [List.map_toArray, List.map_cons, List.map_nil]); first | done | rfl | (simp only [List.length_drop, List.length_take]; rfl)) ?_; (with_reducible refine (elastic_New.calls k a0 a1 a2 a3 a4 a5 aG aE aF aC aH aI aD aP _ A7.out).mono ?_); rintro e jL ⟨hV, hW, rfl, ho0, ho1, hb⟩; refine ⟨_, rfl, ?_⟩; have n0_ := mk_ (Kd.S_lower ho0 (below_size (bl_ HB))); have n1_ := mk_ (Kd.S_lower ho1 (below_size (bl_ HB))); have n2_ := bs_ HB hb; clear HB; have aK := n0_; have aM := n1_; have HB := n2_; clear n0_ n1_ n2_; (try clear hb); (try clear hb2); (try clear hk); (try clear hi); (try clear ho0); (try clear ho1)) | ((with_reducible refine gate_dst (N := 13) rfl ?_); (try (refine gate_guard (by rfl) ?_; dsimp only)); refine box_event ?hg (N := 13) ?hd (cs := #[.int .u64 0, .int .i64 0, .int .i64 0, .slice none 0 0, .int .u64 0, .int .i64 0, .slice none 0 0]) (t := 28) ?hr ?_; (case hd => rfl); (case hg => rfl); (case hr => first | (go_simp; done) | (go_simp; rfl)); intro aB hg bC hbox hb; have n0_ := ss_ aK hb; have n1_ := ss_ aM hb; have n2_ := bs_ HB hb; have n3_ := mk_ (hbox); have n4_ := gx_ hg HB; have n5_ := gx_ hg HB; clear aK; clear aM; clear HB; have aK := n0_; have aM := n1_; have HB := n2_; have aA := n3_; have hX := n4_; have hY := n5_; clear n0_ n1_ n2_ n3_ n4_ n5_; clear hb hbox hg; obtain ⟨dF, dG, dH, dI, dJ, dK, dL⟩ := cz7_ aA; obtain ⟨dM, dN, dO, dP, dQ, dR, dS⟩ := fz7_ aA; obtain ⟨aN, aO, eo14⟩ := Kd.S_slice aK.out; subst eo14; obtain ⟨aQ, aR, eo15⟩ := Kd.S_slice aM.out; subst eo15) | ((with_reducible refine gate_store (t := 28) (p := 13) rfl ?_); refine store_event (t := 28) (p := 13) (v := ?vo_w16) (w1 := (((((((bC.setCell ⟨aB, 0, none⟩ (.int .u64 aG)).setCell ⟨aB, 1, none⟩ (.int .i64 aE)).setCell ⟨aB, 2, none⟩ (.int .i64 aF)).setCell ⟨aB, 3, none⟩ (.slice aN aC.length aO)).setCell ⟨aB, 4, none⟩ (.int .u64 aH)).setCell ⟨aB, 5, none⟩ (.int .i64 aI)).setCell ⟨aB, 6, none⟩ (.slice aQ aD.length aR))) ?hg ?ho ?hn ?hr ?_; (case ho => rfl); (case hg => rfl); (case hn => rfl); (case hr => first | (go_simp; done) | (go_simp; rfl)); intro aJ hw; have n0_ : Aside0 (Kd.S k56 56 aJ w.heap.size (fun _ => True) (.slice aN aC.length aO) aC) := ⟨(by rw [hw]; exact (sl_ (Kd.S_mono (Kd.S_far (p := ⟨aB, 6, none⟩) (Kd.S_far (p := ⟨aB, 5, none⟩) (Kd.S_far (p := ⟨aB, 4, none⟩) (Kd.S_far (p := ⟨aB, 3, none⟩) (Kd.S_far (p := ⟨aB, 2, none⟩) (Kd.S_far (p := ⟨aB, 1, none⟩) (Kd.S_far (p := ⟨aB, 0, none⟩) (Kd.S_types aK.out aA.out (by decide)) (fun _ hk => hk.2) (.int .u64 aG)) (fun _ hk => hk.2) (.int .i64 aE)) (fun _ hk => hk.2) (.int .i64 aF)) (fun _ hk => hk.2) (.slice aN aC.length aO)) (fun _ hk => hk.2) (.int .u64 aH)) (fun _ hk => hk.2) (.int .i64 aI)) (fun _ hk => hk.2) (.slice aQ aD.length aR)) (fun _ hk => trivial))))⟩; have n1_ : Aside0 (Kd.S (Kd.slice 3 (Kd.int .i64)) 57 aJ w.heap.size (fun _ => True) (.slice aQ aD.length aR) aD) := ⟨(by rw [hw]; exact (sl_ (Kd.S_mono (Kd.S_far (p := ⟨aB, 6, none⟩) (Kd.S_far (p := ⟨aB, 5, none⟩) (Kd.S_far (p := ⟨aB, 4, none⟩) (Kd.S_far (p := ⟨aB, 3, none⟩) (Kd.S_far (p := ⟨aB, 2, none⟩) (Kd.S_far (p := ⟨aB, 1, none⟩) (Kd.S_far (p := ⟨aB, 0, none⟩) (Kd.S_types aM.out aA.out (by decide)) (fun _ hk => hk.2) (.int .u64 aG)) (fun _ hk => hk.2) (.int .i64 aE)) (fun _ hk => hk.2) (.int .i64 aF)) (fun _ hk => hk.2) (.slice aN aC.length aO)) (fun _ hk => hk.2) (.int .u64 aH)) (fun _ hk => hk.2) (.int .i64 aI)) (fun _ hk => hk.2) (.slice aQ aD.length aR)) (fun _ hk => trivial))))⟩; have n2_ : Aside0 (aJ.heap[aB]? = some (.cells #[.int .u64 aG, .int .i64 aE, .int .i64 aF, .slice aN aC.length aO, .int .u64 aH, .int .i64 aI, .slice aQ aD.length aR] 28 (0, 0))) := ⟨(by rw [hw]; exact (by (with_reducible repeat (first | refine blk_drewN ?_ _ | refine blk_drew ?_ | refine blk_alloc ?_ _)); refine blk_put (cs := #[.int .u64 aG, .int .i64 aE, .int .i64 aF, .slice aN aC.length aO, .int .u64 aH, .int .i64 aI, .slice none 0 0]) ?_ 6 _ rfl; (with_reducible repeat (first | refine blk_drewN ?_ _ | refine blk_drew ?_ | refine blk_alloc ?_ _)); refine blk_put (cs := #[.int .u64 aG, .int .i64 aE, .int .i64 aF, .slice aN aC.length aO, .int .u64 aH, .int .i64 0, .slice none 0 0]) ?_ 5 _ rfl; (with_reducible repeat (first | refine blk_drewN ?_ _ | refine blk_drew ?_ | refine blk_alloc ?_ _)); refine blk_put (cs := #[.int .u64 aG, .int .i64 aE, .int .i64 aF, .slice aN aC.length aO, .int .u64 0, .int .i64 0, .slice none 0 0]) ?_ 4 _ rfl; (with_reducible repeat (first | refine blk_drewN ?_ _ | refine blk_drew ?_ | refine blk_alloc ?_ _)); refine blk_put (cs := #[.int .u64 aG, .int .i64 aE, .int .i64 aF, .slice none 0 0, .int .u64 0, .int .i64 0, .slice none 0 0]) ?_ 3 _ rfl; (with_reducible repeat (first | refine blk_drewN ?_ _ | refine blk_drew ?_ | refine blk_alloc ?_ _)); refine blk_put (cs := #[.int .u64 aG, .int .i64 aE, .int .i64 0, .slice none 0 0, .int .u64 0, .int .i64 0, .slice none 0 0]) ?_ 2 _ rfl; (with_reducible repeat (first | refine blk_drewN ?_ _ | refine blk_drew ?_ | refine blk_alloc ?_ _)); refine blk_put (cs := #[.int .u64 aG, .int .i64 0, .int .i64 0, .slice none 0 0, .int .u64 0, .int .i64 0, .slice none 0 0]) ?_ 1 _ rfl; (with_reducible repeat (first | refine blk_drewN ?_ _ | refine blk_drew ?_ | refine blk_alloc ?_ _)); refine blk_put (cs := #[.int .u64 0, .int .i64 0, .int .i64 0, .slice none 0 0, .int .u64 0, .int .i64 0, .slice none 0 0]) ?_ 0 _ rfl; (with_reducible repeat (first | refine blk_drewN ?_ _ | refine blk_drew ?_ | refine blk_alloc ?_ _)); exact aA.out))⟩; have n3_ : Aside0 (Below w.heap.size w aJ) := ⟨(by rw [hw]; exact (bl_ HB))⟩; clear hw; clear aK; clear aM; clear aA; clear HB; have aK := n0_; have aM := n1_; have aA := n2_; have HB := n3_; clear n0_ n1_ n2_ n3_) | ((with_reducible refine gate_callee (f := 22) rfl ?_); refine goesL_ (some 31) rfl rfl Try.func22 (by kernel_rfl) rfl #[.int .i64 a1, .int .i64 a2, .int .i64 a3, .int .i64 a4, .int .i64 a5] rfl (by (try simp only [List.map_toArray, List.map_cons, List.map_nil]); first | done | rfl | (simp only [List.length_drop, List.length_take]; rfl)) ?_; (with_reducible refine (rillmeterlaw15_shape.calls a1 a2 a3 a4 a5 true _ A8.out).mono ?_); rintro e w' ⟨rfl, ⟨nd, rfl⟩⟩; refine ⟨_, rfl, ?_⟩))
  (try simp only [Act.put, sa_, sb_, sc_])
  go_cut [78] (fun hZ wc => ∃ (kq : Nat) (bU : Bool), hZ = .bool bU ∧ Aside0 (rillmeterlaw15_ElasticNews.j0 kq a5 bU aG aE aF aC aH aI aD = some r) ∧ Aside0 (kq ≤ k) ∧ Aside0 (Kd.S k56 56 wc w.heap.size (fun _ => True) (.slice aN aC.length aO) aC) ∧ Aside0 (Kd.S (Kd.slice 3 (Kd.int .i64)) 57 wc w.heap.size (fun _ => True) (.slice aQ aD.length aR) aD) ∧ Aside0 (wc.heap[aB]? = some (.cells #[.int .u64 aG, .int .i64 aE, .int .i64 aF, (.slice aN aC.length aO), .int .u64 aH, .int .i64 aI, (.slice aQ aD.length aR)] 28 (0, 0))) ∧ Aside0 (Below w.heap.size w wc))
  case first =>
   have H := HC10.out; clear HC10
   by_cases aX : aP = 0
   ·rw [if_pos aX] at H; have bG : (aP == 0) = true := beq_iff_eq.mpr aX; have cH : (aP != 0) = false := bne_eq_false_iff_eq.mpr aX; clear aX
    (first | rw [bG] | (simp only [i64_w, i32_w]; rw [bG]) | skip)
    by_cases aY : (aC.length : Int) = a1
    ·rw [if_pos aY] at H; have cI : ((aC.length : Int) == a1) = true := beq_iff_eq.mpr aY; have cJ : ((aC.length : Int) != a1) = false := bne_eq_false_iff_eq.mpr aY; clear aY
     by_cases aZ : aE = a2
     ·rw [if_pos aZ] at H; have cK : (aE == a2) = true := beq_iff_eq.mpr aZ; have cL : (aE != a2) = false := bne_eq_false_iff_eq.mpr aZ; clear aZ
      by_cases bA : aF = a3
      ·rw [if_pos bA] at H; have cM : (aF == a3) = true := beq_iff_eq.mpr bA; have cN : (aF != a3) = false := bne_eq_false_iff_eq.mpr bA; clear bA
       by_cases bB : (aD.length : Int) = a4
       ·rw [if_pos bB] at H; have cO : ((aD.length : Int) == a4) = true := beq_iff_eq.mpr bB; have cP : ((aD.length : Int) != a4) = false := bne_eq_false_iff_eq.mpr bB; clear bB; replace H := Option.bind_eq_some_iff.mp H; obtain ⟨⟨cQ, cR, cS, cT, cU, cV, cW⟩, dT, H⟩ := H; replace H : ((rillmeterref15_Right.f k cQ cR cS cT cU cV cW).bind fun aU => (rillmeterlaw15_ElasticNews.j0 k a5 (!aU) aG aE aF aC aH aI aD)) = some r := H; have iA := mk_ dT; clear dT; replace H := Option.bind_eq_some_iff.mp H; obtain ⟨aU, dU, H⟩ := H; replace H : (rillmeterlaw15_ElasticNews.j0 k a5 (!aU) aG aE aF aC aH aI aD) = some r := H; have iB := mk_ dU; clear dU; have H' := mk_ H; clear H; have dV : aJ.cell? ⟨aB, 0, none⟩ = some (.int .u64 aG) := bc_ aA 0; have dW : aJ.cell? ⟨aB, 1, none⟩ = some (.int .i64 aE) := bc_ aA 1; have dX : aJ.cell? ⟨aB, 2, none⟩ = some (.int .i64 aF) := bc_ aA 2; have dY : aJ.cell? ⟨aB, 3, none⟩ = some (.slice aN aC.length aO) := bc_ aA 3; have dZ : aJ.cell? ⟨aB, 4, none⟩ = some (.int .u64 aH) := bc_ aA 4; have fA : aJ.cell? ⟨aB, 5, none⟩ = some (.int .i64 aI) := bc_ aA 5
        have fB : aJ.cell? ⟨aB, 6, none⟩ = some (.slice aQ aD.length aR) := bc_ aA 6; obtain ⟨fC, fD, fE, fF, fG, fH, fI⟩ := fz7_ aA
        go_wp2_with (first | (go_at_call 8; (with_reducible refine (rillmeterlaw15_ref.calls k aG aE aF _ _ aC aH aI (fun k_ => ((True ∧ some k_ ≠ (.slice aN aC.length aO : Value).ownBlock) ∧ k_ ≠ aB)) _ _ aD cQ cR cS cT cU cV cW _ ?side1 ?side2 ?side3 iA.out).mono ?_); (case side1 => repeat (first | exact (Kd.S_reads' aK.out).2.2 | (with_reducible refine Kd.C_alloc ?_ _) | (with_reducible refine Kd.C_drewN ?_ _) | (with_reducible refine Kd.C_drew ?_))); (case side2 => exact (Kd.S_reads' aK.out).2.1); (case side3 => exact Kd.S_V (Kd.S_types (Kd.S_apart' (aM.out) (Kd.S_typed aK.out) (by decide)) aA.out (by decide))); rintro e jM ⟨iC, jN, rfl, ho0, ho1, hb⟩; have n0_ := ss_ aK hb; have n1_ := ss_ aM hb; have n2_ := mk_ (Kd.S_lower (Kd.S_mono (ok' := fun k_ => True) ho0 (fun _ bV => trivial)) (below_size (bl_ HB))); have n3_ := mk_ (Kd.V_lower (Kd.V_mono (ok' := fun k_ => some k_ ≠ (iC : Value).ownBlock ∧ some k_ ≠ (.slice aN aC.length aO : Value).ownBlock ∧ k_ ≠ aB) ho1 (fun k_ bV => ⟨bV.2, Or.elim bV.1 (fun cX => cX.1.2) (fun cY => (Kd.fresh' (Kd.S_lt (sk_ aK)) k_ cY)), Or.elim bV.1 (fun cX => cX.2) (fun cY => (Kd.freshB (bk_ aA) k_ cY))⟩)) (below_size (bl_ HB))); have n4_ := bb_ aA hb; have n5_ := bs_ HB hb; clear aK; clear aM; clear aA; clear HB; have aK := n0_; have aM := n1_; have bM := n2_; have bN := n3_; have aA := n4_; have HB := n5_; clear n0_ n1_ n2_ n3_ n4_ n5_; (try clear hb); (try clear hb2); (try clear hk); (try clear hi); (try clear ho0); (try clear ho1); obtain ⟨jO, jP, eo26⟩ := Kd.S_slice bM.out; subst eo26; obtain ⟨jQ, jR, eo27⟩ := Kd.V_slice bN.out; subst eo27) | (go_at_call 14; (with_reducible refine (rillmeterref15_Right.calls k cQ cR cS _ _ cT cU cV _ _ cW aU _ ?side1 ?side2 ?side3 ?side4 iB.out).mono ?_); (case side1 => repeat (first | exact (Kd.S_reads' bM.out).2.2 | (with_reducible refine Kd.C_alloc ?_ _) | (with_reducible refine Kd.C_drewN ?_ _) | (with_reducible refine Kd.C_drew ?_))); (case side2 => exact (Kd.S_reads' bM.out).2.1); (case side3 => repeat (first | exact (Kd.V_reads' bN.out).2.2 | (with_reducible refine Kd.C_alloc ?_ _) | (with_reducible refine Kd.C_drewN ?_ _) | (with_reducible refine Kd.C_drew ?_))); (case side4 => exact (Kd.V_reads' bN.out).2.1); rintro e jS ⟨rfl, hb⟩; have n0_ := ss_ aK hb; have n1_ := ss_ aM hb; have n2_ := ss_ bM hb; have n3_ := vs_ bN hb; have n4_ := bb_ aA hb; have n5_ := bs_ HB hb; clear aK; clear aM; clear bM; clear bN; clear aA; clear HB; have aK := n0_; have aM := n1_; have bM := n2_; have bN := n3_; have aA := n4_; have HB := n5_; clear n0_ n1_ n2_ n3_ n4_ n5_; (try clear hb); (try clear hb2); (try clear hk); (try clear hi)))
        go_meet
        case rel => exact ⟨_, (!aU), (by first | rfl | (simp; done) | (simp [*]; done)), H', ⟨by first | omega | exact Nat.le_refl _⟩, ⟨by (with_reducible repeat (first | apply Kd.S_alloc | apply Kd.S_drewN | apply Kd.S_drew)); exact aK.out⟩, ⟨by (with_reducible repeat (first | apply Kd.S_alloc | apply Kd.S_drewN | apply Kd.S_drew)); exact aM.out⟩, ⟨bk_ aA⟩, ⟨bl_ HB⟩⟩
       ·rw [if_neg bB] at H; have cO : ((aD.length : Int) == a4) = false := beq_eq_false_iff_ne.mpr bB; have cP : ((aD.length : Int) != a4) = true := bne_iff_ne.mpr bB; have H' := mk_ H; clear H; obtain ⟨fJ, fK, fL, fM, fN, fO, fP⟩ := cz7_ aA; obtain ⟨fQ, fR, fS, fT, fU, fV, fW⟩ := fz7_ aA
        go_wp2
        go_meet
        case rel => exact ⟨_, (true), (by first | rfl | (simp; done) | (simp [*]; done)), H', ⟨by first | omega | exact Nat.le_refl _⟩, ⟨by (with_reducible repeat (first | apply Kd.S_alloc | apply Kd.S_drewN | apply Kd.S_drew)); exact aK.out⟩, ⟨by (with_reducible repeat (first | apply Kd.S_alloc | apply Kd.S_drewN | apply Kd.S_drew)); exact aM.out⟩, ⟨bk_ aA⟩, ⟨bl_ HB⟩⟩
      ·rw [if_neg bA] at H; have cM : (aF == a3) = false := beq_eq_false_iff_ne.mpr bA; have cN : (aF != a3) = true := bne_iff_ne.mpr bA; have H' := mk_ H; clear H; obtain ⟨fX, fY, fZ, gA, gB, gC, gD⟩ := cz7_ aA; obtain ⟨gE, gF, gG, gH, gI, gJ, gK⟩ := fz7_ aA
       go_wp2
       go_meet
       case rel => exact ⟨_, (true), (by first | rfl | (simp; done) | (simp [*]; done)), H', ⟨by first | omega | exact Nat.le_refl _⟩, ⟨by (with_reducible repeat (first | apply Kd.S_alloc | apply Kd.S_drewN | apply Kd.S_drew)); exact aK.out⟩, ⟨by (with_reducible repeat (first | apply Kd.S_alloc | apply Kd.S_drewN | apply Kd.S_drew)); exact aM.out⟩, ⟨bk_ aA⟩, ⟨bl_ HB⟩⟩
     ·rw [if_neg aZ] at H; have cK : (aE == a2) = false := beq_eq_false_iff_ne.mpr aZ; have cL : (aE != a2) = true := bne_iff_ne.mpr aZ; have H' := mk_ H; clear H; obtain ⟨gL, gM, gN, gO, gP, gQ, gR⟩ := cz7_ aA; obtain ⟨gS, gT, gU, gV, gW, gX, gY⟩ := fz7_ aA
      go_wp2
      go_meet
      case rel => exact ⟨_, (true), (by first | rfl | (simp; done) | (simp [*]; done)), H', ⟨by first | omega | exact Nat.le_refl _⟩, ⟨by (with_reducible repeat (first | apply Kd.S_alloc | apply Kd.S_drewN | apply Kd.S_drew)); exact aK.out⟩, ⟨by (with_reducible repeat (first | apply Kd.S_alloc | apply Kd.S_drewN | apply Kd.S_drew)); exact aM.out⟩, ⟨bk_ aA⟩, ⟨bl_ HB⟩⟩
    ·rw [if_neg aY] at H; have cI : ((aC.length : Int) == a1) = false := beq_eq_false_iff_ne.mpr aY; have cJ : ((aC.length : Int) != a1) = true := bne_iff_ne.mpr aY; have H' := mk_ H; clear H; obtain ⟨gZ, hA, hB, hC, hD, hE, hF⟩ := cz7_ aA; obtain ⟨hG, hH, hI, hJ, hK, hL, hM⟩ := fz7_ aA
     go_wp2
     go_meet
     case rel => exact ⟨_, (true), (by first | rfl | (simp; done) | (simp [*]; done)), H', ⟨by first | omega | exact Nat.le_refl _⟩, ⟨by (with_reducible repeat (first | apply Kd.S_alloc | apply Kd.S_drewN | apply Kd.S_drew)); exact aK.out⟩, ⟨by (with_reducible repeat (first | apply Kd.S_alloc | apply Kd.S_drewN | apply Kd.S_drew)); exact aM.out⟩, ⟨bk_ aA⟩, ⟨bl_ HB⟩⟩
   ·rw [if_neg aX] at H; have bG : (aP == 0) = false := beq_eq_false_iff_ne.mpr aX; have cH : (aP != 0) = true := bne_iff_ne.mpr aX
    (first | rw [bG] | (simp only [i64_w, i32_w]; rw [bG]) | skip)
    have H' := mk_ H; clear H
    go_wp2
    go_meet
    case rel => exact ⟨_, (true), (by first | rfl | (simp; done) | (simp [*]; done)), H', ⟨by first | omega | exact Nat.le_refl _⟩, ⟨by (with_reducible repeat (first | apply Kd.S_alloc | apply Kd.S_drewN | apply Kd.S_drew)); exact aK.out⟩, ⟨by (with_reducible repeat (first | apply Kd.S_alloc | apply Kd.S_drewN | apply Kd.S_drew)); exact aM.out⟩, ⟨bk_ aA⟩, ⟨bl_ HB⟩⟩
  case rest =>
   clear HC10; (try clear c1); (try clear c2); (try clear p2); (try clear c4); (try clear c9); (try clear aX); (try clear bG); (try clear cH); (try clear aY); (try clear cI); (try clear cJ); (try clear aZ); (try clear cK); (try clear cL); (try clear bA); (try clear cM); (try clear cN); (try clear bB); (try clear cO); (try clear cP); (try clear iD); (try clear dF); (try clear dG); (try clear dH); (try clear dI); (try clear dJ); (try clear dK); (try clear dL); (try clear dV); (try clear dW); (try clear dX); (try clear dY); (try clear dZ); (try clear fA); (try clear fB); (try clear fJ); (try clear fK); (try clear fL); (try clear fM); (try clear fN); (try clear fO); (try clear fP); (try clear fX); (try clear fY); (try clear fZ); (try clear gA); (try clear gB); (try clear gC); (try clear gD); (try clear gL); (try clear gM); (try clear gN); (try clear gO); (try clear gP); (try clear gQ); (try clear gR); (try clear gZ); (try clear hA); (try clear hB); (try clear hC); (try clear hD); (try clear hE); (try clear hF); (try clear dM); (try clear dN); (try clear dO); (try clear dP); (try clear dQ); (try clear dR); (try clear dS); (try clear fC); (try clear fD); (try clear fE); (try clear fF)
   (try clear fG); (try clear fH); (try clear fI); (try clear fQ); (try clear fR); (try clear fS); (try clear fT); (try clear fU); (try clear fV); (try clear fW); (try clear gE); (try clear gF); (try clear gG); (try clear gH); (try clear gI); (try clear gJ); (try clear gK); (try clear gS); (try clear gT); (try clear gU); (try clear gV); (try clear gW); (try clear gX); (try clear gY); (try clear hG); (try clear hH); (try clear hI); (try clear hJ); (try clear hK); (try clear hL); (try clear hM); obtain ⟨kq, bU, rfl, HA, HJ9, aS, aT, aA, HB⟩ := hcut
   cases kq with
   | zero => exact absurd HA.out (by simp [rillmeterlaw15_ElasticNews.j0])
   | succ cZ =>
    have H := HA.out; clear HA; simp only [rillmeterlaw15_ElasticNews.j0] at H
    by_cases bT : bU = true
    ·subst bT
     have H1 : (some false) = some r := by rw [if_pos rfl] at H; exact H
     clear H; have H := H1; clear H1; exact absurd ((Option.some.inj H).trans hrt.out) (by decide)
    ·replace bT := Bool.eq_false_iff.mpr bT; subst bT
     have H1 : (rillmeterlaw15_ElasticNews.l0 cZ a5 (aC.length : Int) 0 aG aE aF aC aH aI aD) = some r := by rw [if_neg (show ¬ (false = true) by decide)] at H; exact H
     clear H; have H := H1; clear H1; have H' := mk_ H; clear H; obtain ⟨iE, iF, iG, iH, iI, iJ, iK⟩ := cz7_ aA; obtain ⟨iL, iM, iN, iO, iP, iQ, iR⟩ := fz7_ aA
     go_wp2
     go_loopg [82] cZ (fun kq iS w' => ∃ (aL : Int), iS = .int .i64 aL ∧ Aside0 (rillmeterlaw15_ElasticNews.l0 kq a5 (aC.length : Int) aL aG aE aF aC aH aI aD = some r) ∧ Aside0 (kq ≤ cZ) ∧ Aside0 (Kd.S k56 56 w' w.heap.size (fun _ => True) (.slice aN aC.length aO) aC) ∧ Aside0 (Kd.S (Kd.slice 3 (Kd.int .i64)) 57 w' w.heap.size (fun _ => True) (.slice aQ aD.length aR) aD) ∧ Aside0 (w'.heap[aB]? = some (.cells #[.int .u64 aG, .int .i64 aE, .int .i64 aF, (.slice aN aC.length aO), .int .u64 aH, .int .i64 aI, (.slice aQ aD.length aR)] 28 (0, 0))) ∧ Aside0 (Below w.heap.size w w'))
     case atStart => exact ⟨(0), (by first | rfl | (simp; done) | (simp [*]; done)), H', ⟨Nat.le_refl _⟩, ⟨by (with_reducible repeat (first | apply Kd.S_alloc | apply Kd.S_drewN | apply Kd.S_drew)); exact aS.out⟩, ⟨by (with_reducible repeat (first | apply Kd.S_alloc | apply Kd.S_drewN | apply Kd.S_drew)); exact aT.out⟩, ⟨bk_ aA⟩, ⟨bl_ HB⟩⟩
     case round =>
      clear H'; (try clear c1); (try clear c2); (try clear p2); (try clear c3); (try clear c4); (try clear c9); (try clear aX); (try clear bG); (try clear cH); (try clear aY); (try clear cI); (try clear cJ); (try clear aZ); (try clear cK); (try clear cL); (try clear bA); (try clear cM); (try clear cN); (try clear bB); (try clear cO); (try clear cP); (try clear iD); (try clear bT); (try clear dF); (try clear dG); (try clear dH); (try clear dI); (try clear dJ); (try clear dK); (try clear dL); (try clear dV); (try clear dW); (try clear dX); (try clear dY); (try clear dZ); (try clear fA); (try clear fB); (try clear fJ); (try clear fK); (try clear fL); (try clear fM); (try clear fN); (try clear fO); (try clear fP); (try clear fX); (try clear fY); (try clear fZ); (try clear gA); (try clear gB); (try clear gC); (try clear gD); (try clear gL); (try clear gM); (try clear gN); (try clear gO); (try clear gP); (try clear gQ); (try clear gR); (try clear gZ); (try clear hA); (try clear hB); (try clear hC); (try clear hD); (try clear hE); (try clear hF); (try clear iE); (try clear iF); (try clear iG); (try clear iH); (try clear iI); (try clear iJ); (try clear iK); (try clear dM); (try clear dN)
      (try clear dO); (try clear dP); (try clear dQ); (try clear dR); (try clear dS); (try clear fC); (try clear fD); (try clear fE); (try clear fF); (try clear fG); (try clear fH); (try clear fI); (try clear fQ); (try clear fR); (try clear fS); (try clear fT); (try clear fU); (try clear fV); (try clear fW); (try clear gE); (try clear gF); (try clear gG); (try clear gH); (try clear gI); (try clear gJ); (try clear gK); (try clear gS); (try clear gT); (try clear gU); (try clear gV); (try clear gW); (try clear gX); (try clear gY); (try clear hG); (try clear hH); (try clear hI); (try clear hJ); (try clear hK); (try clear hL); (try clear hM); (try clear iL); (try clear iM); (try clear iN); (try clear iO); (try clear iP); (try clear iQ); (try clear iR); (try clear p2); obtain ⟨aL, rfl, HA, HK2, aS, aT, aA, HB⟩ := hrel
      cases gk with
      | zero => exact absurd HA.out (by simp [rillmeterlaw15_ElasticNews.l0])
      | succ k2 =>
       have H := HA.out; clear HA; simp only [rillmeterlaw15_ElasticNews.l0] at H
       by_cases bO : aL < (aC.length : Int)
       ·rw [if_pos bO] at H; have iT : decide (aL < (aC.length : Int)) = true := decide_eq_true bO; clear bO
        by_cases bW : 0 ≤ aL
        ·rw [if_pos bW] at H; have jT : decide (0 ≤ aL) = true := decide_eq_true bW; clear bW
         by_cases bX : aL < (aC.length : Int)
         ·rw [if_pos bX] at H; have jU : decide (aL < (aC.length : Int)) = true := decide_eq_true bX; clear bX
          by_cases bP : (((rd_T56 aC aL).f0).length : Int) > 0
          ·rw [if_pos bP] at H; have iU : decide (0 < (((rd_T56 aC aL).f0).length : Int)) = true := decide_eq_true bP; have iV : decide (0 < ((rd_T56 aC aL).f0).length) = true := decide_eq_true (by omega); clear bP; exact absurd ((Option.some.inj H).trans hrt.out) (by decide)
          ·rw [if_neg bP] at H; have iU : decide (0 < (((rd_T56 aC aL).f0).length : Int)) = false := decide_eq_false bP; have iV : decide (0 < ((rd_T56 aC aL).f0).length) = false := decide_eq_false (by omega); clear bP
           by_cases bH : ((rd_T56 aC aL).f1) = 0
           ·rw [if_pos bH] at H; have iW : (((rd_T56 aC aL).f1) == 0) = true := beq_iff_eq.mpr bH; have iX : (((rd_T56 aC aL).f1) != 0) = false := bne_eq_false_iff_eq.mpr bH; clear bH; have H' := mk_ H; clear H; obtain ⟨jV, jW, jX, jY, jZ, lA, lB⟩ := cz7_ aA; obtain ⟨lC, lD, lE, lF, lG, lH, lI⟩ := fz7_ aA; have bY : 0 ≤ (aL : Int) := of_decide_eq_true (by first | (with_reducible assumption) | assumption); have bZ : aL < (aC.length : Int) := of_decide_eq_true (by first | (with_reducible assumption) | assumption)
            obtain ⟨iY, A406_0, c406_0, e406, hN, lJ, hO, hi406_0⟩ := at_T56 (Kd.S_reads' aS.out).2.2 aL bY bZ
            cases e406; obtain ⟨ce406, hce406, hMe406, hcc406⟩ := Kd.S_get aS.out z56 aL bY (by first | exact bZ | exact of_decide_eq_true (by first | (with_reducible assumption) | assumption) | (have e_ := (Kd.S_reads' aS.out).1; omega)); obtain ⟨ve406_0, rfl, ge406_0⟩ := k56_openM hMe406; have hv406_0 := hcc406 0 _ rfl; rw [Nat.add_zero] at hv406_0; replace hv406_0 := Option.some.inj (hv406_0.symm.trans hN); rw [hv406_0] at ge406_0; have lK := mk_ (show Kd.R k76 76 _ _ _ _ ((rd_T56 aC aL).f0) from ge406_0); clear hv406_0 ge406_0; clear hcc406 hce406; have lL := mk_ hi406_0; have lM := mk_ hO; clear hi406_0 hO; replace bY := eq_true bY; replace bZ := eq_true bZ; have cA : 0 ≤ (aL : Int) := of_decide_eq_true (by first | (with_reducible assumption) | assumption); have cB : aL < (aC.length : Int) := of_decide_eq_true (by first | (with_reducible assumption) | assumption); obtain ⟨iZ, A407_0, c407_0, e407, hP, lN, hQ, hi407_0⟩ := at_T56 (Kd.S_reads' aS.out).2.2 aL cA cB; obtain rfl : iY = iZ := (by injection e407); obtain ⟨ce407, hce407, hMe407, hcc407⟩ := Kd.S_get aS.out z56 aL cA (by first | exact cB | exact of_decide_eq_true (by first | (with_reducible assumption) | assumption) | (have e_ := (Kd.S_reads' aS.out).1; omega)); obtain ⟨ve407_0, rfl, ge407_0⟩ := k56_openM hMe407; have hv407_0 := hcc407 0 _ rfl
            rw [Nat.add_zero] at hv407_0; replace hv407_0 := Option.some.inj (hv407_0.symm.trans hP); rw [hv407_0] at ge407_0; have lO := mk_ (show Kd.R k76 76 _ _ _ _ ((rd_T56 aC aL).f0) from ge407_0); clear hv407_0 ge407_0; clear hcc407 hce407; have lP := mk_ hi407_0; have lQ := mk_ hQ; clear hi407_0 hQ; replace cA := eq_true cA; replace cB := eq_true cB; have ea_ := Option.some.inj (hN.symm.trans hP)
            injection ea_ with ea_ en_ ec_
            subst ea_; subst ec_; clear en_
            go_wp2
            go_roundg k2
            case measure => have := HJ9.out; have := HK2.out; omega
            case rel => exact ⟨(wrap64 (aL + 1)), (by first | rfl | (simp; done) | (simp [*]; done)), H', ⟨by have := HJ9.out; have := HK2.out; omega⟩, ⟨by (with_reducible repeat (first | apply Kd.S_alloc | apply Kd.S_drewN | apply Kd.S_drew)); exact aS.out⟩, ⟨by (with_reducible repeat (first | apply Kd.S_alloc | apply Kd.S_drewN | apply Kd.S_drew)); exact aT.out⟩, ⟨bk_ aA⟩, ⟨bl_ HB⟩⟩
           ·rw [if_neg bH] at H; have iW : (((rd_T56 aC aL).f1) == 0) = false := beq_eq_false_iff_ne.mpr bH; have iX : (((rd_T56 aC aL).f1) != 0) = true := bne_iff_ne.mpr bH; exact absurd ((Option.some.inj H).trans hrt.out) (by decide)
         ·rw [if_neg bX] at H; exact absurd H (by simp)
        ·rw [if_neg bW] at H; exact absurd H (by simp)
       ·rw [if_neg bO] at H; have iT : decide (aL < (aC.length : Int)) = false := decide_eq_false bO; clear bO
        by_cases cC : 0 < (aD.length : Int)
        ·rw [if_pos cC] at H; have lR : decide (0 < (aD.length : Int)) = true := decide_eq_true cC; have lS : decide (0 < aD.length) = true := decide_eq_true (by omega); clear cC
         by_cases bI : ((rd_L9 aD 0).length : Int) = a5
         ·rw [if_pos bI] at H; have jA : (((rd_L9 aD 0).length : Int) == a5) = true := beq_iff_eq.mpr bI; have jB : (((rd_L9 aD 0).length : Int) != a5) = false := bne_eq_false_iff_eq.mpr bI; clear bI; replace H := Option.bind_eq_some_iff.mp H; obtain ⟨bD, hR, H⟩ := H; replace H : (if (bD.length : Int) = 0 then ((rillmeterlaw15_awake.f k2).bind fun cD => (some cD)) else (some false)) = some r := H; have jC := mk_ hR; clear hR
          by_cases bE : (bD.length : Int) = 0
          ·rw [if_pos bE] at H; have jD : ((bD.length : Int) == 0) = true := beq_iff_eq.mpr bE; have jE : ((bD.length : Int) != 0) = false := bne_eq_false_iff_eq.mpr bE; clear bE; replace H := Option.bind_eq_some_iff.mp H; obtain ⟨cD, hS, H⟩ := H; replace H : (some cD) = some r := H; have jF := mk_ hS; clear hS; obtain rfl := Option.some.inj H; obtain ⟨lT, lU, lV, lW, lX, lY, lZ⟩ := cz7_ aA; obtain ⟨mA, mB, mC, mD, mE, mF, mG⟩ := fz7_ aA; have cE : 0 ≤ (0 : Int) := (by omega)
           have cF : 0 < (aD.length : Int) := of_decide_eq_true (by first | (with_reducible assumption) | assumption); (try (obtain ⟨Az_, cz_, ez_, _, _⟩ := Kd.S_reads aT.out; subst ez_)); obtain ⟨mH, A408_0, c408_0, e408, dA, hT, hi408_0⟩ := at_L9 (Kd.S_reads' aT.out).2.2 0 cE cF
           cases e408; obtain ⟨ce408, hce408, hMe408, hcc408⟩ := Kd.S_get aT.out [] 0 cE (by first | exact cF | exact of_decide_eq_true (by first | (with_reducible assumption) | assumption) | (have e_ := (Kd.S_reads' aT.out).1; omega)); obtain ⟨ve408_0, rfl, ge408_0⟩ := hMe408; have hv408_0 := hcc408 0 _ rfl; rw [Nat.add_zero, show ((Kd.slice 3 (Kd.int .i64))).sz = 1 from rfl, Nat.mul_one] at hv408_0; replace hv408_0 := Option.some.inj (hv408_0.symm.trans dA); rw [hv408_0] at ge408_0; have bQ := mk_ (show Kd.R (Kd.int .i64) 3 _ _ _ _ (rd_L9 aD 0) from ge408_0); clear hv408_0 ge408_0; clear hcc408 hce408; have qi408 : (0 < aD.length) = True := eq_true (by omega); (try rw [show ((0 : Int)).toNat = 0 from rfl] at dA); (try rw [Addr.add_zero'] at dA); have aV := mk_ hi408_0; have mI := mk_ hT; clear hi408_0 hT; replace cE := eq_true cE; replace cF := eq_true cF
           go_wp2_with (first | (go_at_call 13; (with_reducible refine (elastic_List.calls k2 aG aE aF _ _ aC aH aI _ _ aD 0 bD _ ?side1 ?side2 ?side3 ?side4 jC.out).mono ?_); (case side1 => repeat (first | exact (Kd.S_reads' aS.out).2.2 | (with_reducible refine Kd.C_alloc ?_ _) | (with_reducible refine Kd.C_drewN ?_ _) | (with_reducible refine Kd.C_drew ?_))); (case side2 => exact (Kd.S_reads' aS.out).2.1); (case side3 => repeat (first | exact (Kd.S_reads' aT.out).2.2 | (with_reducible refine Kd.C_alloc ?_ _) | (with_reducible refine Kd.C_drewN ?_ _) | (with_reducible refine Kd.C_drew ?_))); (case side4 => exact (Kd.S_reads' aT.out).2.1); rintro e mJ ⟨mK, rfl, ho0, hb⟩; have n0_ := ss_ aS hb; have n1_ := ss_ aT hb; have n2_ := mk_ (Kd.R_below (by (with_reducible repeat (first | apply Kd.R_alloc | apply Kd.R_drewN | apply Kd.R_drew)); exact bQ.out) hb); have n3_ := mk_ (Kd.R_lower ho0 (below_size (bl_ HB))); have n4_ := bb_ aA hb; have n5_ := mk_ (Kd.C_below (by first | (with_reducible exact aV.out) | (with_reducible exact Kd.C_drewN aV.out _) | repeat (first | (with_reducible exact aV.out) | (with_reducible refine Kd.C_alloc ?_ _) | (with_reducible refine Kd.C_drewN ?_ _) | (with_reducible refine Kd.C_drew ?_) | exact aV.out)) hb); have n6_ := bs_ HB hb; clear aS; clear aT; clear bQ; clear aA; clear aV; clear HB; have aS := n0_; have aT := n1_; have bQ := n2_; have cG := n3_; have aA := n4_; have aV := n5_; have HB := n6_; clear n0_ n1_ n2_ n3_ n4_ n5_ n6_; (try clear hb); (try clear hb2); (try clear hk); (try clear hi); (try clear ho0); obtain ⟨mL, mM, eo48⟩ := Kd.R_slice cG.out; subst eo48) | (go_at_call 10; (with_reducible refine (rillmeterlaw15_awake.calls k2  cD _ jF.out).mono ?_); rintro e mN ⟨rfl, hb⟩; have n0_ := ss_ aS hb; have n1_ := ss_ aT hb; have n2_ := mk_ (Kd.R_below (by (with_reducible repeat (first | apply Kd.R_alloc | apply Kd.R_drewN | apply Kd.R_drew)); exact bQ.out) hb); have n3_ := mk_ (Kd.R_below (by (with_reducible repeat (first | apply Kd.R_alloc | apply Kd.R_drewN | apply Kd.R_drew)); exact cG.out) hb); have n4_ := bb_ aA hb; have n5_ := mk_ (Kd.C_below (by first | (with_reducible exact aV.out) | (with_reducible exact Kd.C_drewN aV.out _) | repeat (first | (with_reducible exact aV.out) | (with_reducible refine Kd.C_alloc ?_ _) | (with_reducible refine Kd.C_drewN ?_ _) | (with_reducible refine Kd.C_drew ?_) | exact aV.out)) hb); have n6_ := bs_ HB hb; clear aS; clear aT; clear bQ; clear cG; clear aA; clear aV; clear HB; have aS := n0_; have aT := n1_; have bQ := n2_; have cG := n3_; have aA := n4_; have aV := n5_; have HB := n6_; clear n0_ n1_ n2_ n3_ n4_ n5_ n6_; (try clear hb); (try clear hb2); (try clear hk); (try clear hi)))
           go_ret; exact ⟨by first | rfl | (simp [errW_none, errW_some] <;> rfl) | (simp [*, errW_none, errW_some] <;> rfl), bl_ HB⟩
          ·rw [if_neg bE] at H; have jD : ((bD.length : Int) == 0) = false := beq_eq_false_iff_ne.mpr bE; have jE : ((bD.length : Int) != 0) = true := bne_iff_ne.mpr bE
           have mO : ¬ (bD = []) := fun h_ => bE (by rw [h_]; rfl)
           exact absurd ((Option.some.inj H).trans hrt.out) (by decide)
         ·rw [if_neg bI] at H; have jA : (((rd_L9 aD 0).length : Int) == a5) = false := beq_eq_false_iff_ne.mpr bI; have jB : (((rd_L9 aD 0).length : Int) != a5) = true := bne_iff_ne.mpr bI; exact absurd ((Option.some.inj H).trans hrt.out) (by decide)
        ·rw [if_neg cC] at H; exact absurd H (by simp)
 ·replace c9 := Bool.eq_false_iff.mpr c9; subst c9
  have H1 : (if aP = 1 then (if (aC.length : Int) = 0 then ((rillmeterlaw15_awake.f k).bind fun aW => (some aW)) else (some false)) else (some false)) = some r := by rw [if_neg (show ¬ (false = true) by decide)] at H; exact H
  clear H; have H := H1; clear H1
  by_cases bJ : aP = 1
  ·rw [if_pos bJ] at H; have jG : (aP == 1) = true := beq_iff_eq.mpr bJ; have jH : (aP != 1) = false := bne_eq_false_iff_eq.mpr bJ; clear bJ
   by_cases bF : (aC.length : Int) = 0
   ·rw [if_pos bF] at H; have jI : ((aC.length : Int) == 0) = true := beq_iff_eq.mpr bF; have jJ : ((aC.length : Int) != 0) = false := bne_eq_false_iff_eq.mpr bF; clear bF; replace H := Option.bind_eq_some_iff.mp H; obtain ⟨aW, hU, H⟩ := H; replace H : (some aW) = some r := H; have jK := mk_ hU; clear hU; obtain rfl := Option.some.inj H
    go_enter Try.func4, Try.ntmps4
    go_wp2_with (first | ((with_reducible refine gate_callee (f := 21) rfl ?_); refine goesL_ (some 23) rfl rfl Try.func21 (by kernel_rfl) rfl #[.int .u64 a0, .int .i64 a1, .int .i64 a2, .int .i64 a3, .int .i64 a4, .int .i64 a5] rfl (by (try simp only [List.map_toArray, List.map_cons, List.map_nil]); first | done | rfl | (simp only [List.length_drop, List.length_take]; rfl)) ?_; (with_reducible refine (elastic_New.calls k a0 a1 a2 a3 a4 a5 aG aE aF aC aH aI aD aP _ A7.out).mono ?_); rintro e mP ⟨hV, hW, rfl, ho0, ho1, hb⟩; refine ⟨_, rfl, ?_⟩; have n0_ := mk_ (Kd.S_lower ho0 (below_size (bl_ HB))); have n1_ := mk_ (Kd.S_lower ho1 (below_size (bl_ HB))); have n2_ := bs_ HB hb; clear HB; have aK := n0_; have aM := n1_; have HB := n2_; clear n0_ n1_ n2_; (try clear hb); (try clear hb2); (try clear hk); (try clear hi); (try clear ho0); (try clear ho1)) | ((with_reducible refine gate_dst (N := 13) rfl ?_); (try (refine gate_guard (by rfl) ?_; dsimp only)); refine box_event ?hg (N := 13) ?hd (cs := #[.int .u64 0, .int .i64 0, .int .i64 0, .slice none 0 0, .int .u64 0, .int .i64 0, .slice none 0 0]) (t := 28) ?hr ?_; (case hd => rfl); (case hg => rfl); (case hr => first | (go_simp; done) | (go_simp; rfl)); intro aB hg bK hbox hb; have n0_ := ss_ aK hb; have n1_ := ss_ aM hb; have n2_ := bs_ HB hb; have n3_ := mk_ (hbox); have n4_ := gx_ hg HB; have n5_ := gx_ hg HB; clear aK; clear aM; clear HB; have aK := n0_; have aM := n1_; have HB := n2_; have aA := n3_; have hX := n4_; have hY := n5_; clear n0_ n1_ n2_ n3_ n4_ n5_; clear hb hbox hg; obtain ⟨mQ, mR, mS, mT, mU, mV, mW⟩ := cz7_ aA; obtain ⟨mX, mY, mZ, nA, nB, nC, nD⟩ := fz7_ aA; obtain ⟨bR, bS, eo56⟩ := Kd.S_slice aK.out; subst eo56; obtain ⟨dB, dC, eo57⟩ := Kd.S_slice aM.out; subst eo57) | ((with_reducible refine gate_callee (f := 22) rfl ?_); refine goesL_ (some 31) rfl rfl Try.func22 (by kernel_rfl) rfl #[.int .i64 a1, .int .i64 a2, .int .i64 a3, .int .i64 a4, .int .i64 a5] rfl (by (try simp only [List.map_toArray, List.map_cons, List.map_nil]); first | done | rfl | (simp only [List.length_drop, List.length_take]; rfl)) ?_; (with_reducible refine (rillmeterlaw15_shape.calls a1 a2 a3 a4 a5 false _ A8.out).mono ?_); rintro e w' ⟨rfl, ⟨nd, rfl⟩⟩; refine ⟨_, rfl, ?_⟩) | (go_at_call 10; (with_reducible refine (rillmeterlaw15_awake.calls k  aW _ jK.out).mono ?_); rintro e nE ⟨rfl, hb⟩; have n0_ := mk_ (Kd.S_below (sl_ ((Kd.S_mono (Kd.S_far (p := ⟨aB, 6, none⟩) (Kd.S_far (p := ⟨aB, 5, none⟩) (Kd.S_far (p := ⟨aB, 4, none⟩) (Kd.S_far (p := ⟨aB, 3, none⟩) (Kd.S_far (p := ⟨aB, 2, none⟩) (Kd.S_far (p := ⟨aB, 1, none⟩) (Kd.S_far (p := ⟨aB, 0, none⟩) (Kd.S_types aK.out aA.out (by decide)) (fun _ hk => hk.2) (.int .u64 aG)) (fun _ hk => hk.2) (.int .i64 aE)) (fun _ hk => hk.2) (.int .i64 aF)) (fun _ hk => hk.2) (.slice bR aC.length bS)) (fun _ hk => hk.2) (.int .u64 aH)) (fun _ hk => hk.2) (.int .i64 aI)) (fun _ hk => hk.2) (.slice dB aD.length dC)) (fun _ h_ => h_.1)))) hb); have n1_ := mk_ (Kd.S_below (sl_ ((Kd.S_mono (Kd.S_far (p := ⟨aB, 6, none⟩) (Kd.S_far (p := ⟨aB, 5, none⟩) (Kd.S_far (p := ⟨aB, 4, none⟩) (Kd.S_far (p := ⟨aB, 3, none⟩) (Kd.S_far (p := ⟨aB, 2, none⟩) (Kd.S_far (p := ⟨aB, 1, none⟩) (Kd.S_far (p := ⟨aB, 0, none⟩) (Kd.S_types aM.out aA.out (by decide)) (fun _ hk => hk.2) (.int .u64 aG)) (fun _ hk => hk.2) (.int .i64 aE)) (fun _ hk => hk.2) (.int .i64 aF)) (fun _ hk => hk.2) (.slice bR aC.length bS)) (fun _ hk => hk.2) (.int .u64 aH)) (fun _ hk => hk.2) (.int .i64 aI)) (fun _ hk => hk.2) (.slice dB aD.length dC)) (fun _ h_ => h_.1)))) hb); have n2_ := mk_ (blk_below (g := aB) (o := .cells #[.int .u64 aG, .int .i64 aE, .int .i64 aF, .slice bR aC.length bS, .int .u64 aH, .int .i64 aI, .slice dB aD.length dC] 28 (0, 0)) (by (with_reducible repeat (first | refine blk_drewN ?_ _ | refine blk_drew ?_ | refine blk_alloc ?_ _)); refine blk_put (cs := #[.int .u64 aG, .int .i64 aE, .int .i64 aF, .slice bR aC.length bS, .int .u64 aH, .int .i64 aI, .slice none 0 0]) ?_ 6 _ rfl; (with_reducible repeat (first | refine blk_drewN ?_ _ | refine blk_drew ?_ | refine blk_alloc ?_ _)); refine blk_put (cs := #[.int .u64 aG, .int .i64 aE, .int .i64 aF, .slice bR aC.length bS, .int .u64 aH, .int .i64 0, .slice none 0 0]) ?_ 5 _ rfl; (with_reducible repeat (first | refine blk_drewN ?_ _ | refine blk_drew ?_ | refine blk_alloc ?_ _)); refine blk_put (cs := #[.int .u64 aG, .int .i64 aE, .int .i64 aF, .slice bR aC.length bS, .int .u64 0, .int .i64 0, .slice none 0 0]) ?_ 4 _ rfl; (with_reducible repeat (first | refine blk_drewN ?_ _ | refine blk_drew ?_ | refine blk_alloc ?_ _)); refine blk_put (cs := #[.int .u64 aG, .int .i64 aE, .int .i64 aF, .slice none 0 0, .int .u64 0, .int .i64 0, .slice none 0 0]) ?_ 3 _ rfl; (with_reducible repeat (first | refine blk_drewN ?_ _ | refine blk_drew ?_ | refine blk_alloc ?_ _)); refine blk_put (cs := #[.int .u64 aG, .int .i64 aE, .int .i64 0, .slice none 0 0, .int .u64 0, .int .i64 0, .slice none 0 0]) ?_ 2 _ rfl; (with_reducible repeat (first | refine blk_drewN ?_ _ | refine blk_drew ?_ | refine blk_alloc ?_ _)); refine blk_put (cs := #[.int .u64 aG, .int .i64 0, .int .i64 0, .slice none 0 0, .int .u64 0, .int .i64 0, .slice none 0 0]) ?_ 1 _ rfl; (with_reducible repeat (first | refine blk_drewN ?_ _ | refine blk_drew ?_ | refine blk_alloc ?_ _)); refine blk_put (cs := #[.int .u64 0, .int .i64 0, .int .i64 0, .slice none 0 0, .int .u64 0, .int .i64 0, .slice none 0 0]) ?_ 0 _ rfl; (with_reducible repeat (first | refine blk_drewN ?_ _ | refine blk_drew ?_ | refine blk_alloc ?_ _)); exact aA.out) hb); have n3_ := bs_ HB hb; clear aK; clear aM; clear aA; clear HB; have aK := n0_; have aM := n1_; have aA := n2_; have HB := n3_; clear n0_ n1_ n2_ n3_; (try clear hb); (try clear hb2); (try clear hk); (try clear hi)))
    go_ret; exact ⟨by first | rfl | (simp [errW_none, errW_some] <;> rfl) | (simp [*, errW_none, errW_some] <;> rfl), bl_ HB⟩
   ·rw [if_neg bF] at H; have jI : ((aC.length : Int) == 0) = false := beq_eq_false_iff_ne.mpr bF; have jJ : ((aC.length : Int) != 0) = true := bne_iff_ne.mpr bF
    have nF : ¬ (aC = []) := fun h_ => bF (by rw [h_]; rfl)
    exact absurd ((Option.some.inj H).trans hrt.out) (by decide)
  ·rw [if_neg bJ] at H; have jG : (aP == 1) = false := beq_eq_false_iff_ne.mpr bJ; have jH : (aP != 1) = true := bne_iff_ne.mpr bJ; exact absurd ((Option.some.inj H).trans hrt.out) (by decide)

/-- THE ONE PURE STATEMENT of rillmeterlaw15_ElasticNews: yours. -/
def rillmeterlaw15_ElasticNews.Pure : Prop := ∀ (a0 : Int) (a1 : Int) (a2 : Int) (a3 : Int) (a4 : Int) (a5 : Int), (Lit.int .u64 a0).wf = true → (Lit.int .i64 a1).wf = true → (Lit.int .i64 a2).wf = true → (Lit.int .i64 a3).wf = true → (Lit.int .i64 a4).wf = true → (Lit.int .i64 a5).wf = true → ∃ k, rillmeterlaw15_ElasticNews.f k a0 a1 a2 a3 a4 a5 = some true
theorem rillmeterlaw15_ElasticNews.walk (P : rillmeterlaw15_ElasticNews.Pure) (a0 : Int) (a1 : Int) (a2 : Int) (a3 : Int) (a4 : Int) (a5 : Int) (w : World) (w0 : (Lit.int .u64 a0).wf = true) (w1 : (Lit.int .i64 a1).wf = true) (w2 : (Lit.int .i64 a2).wf = true) (w3 : (Lit.int .i64 a3).wf = true) (w4 : (Lit.int .i64 a4).wf = true) (w5 : (Lit.int .i64 a5).wf = true) :
  Calls Try.prog 4 #[.int .u64 a0, .int .i64 a1, .int .i64 a2, .int .i64 a3, .int .i64 a4, .int .i64 a5] w fun e w' => e = .returned (.bool true) ∧ Below w.heap.size w w' := by
 obtain ⟨k, h⟩ := P a0 a1 a2 a3 a4 a5 w0 w1 w2 w3 w4 w5; refine (rillmeterlaw15_ElasticNews.calls k a0 a1 a2 a3 a4 a5 true w h ⟨rfl⟩).mono ?_; rintro e w' ⟨rfl, hd⟩; exact ⟨rfl, hd⟩

end Go.Proofs.Ytljmjjeghebdpaa.PElasticNews
