/- The functions that a law uses, each as a plain function, with the proof that a call of the Go function comes to its answer. Condition of each: the arguments read as the data that it names, and the plain function has an answer. Written by a program of this session (standin.py). -/
import Derived.Test.YtoplnkbhgpamaaaPSolveTellsx0
import Derived.Test.YtoplnkbhgpamaaaShort
import Derived.Lib.SliceRun
namespace Go.Proofs.Ytoplnkbhgpamaaa.PSolveTells
open Go.RowKit Go.Proofs.YtoplnkbhgpamaaaW.PrintWords Go.Proofs.YtoplnkbhgpamaaaW.PrintLast Go.Proofs.YtoplnkbhgpamaaaW.PrintMore Go.Proofs.Ytoplnkbhgpamaaa.Short
attribute [local go_sem] max2_int min2_int max_two min_two max_three min_three max_four min_four   -- for this text's walks alone
set_option linter.unusedVariables false
set_option linter.unusedSimpArgs false

/-! ### rillmeterref03_Even: function 12 -/
def rillmeterref03_Even.l0 : Nat → List (List Int) → Int → Option (Bool)
  | 0, _, _ => none
  | k + 1, x0, x3 => if x3 < (x0.length : Int) then (if 0 ≤ x3 then (if 0 < (x0.length : Int) then (if ((rd_L1 x0 x3).length : Int) = ((rd_L1 x0 0).length : Int) then (if ((rd_L1 x0 x3).length : Int) > 32 then (some false) else (rillmeterref03_Even.l0 k x0 (wrap64 (x3 + 1)))) else (some false)) else (none)) else (none)) else (some (decide ((x0.length : Int) ≤ 32)))
def rillmeterref03_Even.f (k : Nat) (l0 : List (List Int)) : Option (Bool) := rillmeterref03_Even.l0 k l0 0
theorem rillmeterref03_Even.mono_l : ∀ k, (∀ y0 y1, LeO (rillmeterref03_Even.l0 k y0 y1) (rillmeterref03_Even.l0 (k + 1) y0 y1))
  | 0 => fun _ _ r h => by simp [rillmeterref03_Even.l0] at h
  | k + 1 => by
    have ih0 := rillmeterref03_Even.mono_l k
    · intro y0 y1
      unfold rillmeterref03_Even.l0
      repeat' first
      | (with_reducible exact ih0 _ _)
      | (with_reducible exact LeO.refl _)
      | (with_reducible exact LeO.none _)
      | (with_reducible refine LeO.ite ?_ ?_)
      | (with_reducible refine LeO.bind ?_ (fun _ => ?_))
      | exact ih0 _ _
      | exact LeO.none _
      | refine LeO.ite ?_ ?_
      | refine LeO.bind ?_ (fun _ => ?_)
theorem rillmeterref03_Even.mono : ∀ a0 k, LeO (rillmeterref03_Even.f k a0) (rillmeterref03_Even.f (k + 1) a0) := by
  intro a0 k
  have ih0 := rillmeterref03_Even.mono_l k
  unfold rillmeterref03_Even.f
  repeat' first
      | (with_reducible exact ih0 _ _)
      | (with_reducible exact LeO.refl _)
      | (with_reducible exact LeO.none _)
      | (with_reducible refine LeO.ite ?_ ?_)
      | (with_reducible refine LeO.bind ?_ (fun _ => ?_))
      | exact ih0 _ _
      | exact LeO.none _
      | refine LeO.ite ?_ ?_
      | refine LeO.bind ?_ (fun _ => ?_)
set_option maxHeartbeats 8000000 in
set_option maxRecDepth 100000 in
theorem rillmeterref03_Even.calls (k : Nat) (A0 : Option Addr) (c0 : Nat) (l0 : List (List Int)) (r : Bool) (w : World) (hr0 : Kd.C (Kd.slice 36 (Kd.int .u64)) w A0 l0.length l0) (hc0 : l0.length ≤ c0) (h : rillmeterref03_Even.f k l0 = some r) :
    Calls Try.prog 12 #[.slice A0 l0.length c0] w fun e w' => e = .returned (.bool r) ∧ Drawn0 w w' := by
  have HR0 := Aside0.mk hr0
  have HC0 := Aside0.mk hc0
  clear hr0 hc0
  have H : (rillmeterref03_Even.l0 k l0 0) = some r := h
  clear h
  have H' := Aside0.mk H
  clear H
  go_enter Try.func12, Try.ntmps12
  go_wp2
  repeat (go_quiet (fail); try go_wp2)
  go_loopg [3] k (fun kq v3 w' => ∃ (x3_1 : Int), v3 = .int .i64 x3_1 ∧ Aside0 (rillmeterref03_Even.l0 kq l0 x3_1 = some r) ∧ Aside0 (kq ≤ k) ∧ Drawn0 w w')
  case atStart => exact ⟨(0), (by first | rfl | (simp; done) | (simp [*]; done)), H', ⟨Nat.le_refl _⟩, by repeat (first | exact Drawn0.refl _ | apply Drawn0.step)⟩
  case round =>
    clear H'
    try clear c1
    obtain ⟨x3_1, rfl, HA, HK1, ⟨m1, rfl⟩⟩ := hrel
    cases gk with
    | zero => exact absurd HA.out (by simp [rillmeterref03_Even.l0])
    | succ k1 =>
      have H := HA.out
      clear HA
      simp only [rillmeterref03_Even.l0] at H
      by_cases c2 : x3_1 < (l0.length : Int)
      · rw [if_pos c2] at H
        have c2b0 : decide (x3_1 < (l0.length : Int)) = true := decide_eq_true c2
        clear c2
        by_cases c3 : 0 ≤ x3_1
        · rw [if_pos c3] at H
          have c3b0 : decide (0 ≤ x3_1) = true := decide_eq_true c3
          clear c3
          by_cases c4 : 0 < (l0.length : Int)
          · rw [if_pos c4] at H
            have c4b0 : decide (0 < (l0.length : Int)) = true := decide_eq_true c4
            have c4b1 : decide (0 < l0.length) = true := decide_eq_true (by omega)
            clear c4
            by_cases c5 : ((rd_L1 l0 x3_1).length : Int) = ((rd_L1 l0 0).length : Int)
            · rw [if_pos c5] at H
              have c5b0 : (((rd_L1 l0 x3_1).length : Int) == ((rd_L1 l0 0).length : Int)) = true := beq_iff_eq.mpr c5
              have c5b1 : (((rd_L1 l0 x3_1).length : Int) != ((rd_L1 l0 0).length : Int)) = false := bne_eq_false_iff_eq.mpr c5
              have c5b2 : ((rd_L1 l0 x3_1).length == (rd_L1 l0 0).length) = true := by first | simpa using c5 | (simp at c5 ⊢; omega)
              clear c5
              by_cases c6 : ((rd_L1 l0 x3_1).length : Int) > 32
              · rw [if_pos c6] at H
                have c6b0 : decide (32 < ((rd_L1 l0 x3_1).length : Int)) = true := decide_eq_true c6
                have c6b1 : decide (32 < (rd_L1 l0 x3_1).length) = true := decide_eq_true (by omega)
                clear c6
                obtain rfl := Option.some.inj H
                have p240 : 0 ≤ (x3_1 : Int) := of_decide_eq_true (by first | (with_reducible assumption) | assumption)
                have q240 : x3_1 < (l0.length : Int) := of_decide_eq_true (by first | (with_reducible assumption) | assumption)
                obtain ⟨ad240, A240_0, c240_0, e240, hx240_0, hl240_0, hi240_0⟩ := at_L1 HR0.out x3_1 p240 q240
                cases e240
                have HR240_0 := Aside0.mk hi240_0
                have HC240_0 := Aside0.mk hl240_0
                clear hi240_0 hl240_0
                replace p240 := eq_true p240
                replace q240 := eq_true q240
                have p241 : 0 ≤ (0 : Int) := (by omega)
                have q241 : 0 < (l0.length : Int) := of_decide_eq_true (by first | (with_reducible assumption) | assumption)
                obtain ⟨ad241, A241_0, c241_0, e241, hx241_0, hl241_0, hi241_0⟩ := at_L1 HR0.out 0 p241 q241
                obtain rfl : ad240 = ad241 := (by injection e241)
                have qi241 : (0 < l0.length) = True := eq_true (by omega)
                (try rw [show ((0 : Int)).toNat = 0 from rfl] at hx241_0)
                (try rw [Addr.add_zero'] at hx241_0)
                have HR241_0 := Aside0.mk hi241_0
                have HC241_0 := Aside0.mk hl241_0
                clear hi241_0 hl241_0
                replace p241 := eq_true p241
                replace q241 := eq_true q241
                have p242 : 0 ≤ (x3_1 : Int) := of_decide_eq_true (by first | (with_reducible assumption) | assumption)
                have q242 : x3_1 < (l0.length : Int) := of_decide_eq_true (by first | (with_reducible assumption) | assumption)
                obtain ⟨ad242, A242_0, c242_0, e242, hx242_0, hl242_0, hi242_0⟩ := at_L1 HR0.out x3_1 p242 q242
                obtain rfl : ad240 = ad242 := (by injection e242)
                have HR242_0 := Aside0.mk hi242_0
                have HC242_0 := Aside0.mk hl242_0
                clear hi242_0 hl242_0
                replace p242 := eq_true p242
                replace q242 := eq_true q242
                have ea_ := Option.some.inj (hx240_0.symm.trans hx242_0)
                injection ea_ with ea_ en_ ec_
                subst ea_
                subst ec_
                clear en_
                go_wp2
                repeat (go_quiet (fail); try go_wp2)
                go_ret
                exact ⟨by first | rfl | (simp; done) | (simp [*]; done), by repeat (first | exact Drawn0.refl _ | apply Drawn0.step)⟩
              · rw [if_neg c6] at H
                have c6b0 : decide (32 < ((rd_L1 l0 x3_1).length : Int)) = false := decide_eq_false c6
                have c6b1 : decide (32 < (rd_L1 l0 x3_1).length) = false := decide_eq_false (by omega)
                clear c6
                have H' := Aside0.mk H
                clear H
                have p240 : 0 ≤ (x3_1 : Int) := of_decide_eq_true (by first | (with_reducible assumption) | assumption)
                have q240 : x3_1 < (l0.length : Int) := of_decide_eq_true (by first | (with_reducible assumption) | assumption)
                obtain ⟨ad240, A240_0, c240_0, e240, hx240_0, hl240_0, hi240_0⟩ := at_L1 HR0.out x3_1 p240 q240
                cases e240
                have HR240_0 := Aside0.mk hi240_0
                have HC240_0 := Aside0.mk hl240_0
                clear hi240_0 hl240_0
                replace p240 := eq_true p240
                replace q240 := eq_true q240
                have p241 : 0 ≤ (0 : Int) := (by omega)
                have q241 : 0 < (l0.length : Int) := of_decide_eq_true (by first | (with_reducible assumption) | assumption)
                obtain ⟨ad241, A241_0, c241_0, e241, hx241_0, hl241_0, hi241_0⟩ := at_L1 HR0.out 0 p241 q241
                obtain rfl : ad240 = ad241 := (by injection e241)
                have qi241 : (0 < l0.length) = True := eq_true (by omega)
                (try rw [show ((0 : Int)).toNat = 0 from rfl] at hx241_0)
                (try rw [Addr.add_zero'] at hx241_0)
                have HR241_0 := Aside0.mk hi241_0
                have HC241_0 := Aside0.mk hl241_0
                clear hi241_0 hl241_0
                replace p241 := eq_true p241
                replace q241 := eq_true q241
                have p242 : 0 ≤ (x3_1 : Int) := of_decide_eq_true (by first | (with_reducible assumption) | assumption)
                have q242 : x3_1 < (l0.length : Int) := of_decide_eq_true (by first | (with_reducible assumption) | assumption)
                obtain ⟨ad242, A242_0, c242_0, e242, hx242_0, hl242_0, hi242_0⟩ := at_L1 HR0.out x3_1 p242 q242
                obtain rfl : ad240 = ad242 := (by injection e242)
                have HR242_0 := Aside0.mk hi242_0
                have HC242_0 := Aside0.mk hl242_0
                clear hi242_0 hl242_0
                replace p242 := eq_true p242
                replace q242 := eq_true q242
                have ea_ := Option.some.inj (hx240_0.symm.trans hx242_0)
                injection ea_ with ea_ en_ ec_
                subst ea_
                subst ec_
                clear en_
                go_wp2
                repeat (go_quiet (fail); try go_wp2)
                go_roundg k1
                case measure => have := HK1.out; omega
                case rel => exact ⟨(wrap64 (x3_1 + 1)), (by first | rfl | (simp; done) | (simp [*]; done)), H', ⟨by have := HK1.out; omega⟩, by repeat (first | exact Drawn0.refl _ | apply Drawn0.step)⟩
            · rw [if_neg c5] at H
              have c5b0 : (((rd_L1 l0 x3_1).length : Int) == ((rd_L1 l0 0).length : Int)) = false := beq_eq_false_iff_ne.mpr c5
              have c5b1 : (((rd_L1 l0 x3_1).length : Int) != ((rd_L1 l0 0).length : Int)) = true := bne_iff_ne.mpr c5
              have c5b2 : ((rd_L1 l0 x3_1).length == (rd_L1 l0 0).length) = false := by first | simpa using c5 | (simp at c5 ⊢; omega)
              obtain rfl := Option.some.inj H
              have p240 : 0 ≤ (x3_1 : Int) := of_decide_eq_true (by first | (with_reducible assumption) | assumption)
              have q240 : x3_1 < (l0.length : Int) := of_decide_eq_true (by first | (with_reducible assumption) | assumption)
              obtain ⟨ad240, A240_0, c240_0, e240, hx240_0, hl240_0, hi240_0⟩ := at_L1 HR0.out x3_1 p240 q240
              cases e240
              have HR240_0 := Aside0.mk hi240_0
              have HC240_0 := Aside0.mk hl240_0
              clear hi240_0 hl240_0
              replace p240 := eq_true p240
              replace q240 := eq_true q240
              have p241 : 0 ≤ (0 : Int) := (by omega)
              have q241 : 0 < (l0.length : Int) := of_decide_eq_true (by first | (with_reducible assumption) | assumption)
              obtain ⟨ad241, A241_0, c241_0, e241, hx241_0, hl241_0, hi241_0⟩ := at_L1 HR0.out 0 p241 q241
              obtain rfl : ad240 = ad241 := (by injection e241)
              have qi241 : (0 < l0.length) = True := eq_true (by omega)
              (try rw [show ((0 : Int)).toNat = 0 from rfl] at hx241_0)
              (try rw [Addr.add_zero'] at hx241_0)
              have HR241_0 := Aside0.mk hi241_0
              have HC241_0 := Aside0.mk hl241_0
              clear hi241_0 hl241_0
              replace p241 := eq_true p241
              replace q241 := eq_true q241
              go_wp2
              repeat (go_quiet (fail); try go_wp2)
              go_ret
              exact ⟨by first | rfl | (simp; done) | (simp [*]; done), by repeat (first | exact Drawn0.refl _ | apply Drawn0.step)⟩
          · rw [if_neg c4] at H
            exact absurd H (by simp)
        · rw [if_neg c3] at H
          exact absurd H (by simp)
      · rw [if_neg c2] at H
        have c2b0 : decide (x3_1 < (l0.length : Int)) = false := decide_eq_false c2
        clear c2
        obtain rfl := Option.some.inj H
        go_wp2
        repeat (go_quiet (fail); try go_wp2)
        go_ret
        exact ⟨by first | rfl | (simp; done) | (simp [*]; done), by repeat (first | exact Drawn0.refl _ | apply Drawn0.step)⟩

end Go.Proofs.Ytoplnkbhgpamaaa.PSolveTells
