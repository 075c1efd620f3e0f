/- The functions that a law uses, each as a plain function, with the proof that a call of the Go function comes to its answer. Condition of each: the arguments read as the data that it names, and the plain function has an answer. Written by a program of this session (standin.py). -/
import Derived.Test.YtljmjjeghebdpaaPElasticSeenx0
import Derived.Test.YtljmjjeghebdpaaPElasticSeenx2
import Derived.Test.YtljmjjeghebdpaaPElasticSeenx3
import Derived.Test.YtljmjjeghebdpaaShort
import Derived.Lib.SliceRun
import Derived.Shelf.Abstract
import Derived.StillTailTactics
import Derived.Test.YtljmjjeghebdpaaPressMore
namespace Go.Proofs.Ytljmjjeghebdpaa.PElasticSeen
open Go.RowKit Go.Proofs.YtljmjjeghebdpaaW.PrintWords Go.Proofs.YtljmjjeghebdpaaW.PrintLast Go.Proofs.YtljmjjeghebdpaaW.PrintMore Go.Proofs.Ytljmjjeghebdpaa.Short Go.Proofs.Ytljmjjeghebdpaa.Press Go.Proofs.Ytljmjjeghebdpaa.PressMore
attribute [local go_sem] max2_int min2_int max_two min_two max_three min_three max_four min_four   -- for this text's walks alone
set_option linter.unusedVariables false
set_option linter.unusedSimpArgs false

/-! ### field_Pow: function 83 -/
def field_Pow.l0 : Nat → Int → Int → Int → Option (Int)
  | 0, _, _, _ => none
  | k + 1, x0, x1, x5 => if x1 > 0 then (if (Go.bits .and .u64 x1 1) = 1 then ((field_Mul.f x5 x0).bind fun t134 => ((field_Mul.f x0 x0).bind fun t135 => (field_Pow.l0 k t135 (x1 / 2) t134))) else ((field_Mul.f x0 x0).bind fun t136 => (field_Pow.l0 k t136 (x1 / 2) x5))) else (some x5)
def field_Pow.f (k : Nat) (a0 : Int) (a1 : Int) : Option (Int) := (field_Of.f a0).bind fun t133 => (field_Pow.l0 k t133 a1 1)
theorem field_Pow.mono_l : ∀ k, (∀ y0 y1 y2, LeO (field_Pow.l0 k y0 y1 y2) (field_Pow.l0 (k + 1) y0 y1 y2))
  | 0 => fun _ _ _ r h => by simp [field_Pow.l0] at h
  | k + 1 => by
    have ih0 := field_Pow.mono_l k
    · intro y0 y1 y2
      unfold field_Pow.l0
      repeat' first | (with_reducible first | exact ih0 _ _ _ | exact LeO.refl _ | exact LeO.none _ | refine LeO.ite ?_ ?_ | refine LeO.bind ?_ (fun _ => ?_)) | exact ih0 _ _ _ | exact LeO.none _ | refine LeO.ite ?_ ?_ | refine LeO.bind ?_ (fun _ => ?_)
theorem field_Pow.mono : ∀ a0 a1 k, LeO (field_Pow.f k a0 a1) (field_Pow.f (k + 1) a0 a1) := by
  intro a0 a1 k
  have ih0 := field_Pow.mono_l k
  unfold field_Pow.f
  repeat' first | (with_reducible first | exact ih0 _ _ _ | exact LeO.refl _ | exact LeO.none _ | refine LeO.ite ?_ ?_ | refine LeO.bind ?_ (fun _ => ?_)) | exact ih0 _ _ _ | exact LeO.none _ | refine LeO.ite ?_ ?_ | refine LeO.bind ?_ (fun _ => ?_)
set_option maxHeartbeats 80000000 in
set_option maxRecDepth 100000 in
theorem field_Pow.calls (k : Nat) (a0 : Int) (a1 : Int) (r : Int) (w : World) (h : field_Pow.f k a0 a1 = some r) :
    Calls Try.prog 83 #[.int .u64 a0, .int .u64 a1] w fun e w' => e = .returned (.int .u64 r) ∧ Drawn0 w w' := by
 have H : ((field_Of.f a0).bind fun aE => (field_Pow.l0 k aE a1 1)) = some r := h; clear h; replace H := Option.bind_eq_some_iff.mp H; obtain ⟨aE, aJ, H⟩ := H; replace H : (field_Pow.l0 k aE a1 1) = some r := H; have A3 := mk_ aJ; clear aJ; have H' := mk_ H; clear H
 go_enter Try.func83, Try.ntmps83
 go_wp2_with (first | ((with_reducible refine gate_callee (f := 79) rfl ?_); refine gs_ (some 7) Try.func79 #[.int .u64 a0] ?_; (with_reducible refine (field_Of.calls a0 aE _ A3.out).mono ?_); rintro e w' ⟨rfl, ⟨nd, rfl⟩⟩; refine ⟨_, rfl, ?_⟩))
 go_loopg [0, 1, 5] k (fun kq v0 v1 v5 w' => ∃ (aC : Int) (aA : Int) (aD : Int), v0 = .int .u64 aC ∧ v1 = .int .u64 aA ∧ v5 = .int .u64 aD ∧ Aside0 (field_Pow.l0 kq aC aA aD = some r) ∧ Aside0 (kq ≤ k) ∧ Drawn0 w w')
 case atStart => exact ⟨(aE), (a1), (1), (by first | rfl | (simp; done) | (simp [*]; done)), (by first | rfl | (simp; done) | (simp [*]; done)), (by first | rfl | (simp; done) | (simp [*]; done)), H', ⟨Nat.le_refl _⟩, by repeat (first | exact Drawn0.refl _ | apply Drawn0.step)⟩
 case round =>
  clear H'; obtain ⟨aC, aA, aD, rfl, rfl, rfl, HA, HK1, ⟨m1, rfl⟩⟩ := hrel
  cases gk with
  | zero => exact absurd HA.out (by simp [field_Pow.l0])
  | succ k1 =>
   have H := HA.out; clear HA; simp only [field_Pow.l0] at H
   by_cases c4 : aA > 0
   ·rw [if_pos c4] at H; have aP : decide (0 < aA) = true := decide_eq_true c4; clear c4
    by_cases c5 : (Go.bits .and .u64 aA 1) = 1
    ·rw [if_pos c5] at H; have aQ : ((Go.bits .and .u64 aA 1) == 1) = true := beq_iff_eq.mpr c5; have aT : ((Go.bits .and .u64 aA 1) != 1) = false := bne_eq_false_iff_eq.mpr c5; clear c5; replace H := Option.bind_eq_some_iff.mp H; obtain ⟨aH, aK, H⟩ := H; replace H : ((field_Mul.f aC aC).bind fun aG => (field_Pow.l0 k1 aG (aA / 2) aH)) = some r := H; have A6 := mk_ aK; clear aK; replace H := Option.bind_eq_some_iff.mp H; obtain ⟨aG, aM, H⟩ := H; replace H : (field_Pow.l0 k1 aG (aA / 2) aH) = some r := H; have A7 := mk_ aM; clear aM; have H' := mk_ H; clear H
     go_wp2_with (first | ((with_reducible refine gate_callee (f := 68) rfl ?_); refine gs_ (some 17) Try.func68 #[.int .u64 aD, .int .u64 aC] ?_; (with_reducible refine (field_Mul.calls aD aC aH _ A6.out).mono ?_); rintro e w' ⟨rfl, ⟨nd, rfl⟩⟩; refine ⟨_, rfl, ?_⟩) | ((with_reducible refine gate_callee (f := 68) rfl ?_); refine gs_ (some 20) Try.func68 #[.int .u64 aC, .int .u64 aC] ?_; (with_reducible refine (field_Mul.calls aC aC aG _ A7.out).mono ?_); rintro e w' ⟨rfl, ⟨nd, rfl⟩⟩; refine ⟨_, rfl, ?_⟩))
     go_roundg k1
     case measure => have := HK1.out; omega
     case rel => exact ⟨(aG), (aA / 2), (aH), (by first | rfl | (simp; done) | (simp [*]; done)), (by first | rfl | (simp; done) | (simp [*]; done)), (by first | rfl | (simp; done) | (simp [*]; done)), H', ⟨by have := HK1.out; omega⟩, by repeat (first | exact Drawn0.refl _ | apply Drawn0.step)⟩
    ·rw [if_neg c5] at H; have aQ : ((Go.bits .and .u64 aA 1) == 1) = false := beq_eq_false_iff_ne.mpr c5; have aT : ((Go.bits .and .u64 aA 1) != 1) = true := bne_iff_ne.mpr c5; replace H := Option.bind_eq_some_iff.mp H; obtain ⟨aI, aN, H⟩ := H; replace H : (field_Pow.l0 k1 aI (aA / 2) aD) = some r := H; have A8 := mk_ aN; clear aN; have H' := mk_ H; clear H
     go_wp2_with (first | ((with_reducible refine gate_callee (f := 68) rfl ?_); refine gs_ (some 20) Try.func68 #[.int .u64 aC, .int .u64 aC] ?_; (with_reducible refine (field_Mul.calls aC aC aI _ A8.out).mono ?_); rintro e w' ⟨rfl, ⟨nd, rfl⟩⟩; refine ⟨_, rfl, ?_⟩))
     go_roundg k1
     case measure => have := HK1.out; omega
     case rel => exact ⟨(aI), (aA / 2), (aD), (by first | rfl | (simp; done) | (simp [*]; done)), (by first | rfl | (simp; done) | (simp [*]; done)), (by first | rfl | (simp; done) | (simp [*]; done)), H', ⟨by have := HK1.out; omega⟩, by repeat (first | exact Drawn0.refl _ | apply Drawn0.step)⟩
   ·rw [if_neg c4] at H; have aP : decide (0 < aA) = false := decide_eq_false c4; clear c4; obtain rfl := Option.some.inj H
    go_wp2
    go_ret; exact ⟨by first | rfl | (simp; done) | (simp [*]; done), by repeat (first | exact Drawn0.refl _ | apply Drawn0.step)⟩

/-! ### hash_Sum: function 74 -/
mutual
def hash_Sum.l0 : Nat → ByteArray → Int → Int → Int → Option (Int)
  | 0, _, _, _, _ => none
  | k + 1, x1, x5, x6, x7 => if x7 < (x1.size : Int) then (hash_Sum.l1 k x1 x5 x6 x7 0 0) else ((field_Mul.f x6 x5).bind fun t138 => ((field_Pow.f k t138 17).bind fun t139 => (some t139)))
def hash_Sum.l1 : Nat → ByteArray → Int → Int → Int → Int → Int → Option (Int)
  | 0, _, _, _, _, _, _ => none
  | k + 1, x1, x5, x6, x7, x8, x21 => if x21 < 4 then (if (wrap64 (x7 + x21)) < (x1.size : Int) then (if 0 ≤ (wrap64 (x7 + x21)) then (hash_Sum.l1 k x1 x5 x6 x7 (Go.bits .or .u64 (IntKind.u64.wrap (x8 * 256)) (IntKind.u64.wrap (bt x1 (wrap64 (x7 + x21))))) (wrap64 (x21 + 1))) else (none)) else (hash_Sum.l1 k x1 x5 x6 x7 (IntKind.u64.wrap (x8 * 256)) (wrap64 (x21 + 1)))) else ((field_Mul.f x6 x5).bind fun t140 => ((field_Add.f t140 (IntKind.u64.wrap (x8 + 1))).bind fun t141 => (hash_Sum.l0 k x1 x5 t141 (wrap64 (x7 + 4)))))
end
def hash_Sum.f (k : Nat) (a0 : Int) (a1 : ByteArray) : Option (Int) := (field_Add.f a0 2).bind fun t137 => (hash_Sum.l0 k a1 t137 (IntKind.u64.wrap ((a1.size : Int))) 0)
theorem hash_Sum.mono_l : ∀ k, (∀ y0 y1 y2 y3, LeO (hash_Sum.l0 k y0 y1 y2 y3) (hash_Sum.l0 (k + 1) y0 y1 y2 y3)) ∧ (∀ y0 y1 y2 y3 y4 y5, LeO (hash_Sum.l1 k y0 y1 y2 y3 y4 y5) (hash_Sum.l1 (k + 1) y0 y1 y2 y3 y4 y5))
  | 0 => ⟨fun _ _ _ _ r h => by simp [hash_Sum.l0] at h, fun _ _ _ _ _ _ r h => by simp [hash_Sum.l1] at h⟩
  | k + 1 => by
    obtain ⟨ih0, ih1⟩ := hash_Sum.mono_l k
    refine ⟨?_, ?_⟩ <;> intros
    all_goals first | unfold hash_Sum.l0 | unfold hash_Sum.l1
    all_goals repeat' first | (with_reducible first | exact ih0 _ _ _ _ | exact ih1 _ _ _ _ _ _ | exact field_Pow.mono _ _ _ | exact LeO.refl _ | exact LeO.none _ | refine LeO.ite ?_ ?_ | refine LeO.bind ?_ (fun _ => ?_)) | exact ih0 _ _ _ _ | exact ih1 _ _ _ _ _ _ | exact field_Pow.mono _ _ _ | exact LeO.none _ | refine LeO.ite ?_ ?_ | refine LeO.bind ?_ (fun _ => ?_)
theorem hash_Sum.mono : ∀ a0 a1 k, LeO (hash_Sum.f k a0 a1) (hash_Sum.f (k + 1) a0 a1) := by
  intro a0 a1 k
  obtain ⟨ih0, ih1⟩ := hash_Sum.mono_l k
  unfold hash_Sum.f
  repeat' first | (with_reducible first | exact ih0 _ _ _ _ | exact ih1 _ _ _ _ _ _ | exact field_Pow.mono _ _ _ | exact LeO.refl _ | exact LeO.none _ | refine LeO.ite ?_ ?_ | refine LeO.bind ?_ (fun _ => ?_)) | exact ih0 _ _ _ _ | exact ih1 _ _ _ _ _ _ | exact field_Pow.mono _ _ _ | exact LeO.none _ | refine LeO.ite ?_ ?_ | refine LeO.bind ?_ (fun _ => ?_)
set_option maxHeartbeats 80000000 in
set_option maxRecDepth 100000 in
theorem hash_Sum.calls (k : Nat) (a0 : Int) (a1 : ByteArray) (r : Int) (w : World) (h : hash_Sum.f k a0 a1 = some r) :
    Calls Try.prog 74 #[.int .u64 a0, .string a1] w fun e w' => e = .returned (.int .u64 r) ∧ Drawn0 w w' := by
 have H : ((field_Add.f a0 2).bind fun aD => (hash_Sum.l0 k a1 aD (IntKind.u64.wrap ((a1.size : Int))) 0)) = some r := h; clear h; replace H := Option.bind_eq_some_iff.mp H; obtain ⟨aD, aM, H⟩ := H; replace H : (hash_Sum.l0 k a1 aD (IntKind.u64.wrap ((a1.size : Int))) 0) = some r := H; have A3 := mk_ aM; clear aM; have H' := mk_ H; clear H
 go_enter Try.func74, Try.ntmps74
 go_wp2_with (first | ((with_reducible refine gate_callee (f := 67) rfl ?_); refine gs_ (some 11) Try.func67 #[.int .u64 a0, .int .u64 2] ?_; (with_reducible refine (field_Add.calls a0 2 aD _ A3.out).mono ?_); rintro e w' ⟨rfl, ⟨nd, rfl⟩⟩; refine ⟨_, rfl, ?_⟩))
 go_loopg [6, 7] k (fun kq v6 v7 w' => ∃ (aE : Int) (aA : Int), v6 = .int .u64 aE ∧ v7 = .int .i64 aA ∧ Aside0 (hash_Sum.l0 kq a1 aD aE aA = some r) ∧ Aside0 (kq ≤ k) ∧ Drawn0 w w')
 case atStart => exact ⟨(IntKind.u64.wrap ((a1.size : Int))), (0), (by first | rfl | (simp; done) | (simp [*]; done)), (by first | rfl | (simp; done) | (simp [*]; done)), H', ⟨Nat.le_refl _⟩, by repeat (first | exact Drawn0.refl _ | apply Drawn0.step)⟩
 case round =>
  clear H'; obtain ⟨aE, aA, rfl, rfl, HA, HK1, ⟨m1, rfl⟩⟩ := hrel
  cases gk with
  | zero => exact absurd HA.out (by simp [hash_Sum.l0])
  | succ k1 =>
   have H := HA.out; clear HA; simp only [hash_Sum.l0] at H
   by_cases c4 : aA < (a1.size : Int)
   ·rw [if_pos c4] at H; have aN : decide (aA < (a1.size : Int)) = true := decide_eq_true c4; clear c4; have H' := mk_ H; clear H
    go_wp2
    go_loopg [8, 21] k1 (fun kq v8 aW w' => ∃ (aG : Int) (aC : Int), v8 = .int .u64 aG ∧ aW = .int .i64 aC ∧ Aside0 (hash_Sum.l1 kq a1 aD aE aA aG aC = some r) ∧ Aside0 (kq ≤ k1) ∧ Drawn0 w w')
    case atStart => exact ⟨(0), (0), (by first | rfl | (simp; done) | (simp [*]; done)), (by first | rfl | (simp; done) | (simp [*]; done)), H', ⟨Nat.le_refl _⟩, by repeat (first | exact Drawn0.refl _ | apply Drawn0.step)⟩
    case round =>
     clear H'; (try clear c4); (try clear aN); obtain ⟨aG, aC, rfl, rfl, HA, HK2, ⟨m2, rfl⟩⟩ := hrel
     cases gk with
     | zero => exact absurd HA.out (by simp [hash_Sum.l1])
     | succ k2 =>
      have H := HA.out; clear HA; simp only [hash_Sum.l1] at H
      by_cases c5 : aC < 4
      ·rw [if_pos c5] at H; have aX : decide (aC < 4) = true := decide_eq_true c5; clear c5
       by_cases c6 : (wrap64 (aA + aC)) < (a1.size : Int)
       ·rw [if_pos c6] at H; have aP : decide ((wrap64 (aA + aC)) < (a1.size : Int)) = true := decide_eq_true c6; clear c6; obtain ⟨ji7, hji7⟩ : ∃ j_ : Int, (wrap64 (aA + aC)) = j_ := ⟨_, rfl⟩
        replace H : (if 0 ≤ (ji7) then (hash_Sum.l1 k2 a1 aD aE aA (Go.bits .or .u64 (IntKind.u64.wrap (aG * 256)) (IntKind.u64.wrap (bt a1 (ji7)))) (wrap64 (aC + 1))) else (none)) = some r := by first | (rw [hji7] at H; exact H) | (simp only [hji7] at H ⊢; exact H)
        (try rw [hji7] at aP); have hji7w : (IntKind.i64.wrap (aA + aC)) = ji7 := (i64_w _).trans hji7
        by_cases c8 : 0 ≤ (ji7)
        ·rw [if_pos c8] at H; have bC : decide (0 ≤ (ji7)) = true := decide_eq_true c8; clear c8; have H' := mk_ H; clear H; have p9 : 0 ≤ ((ji7) : Int) := od_; have q9 : (ji7) < (a1.size : Int) := od_; have hx9 := bt_at a1 (ji7); replace p9 := eq_true p9; replace q9 := eq_true q9
         go_wp2
         go_roundg k2
         case measure => have := HK1.out; have := HK2.out; omega
         case rel => exact ⟨(Go.bits .or .u64 (IntKind.u64.wrap (aG * 256)) (IntKind.u64.wrap (bt a1 (ji7)))), (wrap64 (aC + 1)), (by first | rfl | (simp; done) | (simp only [← hji7] <;> (first | rfl | simp)) | (simp [*]; done)), (by first | rfl | (simp; done) | (simp [*]; done)), H', ⟨by have := HK1.out; have := HK2.out; omega⟩, by repeat (first | exact Drawn0.refl _ | apply Drawn0.step)⟩
        ·rw [if_neg c8] at H; exact absurd H (by simp)
       ·rw [if_neg c6] at H; have aP : decide ((wrap64 (aA + aC)) < (a1.size : Int)) = false := decide_eq_false c6; clear c6; have H' := mk_ H; clear H
        go_wp2
        go_roundg k2
        case measure => have := HK1.out; have := HK2.out; omega
        case rel => exact ⟨(IntKind.u64.wrap (aG * 256)), (wrap64 (aC + 1)), (by first | rfl | (simp; done) | (simp [*]; done)), (by first | rfl | (simp; done) | (simp [*]; done)), H', ⟨by have := HK1.out; have := HK2.out; omega⟩, by repeat (first | exact Drawn0.refl _ | apply Drawn0.step)⟩
      ·rw [if_neg c5] at H; have aX : decide (aC < 4) = false := decide_eq_false c5; clear c5; replace H := Option.bind_eq_some_iff.mp H; obtain ⟨aI, aQ, H⟩ := H; replace H : ((field_Add.f aI (IntKind.u64.wrap (aG + 1))).bind fun aH => (hash_Sum.l0 k2 a1 aD aH (wrap64 (aA + 4)))) = some r := H; have aY := mk_ aQ; clear aQ; replace H := Option.bind_eq_some_iff.mp H; obtain ⟨aH, aT, H⟩ := H; replace H : (hash_Sum.l0 k2 a1 aD aH (wrap64 (aA + 4))) = some r := H; have aZ := mk_ aT; clear aT; have H' := mk_ H; clear H
       go_wp2_with (first | ((with_reducible refine gate_callee (f := 68) rfl ?_); refine gs_ (some 43) Try.func68 #[.int .u64 aE, .int .u64 aD] ?_; (with_reducible refine (field_Mul.calls aE aD aI _ aY.out).mono ?_); rintro e w' ⟨rfl, ⟨nd, rfl⟩⟩; refine ⟨_, rfl, ?_⟩) | ((with_reducible refine gate_callee (f := 67) rfl ?_); refine gs_ (some 46) Try.func67 #[.int .u64 aI, .int .u64 (IntKind.u64.wrap (aG + 1))] ?_; (with_reducible refine (field_Add.calls aI (IntKind.u64.wrap (aG + 1)) aH _ aZ.out).mono ?_); rintro e w' ⟨rfl, ⟨nd, rfl⟩⟩; refine ⟨_, rfl, ?_⟩))
       go_roundg k2
       case measure => have := HK1.out; have := HK2.out; omega
       case rel => exact ⟨(aH), (wrap64 (aA + 4)), (by first | rfl | (simp; done) | (simp [*]; done)), (by first | rfl | (simp; done) | (simp [*]; done)), H', ⟨by have := HK1.out; have := HK2.out; omega⟩, by repeat (first | exact Drawn0.refl _ | apply Drawn0.step)⟩
   ·rw [if_neg c4] at H; have aN : decide (aA < (a1.size : Int)) = false := decide_eq_false c4; clear c4; replace H := Option.bind_eq_some_iff.mp H; obtain ⟨aJ, aU, H⟩ := H; replace H : ((field_Pow.f k1 aJ 17).bind fun aK => (some aK)) = some r := H; have bA := mk_ aU; clear aU; replace H := Option.bind_eq_some_iff.mp H; obtain ⟨aK, aV, H⟩ := H; replace H : (some aK) = some r := H; have bB := mk_ aV; clear aV; obtain rfl := Option.some.inj H
    go_wp2_with (first | ((with_reducible refine gate_callee (f := 68) rfl ?_); refine gs_ (some 49) Try.func68 #[.int .u64 aE, .int .u64 aD] ?_; (with_reducible refine (field_Mul.calls aE aD aJ _ bA.out).mono ?_); rintro e w' ⟨rfl, ⟨nd, rfl⟩⟩; refine ⟨_, rfl, ?_⟩) | ((with_reducible refine gate_callee (f := 83) rfl ?_); refine gs_ (some 50) Try.func83 #[.int .u64 aJ, .int .u64 17] ?_; (with_reducible refine (field_Pow.calls k1 aJ 17 aK _ bB.out).mono ?_); rintro e w' ⟨rfl, ⟨nd, rfl⟩⟩; refine ⟨_, rfl, ?_⟩))
    go_ret; exact ⟨by first | rfl | (simp; done) | (simp [*]; done), by repeat (first | exact Drawn0.refl _ | apply Drawn0.step)⟩

/-! ### hash_Cell: function 55 -/
def hash_Cell.f (k : Nat) (a0 : Int) (a1 : ByteArray) (a2 : Int) : Option (Int) := if a2 < 1 then (some 0) else ((hash_Sum.f k a0 a1).bind fun t142 => (if (IntKind.u64.wrap (a2)) = 0 then (none) else (some (wrap64 (Int.tmod t142 (IntKind.u64.wrap (a2)))))))
theorem hash_Cell.mono : ∀ a0 a1 a2 k, LeO (hash_Cell.f k a0 a1 a2) (hash_Cell.f (k + 1) a0 a1 a2) := by
  intro a0 a1 a2 k
  unfold hash_Cell.f
  repeat' first | (with_reducible first | exact hash_Sum.mono _ _ _ | exact LeO.refl _ | exact LeO.none _ | refine LeO.ite ?_ ?_ | refine LeO.bind ?_ (fun _ => ?_)) | exact hash_Sum.mono _ _ _ | exact LeO.none _ | refine LeO.ite ?_ ?_ | refine LeO.bind ?_ (fun _ => ?_)
set_option maxHeartbeats 80000000 in
set_option maxRecDepth 100000 in
theorem hash_Cell.calls (k : Nat) (a0 : Int) (a1 : ByteArray) (a2 : Int) (r : Int) (w : World) (h : hash_Cell.f k a0 a1 a2 = some r) :
    Calls Try.prog 55 #[.int .u64 a0, .string a1, .int .i64 a2] w fun e w' => e = .returned (.int .i64 r) ∧ Drawn0 w w' := by
 have H : (if a2 < 1 then (some 0) else ((hash_Sum.f k a0 a1).bind fun aA => (if (IntKind.u64.wrap (a2)) = 0 then (none) else (some (wrap64 (Int.tmod aA (IntKind.u64.wrap (a2)))))))) = some r := h; clear h
 by_cases c4 : a2 < 1
 ·rw [if_pos c4] at H; have aD : decide (a2 < 1) = true := decide_eq_true c4; clear c4; obtain rfl := Option.some.inj H
  go_enter Try.func55, Try.ntmps55
  go_wp2
  go_ret; exact ⟨by first | rfl | (simp; done) | (simp [*]; done), by repeat (first | exact Drawn0.refl _ | apply Drawn0.step)⟩
 ·rw [if_neg c4] at H; have aD : decide (a2 < 1) = false := decide_eq_false c4; clear c4; replace H := Option.bind_eq_some_iff.mp H; obtain ⟨aA, aC, H⟩ := H; replace H : (if (IntKind.u64.wrap (a2)) = 0 then (none) else (some (wrap64 (Int.tmod aA (IntKind.u64.wrap (a2)))))) = some r := H; have A5 := mk_ aC; clear aC
  by_cases c6 : (IntKind.u64.wrap (a2)) = 0
  ·rw [if_pos c6] at H; exact absurd H (by simp)
  ·rw [if_neg c6] at H; have aE : ((IntKind.u64.wrap (a2)) == 0) = false := beq_eq_false_iff_ne.mpr c6; have aG : ((IntKind.u64.wrap (a2)) != 0) = true := bne_iff_ne.mpr c6; obtain rfl := Option.some.inj H
   go_enter Try.func55, Try.ntmps55
   go_wp2_with (first | ((with_reducible refine gate_callee (f := 74) rfl ?_); refine gs_ (some 11) Try.func74 #[.int .u64 a0, .string a1] ?_; (with_reducible refine (hash_Sum.calls k a0 a1 aA _ A5.out).mono ?_); rintro e w' ⟨rfl, ⟨nd, rfl⟩⟩; refine ⟨_, rfl, ?_⟩))
   go_ret; exact ⟨by first | rfl | (simp; done) | (simp [*]; done), by repeat (first | exact Drawn0.refl _ | apply Drawn0.step)⟩

/-! ### elastic_bucket: function 28 -/
def elastic_bucket.f (k : Nat) (a0_0 : Int) (a0_1 : Int) (a0_2 : Int) (l0_3 : List (S56)) (a0_4 : Int) (a0_5 : Int) (l0_6 : List (List Int)) (a1 : ByteArray) : Option (Int) := (hash_Row.f a0_0 0).bind fun t144 => ((hash_Cell.f k t144 a1 (l0_3.length : Int)).bind fun t145 => (some t145))
theorem elastic_bucket.mono : ∀ a0 a1 a2 a3 a4 a5 a6 a7 k, LeO (elastic_bucket.f k a0 a1 a2 a3 a4 a5 a6 a7) (elastic_bucket.f (k + 1) a0 a1 a2 a3 a4 a5 a6 a7) := by
  intro a0 a1 a2 a3 a4 a5 a6 a7 k
  unfold elastic_bucket.f
  repeat' first | (with_reducible first | exact hash_Cell.mono _ _ _ _ | exact LeO.refl _ | exact LeO.none _ | refine LeO.ite ?_ ?_ | refine LeO.bind ?_ (fun _ => ?_)) | exact hash_Cell.mono _ _ _ _ | exact LeO.none _ | refine LeO.ite ?_ ?_ | refine LeO.bind ?_ (fun _ => ?_)
def elastic_bucket.T1 : Bool × List (List Nat × List Nat) := (true, [([], []), ([0], [0]), ([1], [1]), ([], []), ([], []), ([4], [4]), ([5], [5]), ([2, 3, 6, 2], [2, 3, 6]), ([7, 7, 0, 1, 2, 3, 4, 5, 6, 7], [7])])
def elastic_bucket.B1 : List Nat := [0, 1, 3, 0, 0, 16, 48, 127, 255]
theorem elastic_bucket.tab1 : rtab .any (opsOf Try.f28 1) = elastic_bucket.T1 := by kernel_rfl
theorem elastic_bucket.bits1 : waitsOk elastic_bucket.T1.2 elastic_bucket.B1 = true := by kernel_rfl
set_option maxHeartbeats 80000000 in
set_option maxRecDepth 100000 in
theorem elastic_bucket.calls (k : Nat) (a0_0 : Int) (a0_1 : Int) (a0_2 : Int) (A0_3 : Option Addr) (c0_3 : Nat) (l0_3 : List (S56)) (a0_4 : Int) (a0_5 : Int) (A0_6 : Option Addr) (c0_6 : Nat) (l0_6 : List (List Int)) (a1 : ByteArray) (r : Int) (w : World) (hr0_3 : Kd.C k56 w A0_3 l0_3.length l0_3) (hc0_3 : l0_3.length ≤ c0_3) (hr0_6 : Kd.C (Kd.slice 3 (Kd.int .i64)) w A0_6 l0_6.length l0_6) (hc0_6 : l0_6.length ≤ c0_6) (h : elastic_bucket.f k a0_0 a0_1 a0_2 l0_3 a0_4 a0_5 l0_6 a1 = some r) :
    Calls Try.prog 28 #[.agg #[.int .u64 a0_0, .int .i64 a0_1, .int .i64 a0_2, .slice A0_3 l0_3.length c0_3, .int .u64 a0_4, .int .i64 a0_5, .slice A0_6 l0_6.length c0_6], .string a1] w fun e w' => e = .returned (.int .i64 r) ∧ Below w.heap.size w w' := by
 have hu28 := Try.underlying28; have aI := mk_ hr0_3; have aJ := mk_ hc0_3; clear hr0_3 hc0_3; have aK := mk_ hr0_6; have aM := mk_ hc0_6; clear hr0_6 hc0_6; have HB := mk_ (Below.refl w.heap.size w); have H : ((hash_Row.f a0_0 0).bind fun aD => ((hash_Cell.f k aD a1 (l0_3.length : Int)).bind fun aE => (some aE))) = some r := h; clear h; replace H := Option.bind_eq_some_iff.mp H; obtain ⟨aD, aG, H⟩ := H; replace H : ((hash_Cell.f k aD a1 (l0_3.length : Int)).bind fun aE => (some aE)) = some r := H; have A3 := mk_ aG; clear aG; replace H := Option.bind_eq_some_iff.mp H; obtain ⟨aE, aH, H⟩ := H; replace H : (some aE) = some r := H; have A4 := mk_ aH; clear aH; obtain rfl := Option.some.inj H
 go_enter Try.func28, Try.ntmps28
 try go_wp2_with (first | ((with_reducible refine gate_dst (N := 2) rfl ?_); refine box_event ?hg (N := 2) ?hd (cs := #[.int .u64 a0_0, .int .i64 a0_1, .int .i64 a0_2, .slice A0_3 l0_3.length c0_3, .int .u64 a0_4, .int .i64 a0_5, .slice A0_6 l0_6.length c0_6]) (t := 28) ?hr ?_; (case hd => rfl); (case hg => rfl); (case hr => first | (go_simp; done) | (go_simp; rfl)); intro aC hg w5 hbox hb; have aA := mk_ (hbox); have aN := gx_ hg HB; have aP := gx_ hg HB; replace HB := bs_ HB hb; clear hb hbox hg))
 replace aA := bd_ aA; replace HB := mk_ (below_drew1 HB.out); refine start_ (n := 9) (S := fun w' => w'.cell? ⟨aC, 0, none⟩ = some (.int .u64 a0_0) ∧ w'.cell? ⟨aC, 1, none⟩ = some (.int .i64 a0_1) ∧ w'.cell? ⟨aC, 2, none⟩ = some (.int .i64 a0_2) ∧ w'.cell? ⟨aC, 3, none⟩ = some (.slice A0_3 l0_3.length c0_3) ∧ w'.cell? ⟨aC, 4, none⟩ = some (.int .u64 a0_4) ∧ w'.cell? ⟨aC, 5, none⟩ = some (.int .i64 a0_5) ∧ w'.cell? ⟨aC, 6, none⟩ = some (.slice A0_6 l0_6.length c0_6)) (ds := []) (mB 9 0) (by kernel_rfl) rfl rfl ⟨bc_ aA 0, bc_ aA 1, bc_ aA 2, bc_ aA 3, bc_ aA 4, bc_ aA 5, bc_ aA 6⟩ (fun hHeld => ?_); refine with_tabW elastic_bucket.tab1 elastic_bucket.bits1 (fun HT_ HW_ => ?_); generalize w5.drew = w6 at aA HB hHeld ⊢; refine pq_ 0 5 9 1 HT_ ?_
 refine pq_ 3 8 9 9 HT_ ?_
 refine pq_ 4 9 9 25 HT_ ?_
 refine tq_ 1 6 9 27 HT_ HW_ hHeld ?_
 refine tq_ 5 10 9 59 HT_ HW_ hHeld ?_
 refine pq_ 6 11 9 123 HT_ ?_
 refine one_ (i := 2) (N := some 7) (mB 9 127) rfl rfl (one_of HT_.out (by kernel_rfl)) (by decide) (fun K hK => ?_); refine goes_ Try.func43 (by kernel_rfl) rfl #[.int .u64 a0_0, .int .i64 0] (by rfl) rfl rfl (by (try simp only [List.map_toArray, List.map_cons, List.map_nil]); first | done | rfl | (simp only [List.length_drop, List.length_take]; rfl)) ?_; with_reducible refine (hash_Row.calls a0_0 0 aD _ A3.out).mono ?_
 rintro e w7 ⟨rfl, hb⟩; refine ⟨_, rfl, ?_⟩; replace aA := bb_ aA hb; replace HB := bs_ HB hb; (try clear hb); refine hK.out _ _ ⟨bc_ aA 0, bc_ aA 1, bc_ aA 2, bc_ aA 3, bc_ aA 4, bc_ aA 5, bc_ aA 6⟩ (fun hHeld => ?_); clear hK K; refine norm_ (a' := ?_) ?_ ?_; rotate_left
 ·show Act.put _ (some 7) _ = _
  simp only [Act.put, sa_, sb_, sc_, i64_w, i32_w]; rfl
 refine one_ (i := 7) (N := some 12) (mB 9 255) rfl rfl (one_of HT_.out (by kernel_rfl)) (by decide) (fun K hK => ?_); refine goes_ Try.func55 (by kernel_rfl) rfl #[.int .u64 aD, .string a1, .int .i64 (l0_3.length : Int)] (by rfl) rfl rfl (by (try simp only [List.map_toArray, List.map_cons, List.map_nil]); first | done | rfl | (simp only [List.length_drop, List.length_take]; rfl)) ?_; with_reducible refine (hash_Cell.calls k aD a1 (l0_3.length : Int) aE _ A4.out).mono ?_
 rintro e w' ⟨rfl, ⟨nd, rfl⟩⟩; (try replace aA := mk_ (blk_drewN aA.out nd)); (try replace HB := mk_ (pw_below_drewN HB.out nd)); refine ⟨_, rfl, ?_⟩; refine hK.out _ _ ⟨bc_ aA 0, bc_ aA 1, bc_ aA 2, bc_ aA 3, bc_ aA 4, bc_ aA 5, bc_ aA 6⟩ (fun hHeld => ?_); clear hK K; refine norm_ (a' := ?_) ?_ ?_; rotate_left
 ·show Act.put _ (some 12) _ = _
  simp only [Act.put, sa_, sb_, sc_, i64_w, i32_w]; rfl
 refine pq_ 8 4 9 511 HT_ ?_
 refine done_ (done_of HT_.out (by kernel_rfl)) ?_
 try go_wp2
 go_ret; exact ⟨by first | rfl | (simp [*] <;> rfl), bl_ HB⟩

/-! ### elastic_Entry_29: function 29 -/
def elastic_Entry_29.f (l0 : List (S76)) : Option ((List (S76))) := (some (([] : List (S76)) : List (S76))).bind fun y146 => (if y146.length + l0.length < 4398046511104 then (some (y146 ++ l0)) else (none))
set_option maxHeartbeats 80000000 in
set_option maxRecDepth 100000 in
theorem elastic_Entry_29.calls (A0 : Option Addr) (c0 : Nat) (l0 : List (S76)) (r : List (S76)) (w : World) (hr0 : Kd.C k76 w A0 l0.length l0) (hc0 : l0.length ≤ c0) (h : elastic_Entry_29.f l0 = some r) :
    Calls Try.prog 29 #[.slice A0 l0.length c0] w fun e w' => ∃ v0_ : Value, e = .returned (v0_) ∧ Kd.R k76 76 w' w.heap.size (fun _ => True) v0_ r ∧ Below w.heap.size w w' := by
 have HR0 := mk_ hr0; have HC0 := mk_ hc0; clear hr0 hc0; have HB := mk_ (Below.refl w.heap.size w); have H : ((some (([] : List (S76)) : List (S76))).bind fun y146 => (if y146.length + l0.length < 4398046511104 then (some (y146 ++ l0)) else (none))) = some r := h; clear h; obtain ⟨y146, hy146⟩ : ∃ y_ : List (S76), y_ = (([] : List (S76))) := ⟨_, rfl⟩
 replace H : (if y146.length + l0.length < 4398046511104 then (some (y146 ++ l0)) else (none)) = some r := by first | (rw [hy146]; with_reducible exact H) | (have H2_ := (Option.bind_some _ _).symm.trans H; rw [hy146]; with_reducible exact H2_) | (have H2_ := (Option.bind_some _ _).symm.trans H; with_reducible exact H2_) | with_reducible exact H | (rw [hy146]; exact H) | exact H
 have aA := mk_ hy146; clear hy146
 by_cases c2 : y146.length + l0.length < 4398046511104
 ·rw [if_pos c2] at H; have aE := mk_ c2; clear c2; obtain ⟨y149, hy149⟩ : ∃ y_ : List (S76), y_ = (y146 ++ l0) := ⟨_, rfl⟩
  replace H : (some y149) = some r := by first | (rw [hy149]; with_reducible exact H) | (have H2_ := (Option.bind_some _ _).symm.trans H; rw [hy149]; with_reducible exact H2_) | (have H2_ := (Option.bind_some _ _).symm.trans H; with_reducible exact H2_) | with_reducible exact H | (rw [hy149]; exact H) | exact H
  have aC := mk_ hy149; clear hy149; obtain rfl := Option.some.inj H
  rcases A0 with _ | A0
  ·have hz := HR0.out.2.2
   rcases l0 with _ | ⟨x0_, l0⟩
   ·have hq_ : ∀ (W : World) (n c : Nat), (binOp .eql 54 (.slice none n c) (.slice none 0 0)).run Try.prog W = .ok (.bool true) W := fun W n c => Lib.run_eql_slice_nil W 54 _ none n c 0 0 Try.underlying54
    go_enter Try.func29, Try.ntmps29
    go_wp2
    go_ret; refine ⟨.slice none 0 0, rfl, ?_, HB.out⟩
    first | exact Kd.R_nil _ _ _ _ _ | (simp only [aC.out, aA.out, List.nil_append]; first | exact Kd.R_nil _ _ _ _ _ | exact Kd.N_nil _ _ _ _ _ | exact Kd.V_nil _ _ _ _ _)
   ·obtain ⟨ad, h_, _⟩ := hz (by simp)
    cases h_
  ·have hq_ : ∀ (W : World) (n c : Nat), (binOp .eql 54 (.slice (some A0) n c) (.slice none 0 0)).run Try.prog W = .ok (.bool false) W := fun W n c => Lib.run_eql_slice_nil W 54 _ (some A0) n c 0 0 Try.underlying54
   go_enter Try.func29, Try.ntmps29
   go_wp2_with (first | ((with_reducible refine gate_dst (N := 5) rfl ?_); refine Kd.R_lit k76 _ 76 ?hg (N := 5) ?hd (xs := ([] : List (S76))) (inner := []) (ok := fun _ => True) (okp := fun _ => True) ?hr ?hp (fun _ hk => hk) trivial (Below.refl _ _) (Nat.le_refl _) (by simp) ?_; (case hd => rfl); (case hg => rfl); (case hr => first | (go_simp; done) | (go_simp; rfl)); (case hp => exact (Reps.none _ _)); intro aG w3 ho4 hb hg_ hnew_; clear hg_ hnew_; (first | rw [← aA.out] at ho4 | (simp only [Int.reduceToNat] at ho4; rw [← aA.out] at ho4)); have aD := mk_ (Kd.R_lower ho4 (below_size (bl_ HB))); replace HB := bs_ HB hb; clear hb ho4) | ((with_reducible refine gate_builtin (b := .append) (xs := #[.tmp 5, .tmp 6]) rfl ?_); at_builtin; refine Kd.R_append_rows k76 (w0 := w) w.heap.size rfl (.tmp 5) (.tmp 6) 54 76 (.agg #[(.string ⟨#[]⟩), (.int .i64 0), (.bool false)]) 32 rfl Try.underlying54 info76 rfl (by decide) (by omega) aG y146 l0 _ _ _ (fun _ => True) (fun _ => False) rfl rfl ?aO ?aR (fun _ _ h => h) (fun _ h => h.elim) ?aF ?aB ?aS ?aL ?_; (case aR => repeat (first | exact (Kd.C_below HR0.out HB.out) | (with_reducible refine Kd.C_alloc ?_ _) | (with_reducible refine Kd.C_drewN ?_ _) | (with_reducible refine Kd.C_drew ?_))); (case aB => exact (bl_ HB)); (case aF => exact (fun _ _ => trivial)); (case aO => exact (rk_ aD)); (case aS => exact (below_size (bl_ HB))); (case aL => have := aE.out; omega); intro aI w5 ho hb hg hat; rw [← aC.out] at ho; replace HB := mk_ (hb); have aH := mk_ (ho); clear aD; clear ho hb hg hat))
   go_ret; exact ⟨_, by first | rfl | (simp [*] <;> rfl), by (with_reducible repeat (first | apply Kd.R_alloc | apply Kd.R_drewN | apply Kd.R_drew)); exact aH.out, bl_ HB⟩
 ·rw [if_neg c2] at H; exact absurd H (by simp)

/-! ### slices_Clone_int_int: function 84 -/
def slices_Clone_int_int.f (l0 : List Int) : Option (List Int) := (some (([] : List Int) : List Int)).bind fun y152 => (if y152.length + l0.length < 17592186044416 then (some (y152 ++ l0)) else (none))
set_option maxHeartbeats 80000000 in
set_option maxRecDepth 100000 in
theorem slices_Clone_int_int.calls (A0 : Option Addr) (c0 : Nat) (l0 : List Int) (r : List Int) (w : World) (hr0 : Kd.C (Kd.int .i64) w A0 l0.length l0) (hc0 : l0.length ≤ c0) (h : slices_Clone_int_int.f l0 = some r) :
    Calls Try.prog 84 #[.slice A0 l0.length c0] w fun e w' => ∃ v0_ : Value, e = .returned (v0_) ∧ Kd.R (Kd.int .i64) 3 w' w.heap.size (fun _ => True) v0_ r ∧ Below w.heap.size w w' := by
 have HR0 := mk_ hr0; have HC0 := mk_ hc0; clear hr0 hc0; have HB := mk_ (Below.refl w.heap.size w); have H : ((some (([] : List Int) : List Int)).bind fun y152 => (if y152.length + l0.length < 17592186044416 then (some (y152 ++ l0)) else (none))) = some r := h; clear h; obtain ⟨y152, hy152⟩ : ∃ y_ : List Int, y_ = (([] : List Int)) := ⟨_, rfl⟩
 replace H : (if y152.length + l0.length < 17592186044416 then (some (y152 ++ l0)) else (none)) = some r := by first | (rw [hy152]; with_reducible exact H) | (have H2_ := (Option.bind_some _ _).symm.trans H; rw [hy152]; with_reducible exact H2_) | (have H2_ := (Option.bind_some _ _).symm.trans H; with_reducible exact H2_) | with_reducible exact H | (rw [hy152]; exact H) | exact H
 have aA := mk_ hy152; clear hy152
 by_cases c2 : y152.length + l0.length < 17592186044416
 ·rw [if_pos c2] at H; have aE := mk_ c2; clear c2; obtain ⟨y155, hy155⟩ : ∃ y_ : List Int, y_ = (y152 ++ l0) := ⟨_, rfl⟩
  replace H : (some y155) = some r := by first | (rw [hy155]; with_reducible exact H) | (have H2_ := (Option.bind_some _ _).symm.trans H; rw [hy155]; with_reducible exact H2_) | (have H2_ := (Option.bind_some _ _).symm.trans H; with_reducible exact H2_) | with_reducible exact H | (rw [hy155]; exact H) | exact H
  have aC := mk_ hy155; clear hy155; obtain rfl := Option.some.inj H
  rcases A0 with _ | A0
  ·have hz := HR0.out.2.2
   rcases l0 with _ | ⟨x0_, l0⟩
   ·have hq_ : ∀ (W : World) (n c : Nat), (binOp .eql 57 (.slice none n c) (.slice none 0 0)).run Try.prog W = .ok (.bool true) W := fun W n c => Lib.run_eql_slice_nil W 57 _ none n c 0 0 Try.underlying57
    go_enter Try.func84, Try.ntmps84
    go_wp2
    go_ret; refine ⟨.slice none 0 0, rfl, ?_, HB.out⟩
    first | exact Kd.R_nil _ _ _ _ _ | (simp only [aC.out, aA.out, List.nil_append]; first | exact Kd.R_nil _ _ _ _ _ | exact Kd.N_nil _ _ _ _ _ | exact Kd.V_nil _ _ _ _ _)
   ·obtain ⟨ad, h_, _⟩ := hz (by simp)
    cases h_
  ·have hq_ : ∀ (W : World) (n c : Nat), (binOp .eql 57 (.slice (some A0) n c) (.slice none 0 0)).run Try.prog W = .ok (.bool false) W := fun W n c => Lib.run_eql_slice_nil W 57 _ (some A0) n c 0 0 Try.underlying57
   go_enter Try.func84, Try.ntmps84
   go_wp2_with (first | ((with_reducible refine gate_dst (N := 5) rfl ?_); refine Kd.R_lit (Kd.int .i64) _ 3 ?hg (N := 5) ?hd (xs := ([] : List Int)) (inner := []) (ok := fun _ => True) (okp := fun _ => True) ?hr ?hp (fun _ hk => hk) trivial (Below.refl _ _) (Nat.le_refl _) (by simp) ?_; (case hd => rfl); (case hg => rfl); (case hr => first | (go_simp; done) | (go_simp; rfl)); (case hp => exact (Reps.none _ _)); intro aG w3 ho4 hb hg_ hnew_; clear hg_ hnew_; (first | rw [← aA.out] at ho4 | (simp only [Int.reduceToNat] at ho4; rw [← aA.out] at ho4)); have aD := mk_ (Kd.R_lower ho4 (below_size (bl_ HB))); replace HB := bs_ HB hb; clear hb ho4) | ((with_reducible refine gate_builtin (b := .append) (xs := #[.tmp 5, .tmp 6]) rfl ?_); at_builtin; refine Kd.R_append_rows (Kd.int .i64) (w0 := w) w.heap.size rfl (.tmp 5) (.tmp 6) 57 3 (.int .i64 0) 8 rfl Try.underlying57 info3 rfl (by decide) (by omega) aG y152 l0 _ _ _ (fun _ => True) (fun _ => False) rfl rfl ?aO ?aR (fun _ _ h => h) (fun _ h => h.elim) ?aF ?aB ?aS ?aL ?_; (case aR => repeat (first | exact (Kd.C_below HR0.out HB.out) | (with_reducible refine Kd.C_alloc ?_ _) | (with_reducible refine Kd.C_drewN ?_ _) | (with_reducible refine Kd.C_drew ?_))); (case aB => exact (bl_ HB)); (case aF => exact (fun _ _ => trivial)); (case aO => exact (rk_ aD)); (case aS => exact (below_size (bl_ HB))); (case aL => have := aE.out; omega); intro aI w5 ho hb hg hat; rw [← aC.out] at ho; replace HB := mk_ (hb); have aH := mk_ (ho); clear aD; clear ho hb hg hat))
   go_ret; exact ⟨_, by first | rfl | (simp [*] <;> rfl), by (with_reducible repeat (first | apply Kd.R_alloc | apply Kd.R_drewN | apply Kd.R_drew)); exact aH.out, bl_ HB⟩
 ·rw [if_neg c2] at H; exact absurd H (by simp)

/-! ### least_clone: function 75 -/
def least_clone.l0 : Nat → List (List Int) → List (List Int) → Int → Int → Int → Int → List (List Int) → Option (Int × Int × (List (List Int)))
  | 0, _, _, _, _, _, _, _ => none
  | k + 1, x3, x11, x12, x13, x159000, x159001, x159002 => if x13 < x12 then (if 0 ≤ x13 then (if x13 < (x11.length : Int) then ((slices_Clone_int_int.f (rd_L1 x11 x13)).bind fun t164 => (if x13 < (x3.length : Int) then (least_clone.l0 k (x3.set (x13 : Int).toNat t164) x11 x12 (wrap64 (x13 + 1)) x159000 x159001 x159002) else (none))) else (none)) else (none)) else (some (x159000, x159001, x3))
def least_clone.f (k : Nat) (a0_0 : Int) (a0_1 : Int) (l0_2 : List (List Int)) : Option (Int × Int × (List (List Int))) := if 0 ≤ (l0_2.length : Int) then (if ((l0_2.length : Int) : Int).toNat ≤ 11728124029610 then (least_clone.l0 k (List.replicate ((l0_2.length : Int) : Int).toNat []) l0_2 (l0_2.length : Int) 0 a0_0 a0_1 l0_2) else (none)) else (none)
theorem least_clone.mono_l : ∀ k, (∀ y0 y1 y2 y3 y4 y5 y6, LeO (least_clone.l0 k y0 y1 y2 y3 y4 y5 y6) (least_clone.l0 (k + 1) y0 y1 y2 y3 y4 y5 y6))
  | 0 => fun _ _ _ _ _ _ _ r h => by simp [least_clone.l0] at h
  | k + 1 => by
    have ih0 := least_clone.mono_l k
    · intro y0 y1 y2 y3 y4 y5 y6
      unfold least_clone.l0
      repeat' first | (with_reducible first | exact ih0 _ _ _ _ _ _ _ | exact LeO.refl _ | exact LeO.none _ | refine LeO.ite ?_ ?_ | refine LeO.bind ?_ (fun _ => ?_)) | exact ih0 _ _ _ _ _ _ _ | exact LeO.none _ | refine LeO.ite ?_ ?_ | refine LeO.bind ?_ (fun _ => ?_)
theorem least_clone.mono : ∀ a0 a1 a2 k, LeO (least_clone.f k a0 a1 a2) (least_clone.f (k + 1) a0 a1 a2) := by
  intro a0 a1 a2 k
  have ih0 := least_clone.mono_l k
  unfold least_clone.f
  repeat' first | (with_reducible first | exact ih0 _ _ _ _ _ _ _ | exact LeO.refl _ | exact LeO.none _ | refine LeO.ite ?_ ?_ | refine LeO.bind ?_ (fun _ => ?_)) | exact ih0 _ _ _ _ _ _ _ | exact LeO.none _ | refine LeO.ite ?_ ?_ | refine LeO.bind ?_ (fun _ => ?_)
set_option maxHeartbeats 80000000 in
set_option maxRecDepth 100000 in
theorem least_clone.calls (k : Nat) (a0_0 : Int) (a0_1 : Int) (A0_2 : Option Addr) (c0_2 : Nat) (l0_2 : List (List Int)) (r1 : Int) (r2 : Int) (r3 : List (List Int)) (w : World) (hr0_2 : Kd.C (Kd.slice 3 (Kd.int .i64)) w A0_2 l0_2.length l0_2) (hc0_2 : l0_2.length ≤ c0_2) (h : least_clone.f k a0_0 a0_1 l0_2 = some (r1, r2, r3)) :
    Calls Try.prog 75 #[.agg #[.int .u64 a0_0, .int .i64 a0_1, .slice A0_2 l0_2.length c0_2]] w fun e w' => ∃ v2_ : Value, e = .returned (.agg #[.int .u64 r1, .int .i64 r2, v2_]) ∧ Kd.S (Kd.slice 3 (Kd.int .i64)) 57 w' w.heap.size (fun _ => True) v2_ r3 ∧ Below w.heap.size w w' := by
 have hu26 := Try.underlying26; have bK := mk_ hr0_2; have cM := mk_ hc0_2; clear hr0_2 hc0_2; have HB := mk_ (Below.refl w.heap.size w); have H : (if 0 ≤ (l0_2.length : Int) then (if ((l0_2.length : Int) : Int).toNat ≤ 11728124029610 then (least_clone.l0 k (List.replicate ((l0_2.length : Int) : Int).toNat []) l0_2 (l0_2.length : Int) 0 a0_0 a0_1 l0_2) else (none)) else (none)) = some (r1, r2, r3) := h; clear h
 by_cases c2 : 0 ≤ (l0_2.length : Int)
 ·rw [if_pos c2] at H; have bL := eq_true c2; have bM : decide (0 ≤ (l0_2.length : Int)) = true := decide_eq_true c2; clear c2
  by_cases c3 : ((l0_2.length : Int) : Int).toNat ≤ 11728124029610
  ·rw [if_pos c3] at H; have bN := eq_true c3; have bO : decide (((l0_2.length : Int) : Int).toNat ≤ 11728124029610) = true := decide_eq_true c3; clear c3; obtain ⟨y160, hy160⟩ : ∃ y_ : List (List Int), y_ = (List.replicate ((l0_2.length : Int) : Int).toNat []) := ⟨_, rfl⟩
   replace H : (least_clone.l0 k y160 l0_2 (l0_2.length : Int) 0 a0_0 a0_1 l0_2) = some (r1, r2, r3) := by first | (rw [hy160]; with_reducible exact H) | (have H2_ := (Option.bind_some _ _).symm.trans H; rw [hy160]; with_reducible exact H2_) | (have H2_ := (Option.bind_some _ _).symm.trans H; with_reducible exact H2_) | with_reducible exact H | (rw [hy160]; exact H) | exact H
   have bE := mk_ hy160; clear hy160; have H' := mk_ H; clear H
   go_enter Try.func75, Try.ntmps75
   go_wp2_with (first | ((with_reducible refine gate_dst (N := 1) rfl ?_); refine box_event ?hg (N := 1) ?hd (cs := #[.int .u64 a0_0, .int .i64 a0_1, .slice A0_2 l0_2.length c0_2]) (t := 26) ?hr ?_; (case hd => rfl); (case hg => rfl); (case hr => first | (go_simp; done) | (go_simp; rfl)); intro aH hg w4 hbox hb; have aA := mk_ (hbox); have cN := gx_ hg HB; have cO := gx_ hg HB; replace HB := bs_ HB hb; clear hb hbox hg) | ((with_reducible refine gate_dst (N := 2) rfl ?_); refine box_event ?hg (N := 2) ?hd (cs := #[.int .u64 0, .int .i64 0, .slice none 0 0]) (t := 26) ?hr ?_; (case hd => rfl); (case hg => rfl); (case hr => first | (go_simp; done) | (go_simp; rfl)); intro aI hg w5 hbox hb; have aD := mk_ (hbox); have cP := gx_ hg HB; have cQ := gx_ hg HB; replace HB := bs_ HB hb; have bF := nx_ hg aA; have aU := ny_ hg aA; replace aA := bb_ aA hb; clear hb hbox hg; have cR := bF.out; have cS := aU.out; obtain ⟨bP, bQ, bR⟩ := cz3_ aA; obtain ⟨bS, bT, bU⟩ := fz3_ aA) | ((with_reducible refine gate_dst (N := 9) rfl ?_); refine Kd.S_make (Kd.slice 3 (Kd.int .i64)) _ 57 rfl (N := 9) rfl 24 _ _ rfl (l0_2.length : Int) rfl rfl Try.underlying24 (.slice none 0 0) 24 info57 rfl (by decide) (by omega) [] (ok := fun _ => True) (okp := fun _ => True) ⟨_, rfl, Kd.R_nil _ _ _ _ _⟩ (fun _ hk => hk) trivial od_ (Nat.le_trans (Nat.mul_le_mul_right _ (od_ : (l0_2.length : Int).toNat ≤ 11728124029610)) (by omega)) (Below.refl _ _) (Nat.le_refl _) ?_; intro bV w8 ho9 hb hg_ hnew_; clear hg_ hnew_; (first | rw [← bE.out] at ho9 | (simp only [Int.reduceToNat] at ho9; rw [← bE.out] at ho9)); have bW := mk_ (Kd.S_lower ho9 (below_size (bl_ HB))); replace aA := bb_ aA hb; replace aD := bb_ aD hb; replace HB := bs_ HB hb; clear hb ho9; obtain ⟨bX, bY, bZ⟩ := cz3_ aA; obtain ⟨cA, cB, cC⟩ := fz3_ aA))
   go_loopg [13] k (fun kq cD w' => ∃ (aG : List (List Int)) (aC : Int), cD = .int .i64 aC ∧ Aside0 (least_clone.l0 kq aG l0_2 (l0_2.length : Int) aC a0_0 a0_1 l0_2 = some (r1, r2, r3)) ∧ Aside0 (kq ≤ k) ∧ Aside0 (Kd.S (Kd.slice 3 (Kd.int .i64)) 57 w' w.heap.size (fun _ => True) bV aG) ∧ Aside0 (w'.heap[aH]? = some (.cells #[.int .u64 a0_0, .int .i64 a0_1, (.slice A0_2 l0_2.length c0_2)] 26 (0, 0))) ∧ Aside0 (w'.heap[aI]? = some (.cells #[.int .u64 0, .int .i64 0, (.slice none 0 0)] 26 (0, 0))) ∧ Aside0 (Below w.heap.size w w'))
   case atStart => exact ⟨(y160), (0), (by first | rfl | (simp; done) | (simp [*]; done)), H', ⟨Nat.le_refl _⟩, ⟨by (with_reducible repeat (first | apply Kd.S_alloc | apply Kd.S_drewN | apply Kd.S_drew)); exact bW.out⟩, ⟨bk_ aA⟩, ⟨bk_ aD⟩, ⟨bl_ HB⟩⟩
   case round =>
    clear H'; (try clear c2); (try clear bL); (try clear bM); (try clear c3); (try clear bN); (try clear bO); (try clear bX); (try clear bY); (try clear bZ); (try clear bP); (try clear bQ); (try clear bR); (try clear cA); (try clear cB); (try clear cC); (try clear bS); (try clear bT); (try clear bU); obtain ⟨aG, aC, rfl, HA, HK1, aE, aA, aD, HB⟩ := hrel
    cases gk with
    | zero => exact absurd HA.out (by simp [least_clone.l0])
    | succ k1 =>
     have H := HA.out; clear HA; simp only [least_clone.l0] at H
     by_cases aJ : aC < (l0_2.length : Int)
     ·rw [if_pos aJ] at H; have cE : decide (aC < (l0_2.length : Int)) = true := decide_eq_true aJ; clear aJ
      by_cases aK : 0 ≤ aC
      ·rw [if_pos aK] at H; have cT : decide (0 ≤ aC) = true := decide_eq_true aK; clear aK
       by_cases aM : aC < (l0_2.length : Int)
       ·rw [if_pos aM] at H; have cU : decide (aC < (l0_2.length : Int)) = true := decide_eq_true aM; clear aM; replace H := Option.bind_eq_some_iff.mp H; obtain ⟨aN, bG, H⟩ := H; replace H : (if aC < (aG.length : Int) then (least_clone.l0 k1 (aG.set (aC : Int).toNat aN) l0_2 (l0_2.length : Int) (wrap64 (aC + 1)) a0_0 a0_1 l0_2) else (none)) = some (r1, r2, r3) := H; have cF := mk_ bG; clear bG
        by_cases aP : aC < (aG.length : Int)
        ·rw [if_pos aP] at H; have cV : decide (aC < (aG.length : Int)) = true := decide_eq_true aP; clear aP; obtain ⟨y167, hy167⟩ : ∃ y_ : List (List Int), y_ = (aG.set (aC : Int).toNat aN) := ⟨_, rfl⟩
         replace H : (least_clone.l0 k1 y167 l0_2 (l0_2.length : Int) (wrap64 (aC + 1)) a0_0 a0_1 l0_2) = some (r1, r2, r3) := by first | (rw [hy167]; with_reducible exact H) | (have H2_ := (Option.bind_some _ _).symm.trans H; rw [hy167]; with_reducible exact H2_) | (have H2_ := (Option.bind_some _ _).symm.trans H; with_reducible exact H2_) | with_reducible exact H | (rw [hy167]; exact H) | exact H
         have cG := mk_ hy167; clear hy167; have H' := mk_ H; clear H; have aV : 0 ≤ (aC : Int) := od_; have aW : aC < (l0_2.length : Int) := od_; obtain ⟨cW, A163_0, c163_0, e163, aX, bH, hi163_0⟩ := at_L1 bK.out aC aV aW
         cases e163; (try replace aX := bt_ HB aX); have cH := mk_ hi163_0; have cI := mk_ bH; clear hi163_0 bH; replace aV := eq_true aV; replace aW := eq_true aW
         go_wp2_with (first | ((with_reducible refine gate_callee (f := 84) rfl ?_); refine gs_ (some 21) Try.func84 #[.slice A163_0 (rd_L1 l0_2 aC).length c163_0] ?_; (with_reducible refine (slices_Clone_int_int.calls _ _ (rd_L1 l0_2 aC) aN _ ?side1 ?side2 cF.out).mono ?_); (case side1 => exact ck_ (Kd.C_below cH.out HB.out)); (case side2 => exact cI.out); rintro e aY ⟨aQ, rfl, ho0, hb⟩; refine ⟨_, rfl, ?_⟩; replace aE := mk_ (Kd.S_elder' (sk_ aE) (Kd.R_base ho0) hb); have aT := mk_ (Kd.R_lower ho0 (below_size (bl_ HB))); replace aA := bb_ aA hb; replace aD := bb_ aD hb; replace HB := bs_ HB hb; (try clear hb); (try clear hk); (try clear ho0); have aZ : 0 ≤ (aC : Int) := od_; have bA : (aC : Int) < ((aG.length : Int) : Int) := od_; obtain ⟨go16, bI, eo16, bJ, gl16, cl16, HG16⟩ := Kd.S_form aE.out (by omega); (first | cases eo16 | (injection eo16 with ea_ en_ ec_; (first | subst ea_ | (injection ea_ with ea_; subst ea_)); subst ec_; clear en_)); have GB16 := mk_ bJ; have GG16 := mk_ HG16; clear bJ gl16 HG16; obtain ⟨_, ce16, hcl16, hM16, hcc16, hfr16, _, _⟩ := Kd.S_elem aE.out [] (aC : Int) aZ bA; obtain ⟨ve16_0, rfl, ge16_0⟩ := hM16; have cJ := hcc16 0 _ rfl; have hf16_0 := hfr16 0; (try simp only [show ((Kd.slice 3 (Kd.int .i64))).sz = 1 from rfl, Nat.mul_one, Nat.add_zero] at cJ); (try simp only [show ((Kd.slice 3 (Kd.int .i64))).sz = 1 from rfl, Nat.mul_one, Nat.add_zero] at hf16_0); clear hcl16 hcc16 hfr16; (try clear hM16); replace aZ := eq_true aZ; replace bA := eq_true bA; have n_ := mk_ (Kd.S_mono (ok' := (fun k_ => some k_ ≠ (aQ : Value).ownBlock)) aE.out (fun k_ hk => hk.2)); clear aE; have aE := n_; clear n_; have HX18 := mk_ (show Kd.S (Kd.slice 3 (Kd.int .i64)) 57 aY w.heap.size (fun k_ => ((fun _ => True)) k_ ∧ ¬ ((fun k_ => some k_ = (aQ : Value).ownBlock)) k_) (.slice (some ⟨go16, 0, none⟩) aG.length bI) aG from (sl_ (Kd.S_mono aE.out (fun k_ hk => ⟨trivial, fun e_ => hk e_⟩)))); obtain ⟨oki18, ce18, hcl18, hM18, hcc18, hfr18, hoki18, hH18⟩ := Kd.S_elem HX18.out [] (aC : Int) od_ (by have h_ : (aC : Int) < ((aG.length : Int) : Int) := od_; first | exact h_ | (have e_ := (Kd.S_reads' aE.out).1; omega) | simpa using h_); obtain ⟨ve18_0, rfl, ge18_0⟩ := hM18; have HP18 := Kd.S_seg hH18 od_ (by have h_ : (aC : Int) < ((aG.length : Int) : Int) := od_; first | exact h_ | (have e_ := (Kd.S_reads' aE.out).1; omega) | simpa using h_) (seg := [aQ]) (j := 0) (show 1 ≤ 1 from by decide) (x' := aN) (Kd.M_row (Kd.R_mono (Kd.R_tight rfl (Kd.R_mono (ok' := fun k_ => ((fun _ => True)) k_ ∧ k_ ≠ go16) (Kd.R_apart' (aT.out) (Kd.S_typed aE.out) (by decide)) (fun k_ hk => ⟨trivial, fun e_ => (hk.2) (by rw [e_]; rfl)⟩))) (fun _ h_ => Or.inr (h_)))) (fun _ hk => hk) (fun k_ cK => ((Kd.R_mono (ok' := fun k_ => ((fun _ => True)) k_ ∧ k_ ≠ go16) (Kd.R_apart' (aT.out) (Kd.S_typed aE.out) (by decide)) (fun k_ hk => ⟨trivial, fun e_ => (hk.2) (by rw [e_]; rfl)⟩))).1 k_ cK.symm); have cL := hcc18 0 _ rfl; (try simp only [show ((Kd.slice 3 (Kd.int .i64))).sz = 1 from rfl, Nat.mul_one, Nat.add_zero] at cL); have hf18_0 := hfr18 0; (try simp only [show ((Kd.slice 3 (Kd.int .i64))).sz = 1 from rfl, Nat.mul_one, Nat.add_zero] at hf18_0); clear hcl18 hcc18 hfr18 hoki18 hH18; (try clear hM18); (try simp only [show ((Kd.slice 3 (Kd.int .i64))).sz = 1 from rfl, Nat.mul_one, Nat.add_zero] at HP18)) | ((with_reducible refine gate_store (t := 57) (p := 22) rfl ?_); refine store_event (t := 57) (p := 22) (v := ?vo_w19) (w1 := (aY.setCell ⟨go16, (aC : Int).toNat, none⟩ (aQ))) ?hg ?ho ?hn ?hr ?_; (case ho => rfl); (case hg => rfl); (case hn => rfl); (case hr => first | (go_simp; done) | (go_simp; rfl) | (obtain ⟨A_, c_, e_⟩ := Kd.R_slice aT.out; subst e_; first | (go_simp; done) | (go_simp; rfl))); intro bB hw; have hg : aY.grownBy bB (some go16) := (by rw [hw]; exact HP18.2); have hp_ : Kd.S (Kd.slice 3 (Kd.int .i64)) 57 bB w.heap.size (fun _ => True) (.slice (some ⟨go16, 0, none⟩) aG.length bI) y167 := (by rw [hw, cG.out]; exact HP18.1); clear HP18; replace aA := mk_ (blk_grown (bk_ aA) hg (Kd.S_ne aE.out aA.out (by decide))); replace aD := mk_ (blk_grown (bk_ aD) hg (Kd.S_ne aE.out aD.out (by decide))); replace aE := mk_ (hp_); replace HB := mk_ ((by rw [hw]; exact below_set (HB.out) GB16.out : Below w.heap.size w bB)); clear aT; clear hg hw hp_))
         go_roundg k1
         case measure => have := HK1.out; omega
         case rel => exact ⟨(y167), (wrap64 (aC + 1)), (by first | rfl | (simp; done) | (simp [*]; done)), H', ⟨by have := HK1.out; omega⟩, ⟨by (with_reducible repeat (first | apply Kd.S_alloc | apply Kd.S_drewN | apply Kd.S_drew)); exact aE.out⟩, ⟨bk_ aA⟩, ⟨bk_ aD⟩, ⟨bl_ HB⟩⟩
        ·rw [if_neg aP] at H; exact absurd H (by simp)
       ·rw [if_neg aM] at H; exact absurd H (by simp)
      ·rw [if_neg aK] at H; exact absurd H (by simp)
     ·rw [if_neg aJ] at H; have cE : decide (aC < (l0_2.length : Int)) = false := decide_eq_false aJ; clear aJ; simp only [Option.some.injEq, Prod.mk.injEq] at H; obtain ⟨rfl, rfl, rfl⟩ := H; obtain ⟨bC, bD, eo20⟩ := Kd.S_slice aE.out; subst eo20; have cX := bF.out; have cY := aU.out; obtain ⟨cZ, dA, dB⟩ := cz3_ aA; obtain ⟨dC, dD, dE⟩ := fz3_ aA; obtain ⟨dF, dG, dH⟩ := cz3_ aD; obtain ⟨dI, dJ, dK⟩ := fz3_ aD
      go_wp2
      refine bodyPost_ret (results_cell_row rfl _ _ aI 26 #[.int .u64 a0_0, .int .i64 a0_1, .slice bC aG.length bD] (0, 0) _ rfl (by (with_reducible repeat (first | refine blk_drewN ?_ _ | refine blk_drew ?_ | refine blk_alloc ?_ _)); refine blk_put (cs := #[.int .u64 a0_0, .int .i64 a0_1, .slice none 0 0]) ?_ 2 _ rfl; (with_reducible repeat (first | refine blk_drewN ?_ _ | refine blk_drew ?_ | refine blk_alloc ?_ _)); refine blk_put (cs := #[.int .u64 a0_0, .int .i64 0, .slice none 0 0]) ?_ 1 _ rfl; (with_reducible repeat (first | refine blk_drewN ?_ _ | refine blk_drew ?_ | refine blk_alloc ?_ _)); refine blk_put (cs := #[.int .u64 0, .int .i64 0, .slice none 0 0]) ?_ 0 _ rfl; (with_reducible repeat (first | refine blk_drewN ?_ _ | refine blk_drew ?_ | refine blk_alloc ?_ _)); refine blk_far ?_ aU.out _; (with_reducible repeat (first | refine blk_drewN ?_ _ | refine blk_drew ?_ | refine blk_alloc ?_ _)); exact aD.out) Try.underlying26 rfl (by kernel_rfl)) rfl ?_
      exact ⟨_, by first | rfl | (simp [*] <;> rfl), by (with_reducible repeat (first | apply Kd.S_alloc | apply Kd.S_drewN | apply Kd.S_drew)); exact Kd.S_mono (Kd.S_far (p := ⟨aI, 2, none⟩) (Kd.S_far (p := ⟨aI, 1, none⟩) (Kd.S_far (p := ⟨aI, 0, none⟩) (Kd.S_far (p := ⟨aH, 2, none⟩) (Kd.S_types (Kd.S_types aE.out aA.out (by decide)) aD.out (by decide)) (fun _ hk => hk.1.2) (.slice bC aG.length bD)) (fun _ hk => hk.2) (.int .u64 a0_0)) (fun _ hk => hk.2) (.int .i64 a0_1)) (fun _ hk => hk.2) (.slice bC aG.length bD)) (fun _ hk => trivial), bl_ HB⟩
  ·rw [if_neg c3] at H; exact absurd H (by simp)
 ·rw [if_neg c2] at H; exact absurd H (by simp)

/-! ### least_Add: function 58 -/
mutual
def least_Add.j0 : Nat → ByteArray → Int → Bool → Int → Int → List (List Int) → Option (Int × Int × (List (List Int)) × Int)
  | 0, _, _, _, _, _, _ => none
  | k + 1, x1, x2, x21, x170000, x170001, x170002 => if x21 = true then (some (0, 0, ([] : List (List Int)), 1)) else ((least_clone.f k x170000 x170001 x170002).bind fun bt172 => (least_Add.l0 k x1 x2 bt172.2.2 (bt172.2.2.length : Int) 0 bt172.1 bt172.2.1))
def least_Add.l0 : Nat → ByteArray → Int → List (List Int) → Int → Int → Int → Int → Option (Int × Int × (List (List Int)) × Int)
  | 0, _, _, _, _, _, _, _ => none
  | k + 1, x1, x2, x26, x27, x28, x170000, x170001 => if x28 < x27 then (if 0 ≤ x28 then ((hash_Row.f x170000 x28).bind fun t178 => ((hash_Cell.f k t178 x1 ((rd_L1 x26 x28).length : Int)).bind fun t179 => (if 0 ≤ t179 then (if t179 < ((rd_L1 x26 x28).length : Int) then (least_Add.l0 k x1 x2 (x26.set (x28 : Int).toNat ((rd_L1 x26 x28).set (t179 : Int).toNat (mn (wrap64 ((rd (rd_L1 x26 x28) t179) + x2)) x170001))) x27 (wrap64 (x28 + 1)) x170000 x170001) else (none)) else (none)))) else (none)) else (some (x170000, x170001, x26, 0))
end
def least_Add.f (k : Nat) (a0_0 : Int) (a0_1 : Int) (l0_2 : List (List Int)) (a1 : ByteArray) (a2 : Int) : Option (Int × Int × (List (List Int)) × Int) := (least_Right.f k a0_0 a0_1 l0_2).bind fun t171 => (if t171 = true then (if a2 < 0 then (least_Add.j0 k a1 a2 true a0_0 a0_1 l0_2) else (least_Add.j0 k a1 a2 (decide (a2 > 1099511627776)) a0_0 a0_1 l0_2)) else (least_Add.j0 k a1 a2 true a0_0 a0_1 l0_2))
theorem least_Add.mono_l : ∀ k, (∀ y0 y1 y2 y3 y4 y5, LeO (least_Add.j0 k y0 y1 y2 y3 y4 y5) (least_Add.j0 (k + 1) y0 y1 y2 y3 y4 y5)) ∧ (∀ y0 y1 y2 y3 y4 y5 y6, LeO (least_Add.l0 k y0 y1 y2 y3 y4 y5 y6) (least_Add.l0 (k + 1) y0 y1 y2 y3 y4 y5 y6))
  | 0 => ⟨fun _ _ _ _ _ _ r h => by simp [least_Add.j0] at h, fun _ _ _ _ _ _ _ r h => by simp [least_Add.l0] at h⟩
  | k + 1 => by
    obtain ⟨ih0, ih1⟩ := least_Add.mono_l k
    refine ⟨?_, ?_⟩
    · intro y0 y1 y2 y3 y4 y5
      unfold least_Add.j0
      repeat' first | (with_reducible first | exact least_clone.mono _ _ _ _ | exact ih1 _ _ _ _ _ _ _ | exact LeO.refl _ | exact LeO.none _ | refine LeO.ite ?_ ?_ | refine LeO.bind ?_ (fun _ => ?_)) | exact least_clone.mono _ _ _ _ | exact ih1 _ _ _ _ _ _ _ | refine LeO.ite ?_ ?_ | refine LeO.bind ?_ (fun _ => ?_)
    · intro y0 y1 y2 y3 y4 y5 y6
      unfold least_Add.l0
      repeat' first | (with_reducible first | exact ih1 _ _ _ _ _ _ _ | exact LeO.refl _ | exact LeO.none _ | refine LeO.ite ?_ ?_ | refine LeO.bind ?_ (fun _ => ?_)) | exact ih1 _ _ _ _ _ _ _ | exact hash_Cell.mono _ _ _ _ | refine LeO.ite ?_ ?_ | refine LeO.bind ?_ (fun _ => ?_)
theorem least_Add.mono : ∀ a0 a1 a2 a3 a4 k, LeO (least_Add.f k a0 a1 a2 a3 a4) (least_Add.f (k + 1) a0 a1 a2 a3 a4) := by
  intro a0 a1 a2 a3 a4 k
  obtain ⟨ih0, ih1⟩ := least_Add.mono_l k
  unfold least_Add.f
  repeat' first | (with_reducible first | exact ih0 _ _ _ _ _ _ | exact least_Right.mono _ _ _ _ | exact LeO.refl _ | exact LeO.none _ | refine LeO.ite ?_ ?_ | refine LeO.bind ?_ (fun _ => ?_)) | exact ih0 _ _ _ _ _ _ | exact least_Right.mono _ _ _ _ | refine LeO.ite ?_ ?_ | refine LeO.bind ?_ (fun _ => ?_)
set_option maxHeartbeats 80000000 in
set_option maxRecDepth 100000 in
theorem least_Add.calls (k : Nat) (a0_0 : Int) (a0_1 : Int) (A0_2 : Option Addr) (c0_2 : Nat) (l0_2 : List (List Int)) (a1 : ByteArray) (a2 : Int) (r1 : Int) (r2 : Int) (r3 : List (List Int)) (r4 : Int) (w : World) (hr0_2 : Kd.C (Kd.slice 3 (Kd.int .i64)) w A0_2 l0_2.length l0_2) (hc0_2 : l0_2.length ≤ c0_2) (h : least_Add.f k a0_0 a0_1 l0_2 a1 a2 = some (r1, r2, r3, r4)) :
    Calls Try.prog 58 #[.agg #[.int .u64 a0_0, .int .i64 a0_1, .slice A0_2 l0_2.length c0_2], .string a1, .int .i64 a2] w fun e w' => ∃ v2_ : Value, e = .returned (.tuple #[.agg #[.int .u64 r1, .int .i64 r2, v2_], .int .i64 r4]) ∧ Kd.S (Kd.slice 3 (Kd.int .i64)) 57 w' w.heap.size (fun _ => True) v2_ r3 ∧ Below w.heap.size w w' := by
 have hu_ := Try.underlying26; have aY := mk_ hr0_2; have aZ := mk_ hc0_2; clear hr0_2 hc0_2; have HB := mk_ (Below.refl w.heap.size w); have H : ((least_Right.f k a0_0 a0_1 l0_2).bind fun bA => (if bA = true then (if a2 < 0 then (least_Add.j0 k a1 a2 true a0_0 a0_1 l0_2) else (least_Add.j0 k a1 a2 (decide (a2 > 1099511627776)) a0_0 a0_1 l0_2)) else (least_Add.j0 k a1 a2 true a0_0 a0_1 l0_2))) = some (r1, r2, r3, r4) := h; clear h; have HC4 := mk_ H; clear H
 go_enter Try.func58, Try.ntmps58
 go_upto_region 1 with (first | ((with_reducible refine gate_dst (N := 3) rfl ?_); refine box_event ?hg (N := 3) ?hd (cs := #[.int .u64 a0_0, .int .i64 a0_1, .slice A0_2 l0_2.length c0_2]) (t := 26) ?hr ?_; (case hd => rfl); (case hg => rfl); (case hr => first | (go_simp; done) | (go_simp; rfl)); intro aD hg w5 hbox hb; have aA := mk_ (hbox); have dJ := gx_ hg HB; have dK := gx_ hg HB; replace HB := bs_ HB hb; clear hb hbox hg) | ((with_reducible refine gate_dst (N := 6) rfl ?_); refine box_event ?hg (N := 6) ?hd (cs := #[.int .u64 0, .int .i64 0, .slice none 0 0]) (t := 26) ?hr ?_; (case hd => rfl); (case hg => rfl); (case hr => first | (go_simp; done) | (go_simp; rfl)); intro aK hg w6 hbox hb; have aC := mk_ (hbox); have dL := gx_ hg HB; have dM := gx_ hg HB; replace HB := bs_ HB hb; have aU := nx_ hg aA; have aM := ny_ hg aA; replace aA := bb_ aA hb; clear hb hbox hg))
 (try simp only [Act.put, sa_, sb_, sc_])
 go_cut [21] (fun cD wc => ∃ (kq : Nat) (bB : Bool), cD = .bool bB ∧ Aside0 (least_Add.j0 kq a1 a2 bB a0_0 a0_1 l0_2 = some (r1, r2, r3, r4)) ∧ Aside0 (kq ≤ k) ∧ Aside0 (wc.heap[aD]? = some (.cells #[.int .u64 a0_0, .int .i64 a0_1, (.slice A0_2 l0_2.length c0_2)] 26 (0, 0))) ∧ Aside0 (wc.heap[aK]? = some (.cells #[.int .u64 0, .int .i64 0, (.slice none 0 0)] 26 (0, 0))) ∧ Aside0 (Below w.heap.size w wc))
 case first =>
  have H := HC4.out; clear HC4; replace H := Option.bind_eq_some_iff.mp H; obtain ⟨bA, bH, H⟩ := H; replace H : (if bA = true then (if a2 < 0 then (least_Add.j0 k a1 a2 true a0_0 a0_1 l0_2) else (least_Add.j0 k a1 a2 (decide (a2 > 1099511627776)) a0_0 a0_1 l0_2)) else (least_Add.j0 k a1 a2 true a0_0 a0_1 l0_2)) = some (r1, r2, r3, r4) := H; have A7 := mk_ bH; clear bH
  by_cases c8 : bA = true
  ·subst c8
   have H1 : (if a2 < 0 then (least_Add.j0 k a1 a2 true a0_0 a0_1 l0_2) else (least_Add.j0 k a1 a2 (decide (a2 > 1099511627776)) a0_0 a0_1 l0_2)) = some (r1, r2, r3, r4) := by rw [if_pos rfl] at H; exact H
   clear H; have H := H1; clear H1
   by_cases c9 : a2 < 0
   ·rw [if_pos c9] at H; have aQ : decide (a2 < 0) = true := decide_eq_true c9; clear c9
    (first | rw [aQ] | (simp only [i64_w, i32_w]; rw [aQ]) | skip)
    have H' := mk_ H; clear H; have dN := aU.out; have dO := aM.out; obtain ⟨bI, bJ, bK⟩ := cz3_ aA; obtain ⟨bL, bM, bN⟩ := fz3_ aA
    go_wp2_with (first | ((with_reducible refine gate_callee (f := 42) rfl ?_); refine gs_ (some 12) Try.func42 #[.agg #[.int .u64 a0_0, .int .i64 a0_1, .slice A0_2 l0_2.length c0_2]] ?_; (with_reducible refine (least_Right.calls k a0_0 a0_1 _ _ l0_2 true _ ?side1 ?side2 A7.out).mono ?_); (case side1 => exact ck_ (Kd.C_below aY.out HB.out)); (case side2 => exact aZ.out); rintro e dP ⟨rfl, hb⟩; refine ⟨_, rfl, ?_⟩; replace aA := bb_ aA hb; replace aC := bb_ aC hb; replace HB := bs_ HB hb; (try clear hb); (try clear hk); ))
    go_meet
    case rel => exact ⟨_, (true), (by first | rfl | (simp; done) | (simp [*]; done)), H', ⟨by first | omega | exact Nat.le_refl _⟩, ⟨bk_ aA⟩, ⟨bk_ aC⟩, ⟨bl_ HB⟩⟩
   ·rw [if_neg c9] at H; have aQ : decide (a2 < 0) = false := decide_eq_false c9; clear c9
    (first | rw [aQ] | (simp only [i64_w, i32_w]; rw [aQ]) | skip)
    have H' := mk_ H; clear H; have dQ := aU.out; have dR := aM.out; obtain ⟨bO, bP, bQ⟩ := cz3_ aA; obtain ⟨bR, bS, bT⟩ := fz3_ aA
    go_wp2_with (first | ((with_reducible refine gate_callee (f := 42) rfl ?_); refine gs_ (some 12) Try.func42 #[.agg #[.int .u64 a0_0, .int .i64 a0_1, .slice A0_2 l0_2.length c0_2]] ?_; (with_reducible refine (least_Right.calls k a0_0 a0_1 _ _ l0_2 true _ ?side1 ?side2 A7.out).mono ?_); (case side1 => exact ck_ (Kd.C_below aY.out HB.out)); (case side2 => exact aZ.out); rintro e dS ⟨rfl, hb⟩; refine ⟨_, rfl, ?_⟩; replace aA := bb_ aA hb; replace aC := bb_ aC hb; replace HB := bs_ HB hb; (try clear hb); (try clear hk); ))
    go_meet
    case rel => exact ⟨_, (decide (a2 > 1099511627776)), (by first | rfl | (simp; done) | (simp [*]; done)), H', ⟨by first | omega | exact Nat.le_refl _⟩, ⟨bk_ aA⟩, ⟨bk_ aC⟩, ⟨bl_ HB⟩⟩
  ·replace c8 := Bool.eq_false_iff.mpr c8; subst c8
   have H1 : (least_Add.j0 k a1 a2 true a0_0 a0_1 l0_2) = some (r1, r2, r3, r4) := by rw [if_neg (show ¬ (false = true) by decide)] at H; exact H
   clear H; have H := H1; clear H1; have H' := mk_ H; clear H; have dT := aU.out; have dU := aM.out; obtain ⟨bU, bV, bW⟩ := cz3_ aA; obtain ⟨bX, bY, bZ⟩ := fz3_ aA
   go_wp2_with (first | ((with_reducible refine gate_callee (f := 42) rfl ?_); refine gs_ (some 12) Try.func42 #[.agg #[.int .u64 a0_0, .int .i64 a0_1, .slice A0_2 l0_2.length c0_2]] ?_; (with_reducible refine (least_Right.calls k a0_0 a0_1 _ _ l0_2 false _ ?side1 ?side2 A7.out).mono ?_); (case side1 => exact ck_ (Kd.C_below aY.out HB.out)); (case side2 => exact aZ.out); rintro e dV ⟨rfl, hb⟩; refine ⟨_, rfl, ?_⟩; replace aA := bb_ aA hb; replace aC := bb_ aC hb; replace HB := bs_ HB hb; (try clear hb); (try clear hk); ))
   go_meet
   case rel => exact ⟨_, (true), (by first | rfl | (simp; done) | (simp [*]; done)), H', ⟨by first | omega | exact Nat.le_refl _⟩, ⟨bk_ aA⟩, ⟨bk_ aC⟩, ⟨bl_ HB⟩⟩
 case rest =>
  clear HC4; (try clear c1); (try clear c8); (try clear c9); (try clear aQ); (try clear bI); (try clear bJ); (try clear bK); (try clear bO); (try clear bP); (try clear bQ); (try clear bU); (try clear bV); (try clear bW); (try clear bL); (try clear bM); (try clear bN); (try clear bR); (try clear bS); (try clear bT); (try clear bX); (try clear bY); (try clear bZ); obtain ⟨kq, bB, rfl, HA, HJ3, aA, aC, HB⟩ := hcut
  cases kq with
  | zero => exact absurd HA.out (by simp [least_Add.j0])
  | succ aV =>
   have H := HA.out; clear HA; simp only [least_Add.j0] at H
   by_cases aX : bB = true
   ·subst aX
    have H1 : (some (0, 0, ([] : List (List Int)), 1)) = some (r1, r2, r3, r4) := by rw [if_pos rfl] at H; exact H
    clear H; have H := H1; clear H1; simp only [Option.some.injEq, Prod.mk.injEq] at H; obtain ⟨rfl, rfl, rfl, rfl⟩ := H; have dW := aM.out; have dX := aU.out; obtain ⟨cJ, cK, cL⟩ := cz3_ aC; obtain ⟨cM, cN, cO⟩ := fz3_ aC
    go_wp2
    refine bodyPost_ret (results_ct rfl _ _ aK 26 #[.int .u64 0, .int .i64 0, .slice none 0 0] (0, 0) _ rfl (pt_ aC) Try.underlying26 rfl (by kernel_rfl)) rfl ?_; exact ⟨_, by first | rfl | (simp [*] <;> rfl), by first | (with_reducible first | exact Kd.N_nil _ _ _ _ _ | exact Kd.V_nil _ _ _ _ _ | exact Kd.S_nil _ _ _ _ _) | exact Kd.Q_nil _ _ _ _ _ | exact Kd.R_nil _ _ _ _ _, bl_ HB⟩
   ·replace aX := Bool.eq_false_iff.mpr aX; subst aX
    have H1 : ((least_clone.f aV a0_0 a0_1 l0_2).bind fun bt172 => (least_Add.l0 aV a1 a2 bt172.2.2 (bt172.2.2.length : Int) 0 bt172.1 bt172.2.1)) = some (r1, r2, r3, r4) := by rw [if_neg (show ¬ (false = true) by decide)] at H; exact H
    clear H; have H := H1; clear H1; replace H := Option.bind_eq_some_iff.mp H; obtain ⟨⟨aJ, aI, aG⟩, cA, H⟩ := H; replace H : (least_Add.l0 aV a1 a2 aG (aG.length : Int) 0 aJ aI) = some (r1, r2, r3, r4) := H; have cP := mk_ cA; clear cA; have H' := mk_ H; clear H; have dY := aU.out; have dZ := aM.out; obtain ⟨cQ, cR, cS⟩ := cz3_ aA; obtain ⟨cT, cU, cV⟩ := fz3_ aA
    go_wp2_with (first | ((with_reducible refine gate_callee (f := 75) rfl ?_); refine gs_ (some 24) Try.func75 #[.agg #[.int .u64 a0_0, .int .i64 a0_1, .slice A0_2 l0_2.length c0_2]] ?_; (with_reducible refine (least_clone.calls aV a0_0 a0_1 _ _ l0_2 aJ aI aG _ ?side1 ?side2 cP.out).mono ?_); (case side1 => exact ck_ (Kd.C_below aY.out HB.out)); (case side2 => exact aZ.out); rintro e bF ⟨fA, rfl, ho0, hb⟩; refine ⟨_, rfl, ?_⟩; have cB := mk_ (Kd.S_lower ho0 (below_size (bl_ HB))); replace aA := bb_ aA hb; replace aC := bb_ aC hb; replace HB := bs_ HB hb; (try clear hb); (try clear hk); (try clear ho0); obtain ⟨cW, cX, cY⟩ := cz3_ aA; obtain ⟨cZ, dA, dB⟩ := fz3_ aA; obtain ⟨aW, aP, eo27⟩ := Kd.S_slice cB.out; subst eo27))
    go_loopg [28] aV (fun kq dC w' => ∃ (aE : Int) (cur : List (List Int)), dC = .int .i64 aE ∧ Aside0 (cur.length = aG.length) ∧ Aside0 (least_Add.l0 kq a1 a2 cur (aG.length : Int) aE aJ aI = some (r1, r2, r3, r4)) ∧ Aside0 (kq ≤ aV) ∧ Aside0 (Kd.S (Kd.slice 3 (Kd.int .i64)) 57 w' w.heap.size (fun _ => True) (.slice aW aG.length aP) cur) ∧ Aside0 (w'.heap[aD]? = some (.cells #[.int .u64 aJ, .int .i64 aI, (.slice aW aG.length aP)] 26 (0, 0))) ∧ Aside0 (w'.heap[aK]? = some (.cells #[.int .u64 0, .int .i64 0, (.slice none 0 0)] 26 (0, 0))) ∧ Aside0 (Below w.heap.size w w'))
    case atStart => exact ⟨(0), aG, (by first | rfl | (simp; done) | (simp [*]; done)), ⟨rfl⟩, H', ⟨Nat.le_refl _⟩, ⟨by (with_reducible repeat (first | apply Kd.S_alloc | apply Kd.S_drewN | apply Kd.S_drew)); exact Kd.S_mono (Kd.S_far (p := ⟨aD, 2, none⟩) (Kd.S_far (p := ⟨aD, 1, none⟩) (Kd.S_far (p := ⟨aD, 0, none⟩) (Kd.S_types cB.out aA.out (by decide)) (fun _ hk => hk.2) (.int .u64 aJ)) (fun _ hk => hk.2) (.int .i64 aI)) (fun _ hk => hk.2) (.slice aW aG.length aP)) (fun _ hk => trivial)⟩, ⟨pt_ aA⟩, ⟨fb_⟩, ⟨bl_ HB⟩⟩
    case round =>
     clear H'; (try clear c1); (try clear c8); (try clear c9); (try clear aQ); (try clear aX); (try clear bI); (try clear bJ); (try clear bK); (try clear bO); (try clear bP); (try clear bQ); (try clear bU); (try clear bV); (try clear bW); (try clear cJ); (try clear cK); (try clear cL); (try clear cQ); (try clear cR); (try clear cS); (try clear cW); (try clear cX); (try clear cY); (try clear bL); (try clear bM); (try clear bN); (try clear bR); (try clear bS); (try clear bT); (try clear bX); (try clear bY); (try clear bZ); (try clear cM); (try clear cN); (try clear cO); (try clear cT); (try clear cU); (try clear cV); (try clear cZ); (try clear dA); (try clear dB); obtain ⟨aE, cur, rfl, HLEN, HA, HK2, bC, aA, aC, HB⟩ := hrel
     cases gk with
     | zero => exact absurd HA.out (by simp [least_Add.l0])
     | succ k2 =>
      have H := HA.out; clear HA; simp only [least_Add.l0] at H
      by_cases aN : aE < (aG.length : Int)
      ·rw [if_pos aN] at H; have dD : decide (aE < (aG.length : Int)) = true := decide_eq_true aN
       by_cases aT : 0 ≤ aE
       ·rw [if_pos aT] at H; have fE : decide (0 ≤ aE) = true := decide_eq_true aT; replace H := Option.bind_eq_some_iff.mp H; obtain ⟨cC, AR0, H⟩ := H; have AR := mk_ AR0; clear AR0; replace H := Option.bind_eq_some_iff.mp H; obtain ⟨aH, AC0, H⟩ := H; have AC := mk_ AC0; clear AC0
        by_cases bD : 0 ≤ aH
        ·rw [if_pos bD] at H
         by_cases bE : aH < ((rd_L1 cur aE).length : Int)
         ·rw [if_pos bE] at H; have H' := mk_ H; clear H; (try (obtain ⟨Az_, cz_, ez_, _, _⟩ := Kd.S_reads bC.out; subst ez_)); obtain ⟨ad, A1, c1, e1, hx1, hl1, hi1⟩ := at_L1 (Kd.S_reads' bC.out).2.2 aE aT (by rw [HLEN.out]; exact aN)
          cases e1; have HX1 := mk_ hx1; have hcz0 : wr.cell? ⟨aD, 0, none⟩ = some (.int .u64 aJ) := bc_ aA 0; clear hl1 hi1; have P0 := mk_ aT; have P1 := mk_ aN; have P2 := mk_ bD; have P3 := mk_ bE; replace aT := eq_true aT; replace aN := eq_true aN; clear bD bE
          go_wp2_with fail
          refine (hash_Row.calls aJ aE cC _ AR.out).mono ?_; rintro e w2 ⟨rfl, hb⟩; have dE := mk_ (Kd.S_below bC.out hb); have dF := mk_ (blk_below aA.out hb); have BL2 := mk_ (blk_below aC.out hb); have HB2 := mk_ (below_step HB.out hb); have HX2 := mk_ ((hb.cell (World.block_lt_of_cell? wr _ HX1.out)).trans HX1.out); clear hb hcz0 hx1
          go_wp2_with fail
          refine (hash_Cell.calls k2 cC a1 _ aH _ AC.out).mono ?_; rintro e w3 ⟨rfl, ⟨nd, rfl⟩⟩
          go_wp2_with fail
          have dG := mk_ (Kd.S_drew (Kd.S_drewN dE.out nd)); have bG := mk_ (blk_drew (blk_drewN dF.out nd)); have BL4 := mk_ (blk_drew (blk_drewN BL2.out nd)); have HB4 := mk_ (below_drew1 (pw_below_drewN HB2.out nd)); have HX4 : Aside0 ((w2.drewN nd).drew.cell? (ad.add aE.toNat) = some (.slice A1 (rd_L1 cur aE).length c1)) := ⟨HX2.out⟩; refine wp_region_still_tail 12 (by kernel_rfl) (by kernel_rfl) ?_
          change wpStill _ _ (w2.drewN nd).drew (fun a' => wpList _ _ _ _ a' (w2.drewN nd).drew) _ _
          generalize (w2.drewN nd).drew = w4 at *; obtain ⟨oki, cc, hcl, hM, hcc, hoki, hback⟩ := Kd.S_borrow dG.out [] aE P0.out (by first | exact P1.out | (rw [HLEN.out]; exact P1.out)); obtain ⟨v4, rfl, hR⟩ := hM; have hv := hcc 0 _ rfl; rw [Nat.add_zero, show ((Kd.slice 3 (Kd.int .i64))).sz = 1 from rfl, Nat.mul_one] at hv; replace hv := Option.some.inj (hv.symm.trans HX4.out); subst hv; clear hcc hcl; have hR2 : (Kd.int .i64).R 3 w4 w.heap.size oki (.slice A1 (rd_L1 cur aE).length c1) (rd_L1 cur aE) := hR; clear hR; obtain ⟨g1, cap1, eg, hg1, hg2, cells, hcells⟩ := Kd.R_form hR2 (by have := P2.out; have := P3.out; omega)
          cases eg; have hfr := blk_frozen hcells aH.toNat; obtain ⟨A5, c5, e5, hl5, hC5⟩ := Kd.R_reads hR2
          cases e5; obtain ⟨fF, e5, hx5⟩ := Kd.at_int hC5 aH P2.out P3.out
          cases e5; have HBACK := mk_ (@hback); clear hback; have HRR := mk_ hR2; have HCE := mk_ hcells; have HG1 := mk_ hg1; clear hR2 hC5 hl5 hoki hg2 hcells hg1; rw [Addr.add_lit, Nat.zero_add] at hx5; have hz1 : w4.cell? ⟨aD, 1, none⟩ = some (.int .i64 aI) := bc_ bG 1; have q0 := eq_true P2.out; have q1 := eq_true P3.out; have d0 : decide (0 ≤ aH) = true := decide_eq_true P2.out; have d1 : decide (aH < ((rd_L1 cur aE).length : Int)) = true := decide_eq_true P3.out; simp only [List.take_succ_cons, List.take_zero, List.drop_succ_cons, List.drop_zero]
          repeat still_step
          try refine wpStill_nil ?_
          have hmn : (if aI < IntKind.i64.wrap ((rd (rd_L1 cur aE) aH) + a2) then aI else IntKind.i64.wrap ((rd (rd_L1 cur aE) aH) + a2)) = mn (wrap64 ((rd (rd_L1 cur aE) aH) + a2)) aI := by rw [i64_w]; rfl
          rw [hmn]; clear hmn; generalize mn (wrap64 ((rd (rd_L1 cur aE) aH) + a2)) aI = nv at *; have RP := Kd.R_put HRR.out aH nv; have HS5 := mk_ (show Kd.S (Kd.slice 3 (Kd.int .i64)) 57 (w4.setCell ⟨g1, (aH : Int).toNat, none⟩ (.int .i64 nv)) w.heap.size (fun _ => True) (.slice (some ad) aG.length aP) (cur.set (aE : Int).toNat ((rd_L1 cur aE).set (aH : Int).toNat nv)) from HBACK.out RP.2 (fun k_ dH => HRR.out.1 k_ (by rw [← dH]; rfl)) ⟨_, rfl, RP.1⟩); have dI : Aside0 ((w4.setCell ⟨g1, (aH : Int).toNat, none⟩ (.int .i64 nv)).heap[aD]? = some (.cells #[.int .u64 aJ, .int .i64 aI, (.slice (some ad) aG.length aP)] 26 (0, 0))) := ⟨blk_far bG.out (blk_ne bG.out HCE.out (by decide)) _⟩; have BL5 : Aside0 ((w4.setCell ⟨g1, (aH : Int).toNat, none⟩ (.int .i64 nv)).heap[aK]? = some (.cells #[.int .u64 0, .int .i64 0, (.slice none 0 0)] 26 (0, 0))) := ⟨blk_far BL4.out (blk_ne BL4.out HCE.out (by decide)) _⟩; have HB5 : Aside0 (Below w.heap.size w (w4.setCell ⟨g1, (aH : Int).toNat, none⟩ (.int .i64 nv))) := ⟨below_set HB4.out HG1.out⟩; clear RP
          go_wp2
          go_roundg k2
          case measure => have := HJ3.out; have := HK2.out; omega
          case rel => exact ⟨(wrap64 (aE + 1)), _, (by first | rfl | (simp; done) | (simp [*]; done)), ⟨by rw [List.length_set]; exact HLEN.out⟩, H', ⟨by have := HJ3.out; have := HK2.out; omega⟩, HS5, dI, BL5, HB5⟩
         ·rw [if_neg bE] at H; exact absurd H (by simp)
        ·rw [if_neg bD] at H; exact absurd H (by simp)
       ·rw [if_neg aT] at H; exact absurd H (by simp)
      ·rw [if_neg aN] at H; have dD : decide (aE < (aG.length : Int)) = false := decide_eq_false aN; clear aN; simp only [Option.some.injEq, Prod.mk.injEq] at H; obtain ⟨rfl, rfl, rfl, rfl⟩ := H; have fG := aU.out; have fH := aM.out; obtain ⟨fI, fJ, fK⟩ := cz3_ aA; obtain ⟨fL, fM, fN⟩ := fz3_ aA; obtain ⟨fO, fP, fQ⟩ := cz3_ aC; obtain ⟨fR, fS, fT⟩ := fz3_ aC
       go_wp2
       refine bodyPost_ret (results_ct rfl _ _ aK 26 #[.int .u64 aJ, .int .i64 aI, .slice aW aG.length aP] (0, 0) _ rfl (pt_ aC) Try.underlying26 rfl (by kernel_rfl)) rfl ?_; exact ⟨_, by first | rfl | (simp [*] <;> rfl), by (with_reducible repeat (first | apply Kd.S_alloc | apply Kd.S_drewN | apply Kd.S_drew)); exact Kd.S_mono (Kd.S_far (p := ⟨aK, 2, none⟩) (Kd.S_far (p := ⟨aK, 1, none⟩) (Kd.S_far (p := ⟨aK, 0, none⟩) (Kd.S_types bC.out aC.out (by decide)) (fun _ hk => hk.2) (.int .u64 aJ)) (fun _ hk => hk.2) (.int .i64 aI)) (fun _ hk => hk.2) (.slice aW aG.length aP)) (fun _ hk => trivial), bl_ HB⟩

