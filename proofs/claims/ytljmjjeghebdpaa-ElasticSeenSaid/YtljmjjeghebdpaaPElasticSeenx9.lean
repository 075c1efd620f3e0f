/- The functions that a law uses, each as a plain function, with the proof that a call of the Go function comes to its answer. Condition of each: the arguments read as the data that it names, and the plain function has an answer. Written by a program of this session (standin.py). -/
import Derived.Test.YtljmjjeghebdpaaPElasticSeenx0
import Derived.Test.YtljmjjeghebdpaaShort
import Derived.Lib.Bytealg
import Derived.Lib.SliceRun
import Derived.Lib.Slices
import Derived.Lib.Strings
import Derived.Lib.Walk
import Derived.Shelf.Abstract
import Derived.Test.YtljmjjeghebdpaaPressMore
namespace Go.Proofs.Ytljmjjeghebdpaa.PElasticSeen
open Go.RowKit Go.Proofs.YtljmjjeghebdpaaW.PrintWords Go.Proofs.YtljmjjeghebdpaaW.PrintLast Go.Proofs.YtljmjjeghebdpaaW.PrintMore Go.Proofs.Ytljmjjeghebdpaa.Short Go.Proofs.Ytljmjjeghebdpaa.Press Go.Proofs.Ytljmjjeghebdpaa.PressMore
attribute [local go_sem] max2_int min2_int max_two min_two max_three min_three max_four min_four   -- for this text's walks alone
set_option linter.unusedVariables false
set_option linter.unusedSimpArgs false

/-! ### cmp_Or_int: function 36 -/
def cmp_Or_int.l0 : Nat → Int → List Int → Int → Int → Option (Int)
  | 0, _, _, _, _ => none
  | k + 1, x3, x6, x7, x8 => if x8 < x7 then (if 0 ≤ x8 then (if x8 < (x6.length : Int) then (if (rd x6 x8) = x3 then (cmp_Or_int.l0 k x3 x6 x7 (wrap64 (x8 + 1))) else (some (rd x6 x8))) else (none)) else (none)) else (some x3)
def cmp_Or_int.f (k : Nat) (l0 : List Int) : Option (Int) := cmp_Or_int.l0 k 0 l0 (l0.length : Int) 0
theorem cmp_Or_int.mono_l : ∀ k, (∀ y0 y1 y2 y3, LeO (cmp_Or_int.l0 k y0 y1 y2 y3) (cmp_Or_int.l0 (k + 1) y0 y1 y2 y3))
  | 0 => fun _ _ _ _ r h => by simp [cmp_Or_int.l0] at h
  | k + 1 => by
    have ih0 := cmp_Or_int.mono_l k
    · intro y0 y1 y2 y3
      unfold cmp_Or_int.l0
      repeat' first | (with_reducible first | exact ih0 _ _ _ _ | exact LeO.refl _ | exact LeO.none _ | refine LeO.ite ?_ ?_ | refine LeO.bind ?_ (fun _ => ?_)) | exact ih0 _ _ _ _ | exact LeO.none _ | refine LeO.ite ?_ ?_ | refine LeO.bind ?_ (fun _ => ?_)
theorem cmp_Or_int.mono : ∀ a0 k, LeO (cmp_Or_int.f k a0) (cmp_Or_int.f (k + 1) a0) := by
  intro a0 k
  have ih0 := cmp_Or_int.mono_l k
  unfold cmp_Or_int.f
  repeat' first | (with_reducible first | exact ih0 _ _ _ _ | exact LeO.refl _ | exact LeO.none _ | refine LeO.ite ?_ ?_ | refine LeO.bind ?_ (fun _ => ?_)) | exact ih0 _ _ _ _ | exact LeO.none _ | refine LeO.ite ?_ ?_ | refine LeO.bind ?_ (fun _ => ?_)
set_option maxHeartbeats 80000000 in
set_option maxRecDepth 100000 in
theorem cmp_Or_int.calls (k : Nat) (A0 : Option Addr) (c0 : Nat) (l0 : List Int) (r : Int) (w : World) (hr0 : Kd.C (Kd.int .i64) w A0 l0.length l0) (hc0 : l0.length ≤ c0) (h : cmp_Or_int.f k l0 = some r) :
    Calls Try.prog 36 #[.slice A0 l0.length c0] w fun e w' => e = .returned (.int .i64 r) ∧ Drawn0 w w' := by
 have HR0 := mk_ hr0; have HC0 := mk_ hc0; clear hr0 hc0; have H : (cmp_Or_int.l0 k 0 l0 (l0.length : Int) 0) = some r := h; clear h; have H' := mk_ H; clear H
 go_enter Try.func36, Try.ntmps36
 go_wp2
 go_loopg [8] k (fun kq v8 w' => ∃ (aA : Int), v8 = .int .i64 aA ∧ Aside0 (cmp_Or_int.l0 kq 0 l0 (l0.length : Int) aA = some r) ∧ Aside0 (kq ≤ k) ∧ Drawn0 w w')
 case atStart => exact ⟨(0), (by first | rfl | (simp; done) | (simp [*]; done)), H', ⟨Nat.le_refl _⟩, by repeat (first | exact Drawn0.refl _ | apply Drawn0.step)⟩
 case round =>
  clear H'; obtain ⟨aA, rfl, HA, HK1, ⟨m1, rfl⟩⟩ := hrel
  cases gk with
  | zero => exact absurd HA.out (by simp [cmp_Or_int.l0])
  | succ k1 =>
   have H := HA.out; clear HA; simp only [cmp_Or_int.l0] at H
   by_cases c2 : aA < (l0.length : Int)
   ·rw [if_pos c2] at H; have aD : decide (aA < (l0.length : Int)) = true := decide_eq_true c2; clear c2
    by_cases c3 : 0 ≤ aA
    ·rw [if_pos c3] at H; have aI : decide (0 ≤ aA) = true := decide_eq_true c3; clear c3
     by_cases c4 : aA < (l0.length : Int)
     ·rw [if_pos c4] at H; have aJ : decide (aA < (l0.length : Int)) = true := decide_eq_true c4; clear c4
      by_cases c5 : (rd l0 aA) = 0
      ·rw [if_pos c5] at H; have aE : ((rd l0 aA) == 0) = true := beq_iff_eq.mpr c5; have aF : ((rd l0 aA) != 0) = false := bne_eq_false_iff_eq.mpr c5; clear c5; have H' := mk_ H; clear H; have aB : 0 ≤ (aA : Int) := od_; have aC : aA < (l0.length : Int) := od_; obtain ⟨aG, e269, aH⟩ := Kd.at_int HR0.out aA aB aC
       cases e269; replace aB := eq_true aB; replace aC := eq_true aC
       go_wp2
       go_roundg k1
       case measure => have := HK1.out; omega
       case rel => exact ⟨(wrap64 (aA + 1)), (by first | rfl | (simp; done) | (simp [*]; done)), H', ⟨by have := HK1.out; omega⟩, by repeat (first | exact Drawn0.refl _ | apply Drawn0.step)⟩
      ·rw [if_neg c5] at H; have aE : ((rd l0 aA) == 0) = false := beq_eq_false_iff_ne.mpr c5; have aF : ((rd l0 aA) != 0) = true := bne_iff_ne.mpr c5; obtain rfl := Option.some.inj H; have aB : 0 ≤ (aA : Int) := od_; have aC : aA < (l0.length : Int) := od_; obtain ⟨aG, e269, aH⟩ := Kd.at_int HR0.out aA aB aC
       cases e269; replace aB := eq_true aB; replace aC := eq_true aC
       go_wp2
       go_ret; exact ⟨by first | rfl | (simp; done) | (simp [*]; done), by repeat (first | exact Drawn0.refl _ | apply Drawn0.step)⟩
     ·rw [if_neg c4] at H; exact absurd H (by simp)
    ·rw [if_neg c3] at H; exact absurd H (by simp)
   ·rw [if_neg c2] at H; have aD : decide (aA < (l0.length : Int)) = false := decide_eq_false c2; clear c2; obtain rfl := Option.some.inj H
    go_wp2
    go_ret; exact ⟨by first | rfl | (simp; done) | (simp [*]; done), by repeat (first | exact Drawn0.refl _ | apply Drawn0.step)⟩

/-! ### cmp_isNaN_int: function 60 -/
def cmp_isNaN_int.f (a0 : Int) : Option (Bool) := some (a0 != a0)
set_option maxHeartbeats 80000000 in
set_option maxRecDepth 100000 in
theorem cmp_isNaN_int.calls (a0 : Int) (r : Bool) (w : World) (h : cmp_isNaN_int.f a0 = some r) :
    Calls Try.prog 60 #[.int .i64 a0] w fun e w' => e = .returned (.bool r) ∧ Drawn0 w w' := by
 have H : (some (a0 != a0)) = some r := h; clear h; obtain rfl := Option.some.inj H
 go_enter Try.func60, Try.ntmps60
 go_wp2
 go_ret; exact ⟨by first | rfl | (simp; done) | (simp [*]; done), by repeat (first | exact Drawn0.refl _ | apply Drawn0.step)⟩

/-! ### cmp_Compare_int: function 37 -/
def cmp_Compare_int.f (a0 : Int) (a1 : Int) : Option (Int) := (cmp_isNaN_int.f a0).bind fun t270 => ((cmp_isNaN_int.f a1).bind fun t271 => (if t270 = true then (if t271 = true then (some 0) else (some (-1))) else (if t271 = true then (some 1) else (if a0 < a1 then (some (-1)) else (if a0 > a1 then (some 1) else (some 0))))))
set_option maxHeartbeats 80000000 in
set_option maxRecDepth 100000 in
theorem cmp_Compare_int.calls (a0 : Int) (a1 : Int) (r : Int) (w : World) (h : cmp_Compare_int.f a0 a1 = some r) :
    Calls Try.prog 37 #[.int .i64 a0, .int .i64 a1] w fun e w' => e = .returned (.int .i64 r) ∧ Drawn0 w w' := by
 have H : ((cmp_isNaN_int.f a0).bind fun aB => ((cmp_isNaN_int.f a1).bind fun aA => (if aB = true then (if aA = true then (some 0) else (some (-1))) else (if aA = true then (some 1) else (if a0 < a1 then (some (-1)) else (if a0 > a1 then (some 1) else (some 0))))))) = some r := h; clear h; replace H := Option.bind_eq_some_iff.mp H; obtain ⟨aB, aC, H⟩ := H; replace H : ((cmp_isNaN_int.f a1).bind fun aA => (if aB = true then (if aA = true then (some 0) else (some (-1))) else (if aA = true then (some 1) else (if a0 < a1 then (some (-1)) else (if a0 > a1 then (some 1) else (some 0)))))) = some r := H; have A3 := mk_ aC; clear aC; replace H := Option.bind_eq_some_iff.mp H; obtain ⟨aA, aD, H⟩ := H; replace H : (if aB = true then (if aA = true then (some 0) else (some (-1))) else (if aA = true then (some 1) else (if a0 < a1 then (some (-1)) else (if a0 > a1 then (some 1) else (some 0))))) = some r := H; have A4 := mk_ aD; clear aD
 by_cases c5 : aB = true
 ·subst c5
  have H1 : (if aA = true then (some 0) else (some (-1))) = some r := by rw [if_pos rfl] at H; exact H
  clear H; have H := H1; clear H1
  by_cases c6 : aA = true
  ·subst c6
   have H1 : (some 0) = some r := by rw [if_pos rfl] at H; exact H
   clear H; have H := H1; clear H1; obtain rfl := Option.some.inj H
   go_enter Try.func37, Try.ntmps37
   go_wp2_with (first | ((with_reducible refine gate_callee (f := 60) rfl ?_); refine gs_ (some 8) Try.func60 #[.int .i64 a0] ?_; (with_reducible refine (cmp_isNaN_int.calls a0 true _ A3.out).mono ?_); rintro e w' ⟨rfl, ⟨nd, rfl⟩⟩; refine ⟨_, rfl, ?_⟩) | ((with_reducible refine gate_callee (f := 60) rfl ?_); refine gs_ (some 10) Try.func60 #[.int .i64 a1] ?_; (with_reducible refine (cmp_isNaN_int.calls a1 true _ A4.out).mono ?_); rintro e w' ⟨rfl, ⟨nd, rfl⟩⟩; refine ⟨_, rfl, ?_⟩))
   go_ret; exact ⟨by first | rfl | (simp; done) | (simp [*]; done), by repeat (first | exact Drawn0.refl _ | apply Drawn0.step)⟩
  ·replace c6 := Bool.eq_false_iff.mpr c6; subst c6
   have H1 : (some (-1)) = some r := by rw [if_neg (show ¬ (false = true) by decide)] at H; exact H
   clear H; have H := H1; clear H1; obtain rfl := Option.some.inj H
   go_enter Try.func37, Try.ntmps37
   go_wp2_with (first | ((with_reducible refine gate_callee (f := 60) rfl ?_); refine gs_ (some 8) Try.func60 #[.int .i64 a0] ?_; (with_reducible refine (cmp_isNaN_int.calls a0 true _ A3.out).mono ?_); rintro e w' ⟨rfl, ⟨nd, rfl⟩⟩; refine ⟨_, rfl, ?_⟩) | ((with_reducible refine gate_callee (f := 60) rfl ?_); refine gs_ (some 10) Try.func60 #[.int .i64 a1] ?_; (with_reducible refine (cmp_isNaN_int.calls a1 false _ A4.out).mono ?_); rintro e w' ⟨rfl, ⟨nd, rfl⟩⟩; refine ⟨_, rfl, ?_⟩))
   go_ret; exact ⟨by first | rfl | (simp; done) | (simp [*]; done), by repeat (first | exact Drawn0.refl _ | apply Drawn0.step)⟩
 ·replace c5 := Bool.eq_false_iff.mpr c5; subst c5
  have H1 : (if aA = true then (some 1) else (if a0 < a1 then (some (-1)) else (if a0 > a1 then (some 1) else (some 0)))) = some r := by rw [if_neg (show ¬ (false = true) by decide)] at H; exact H
  clear H; have H := H1; clear H1
  by_cases c7 : aA = true
  ·subst c7
   have H1 : (some 1) = some r := by rw [if_pos rfl] at H; exact H
   clear H; have H := H1; clear H1; obtain rfl := Option.some.inj H
   go_enter Try.func37, Try.ntmps37
   go_wp2_with (first | ((with_reducible refine gate_callee (f := 60) rfl ?_); refine gs_ (some 8) Try.func60 #[.int .i64 a0] ?_; (with_reducible refine (cmp_isNaN_int.calls a0 false _ A3.out).mono ?_); rintro e w' ⟨rfl, ⟨nd, rfl⟩⟩; refine ⟨_, rfl, ?_⟩) | ((with_reducible refine gate_callee (f := 60) rfl ?_); refine gs_ (some 10) Try.func60 #[.int .i64 a1] ?_; (with_reducible refine (cmp_isNaN_int.calls a1 true _ A4.out).mono ?_); rintro e w' ⟨rfl, ⟨nd, rfl⟩⟩; refine ⟨_, rfl, ?_⟩))
   go_ret; exact ⟨by first | rfl | (simp; done) | (simp [*]; done), by repeat (first | exact Drawn0.refl _ | apply Drawn0.step)⟩
  ·replace c7 := Bool.eq_false_iff.mpr c7; subst c7
   have H1 : (if a0 < a1 then (some (-1)) else (if a0 > a1 then (some 1) else (some 0))) = some r := by rw [if_neg (show ¬ (false = true) by decide)] at H; exact H
   clear H; have H := H1; clear H1
   by_cases c8 : a0 < a1
   ·rw [if_pos c8] at H; have aE : decide (a0 < a1) = true := decide_eq_true c8; clear c8; obtain rfl := Option.some.inj H
    go_enter Try.func37, Try.ntmps37
    go_wp2_with (first | ((with_reducible refine gate_callee (f := 60) rfl ?_); refine gs_ (some 8) Try.func60 #[.int .i64 a0] ?_; (with_reducible refine (cmp_isNaN_int.calls a0 false _ A3.out).mono ?_); rintro e w' ⟨rfl, ⟨nd, rfl⟩⟩; refine ⟨_, rfl, ?_⟩) | ((with_reducible refine gate_callee (f := 60) rfl ?_); refine gs_ (some 10) Try.func60 #[.int .i64 a1] ?_; (with_reducible refine (cmp_isNaN_int.calls a1 false _ A4.out).mono ?_); rintro e w' ⟨rfl, ⟨nd, rfl⟩⟩; refine ⟨_, rfl, ?_⟩))
    go_ret; exact ⟨by first | rfl | (simp; done) | (simp [*]; done), by repeat (first | exact Drawn0.refl _ | apply Drawn0.step)⟩
   ·rw [if_neg c8] at H; have aE : decide (a0 < a1) = false := decide_eq_false c8; clear c8
    by_cases c9 : a0 > a1
    ·rw [if_pos c9] at H; have aF : decide (a1 < a0) = true := decide_eq_true c9; clear c9; obtain rfl := Option.some.inj H
     go_enter Try.func37, Try.ntmps37
     go_wp2_with (first | ((with_reducible refine gate_callee (f := 60) rfl ?_); refine gs_ (some 8) Try.func60 #[.int .i64 a0] ?_; (with_reducible refine (cmp_isNaN_int.calls a0 false _ A3.out).mono ?_); rintro e w' ⟨rfl, ⟨nd, rfl⟩⟩; refine ⟨_, rfl, ?_⟩) | ((with_reducible refine gate_callee (f := 60) rfl ?_); refine gs_ (some 10) Try.func60 #[.int .i64 a1] ?_; (with_reducible refine (cmp_isNaN_int.calls a1 false _ A4.out).mono ?_); rintro e w' ⟨rfl, ⟨nd, rfl⟩⟩; refine ⟨_, rfl, ?_⟩))
     go_ret; exact ⟨by first | rfl | (simp; done) | (simp [*]; done), by repeat (first | exact Drawn0.refl _ | apply Drawn0.step)⟩
    ·rw [if_neg c9] at H; have aF : decide (a1 < a0) = false := decide_eq_false c9; clear c9; obtain rfl := Option.some.inj H
     go_enter Try.func37, Try.ntmps37
     go_wp2_with (first | ((with_reducible refine gate_callee (f := 60) rfl ?_); refine gs_ (some 8) Try.func60 #[.int .i64 a0] ?_; (with_reducible refine (cmp_isNaN_int.calls a0 false _ A3.out).mono ?_); rintro e w' ⟨rfl, ⟨nd, rfl⟩⟩; refine ⟨_, rfl, ?_⟩) | ((with_reducible refine gate_callee (f := 60) rfl ?_); refine gs_ (some 10) Try.func60 #[.int .i64 a1] ?_; (with_reducible refine (cmp_isNaN_int.calls a1 false _ A4.out).mono ?_); rintro e w' ⟨rfl, ⟨nd, rfl⟩⟩; refine ⟨_, rfl, ?_⟩))
     go_ret; exact ⟨by first | rfl | (simp; done) | (simp [*]; done), by repeat (first | exact Drawn0.refl _ | apply Drawn0.step)⟩

-- NOT PRINTED: function 78 (bytealg_abigen_runtime_cmpstring)

-- NOT PRINTED: function 61 (bytealg_CompareString)

/-! ### strings_Compare: function 38 -/
def strings_Compare.f (a0 : ByteArray) (a1 : ByteArray) : Option (Int) := some (Lib.compareBytes a0.data.toList a1.data.toList)

theorem strings_Compare.bytes (a b : ByteArray) (w : World) : Calls Try.prog 61 #[.string a, .string b] w fun e w' => e = .returned (.int .i64 (Lib.compareBytes a.data.toList b.data.toList)) ∧ w' = w := by
  go_enter Try.func61, Try.ntmps61
  go_wp2
  rw [run_callFunc_extern Try.func78 (by kernel_rfl) (by kernel_rfl) (by kernel_rfl) (e := Extern.BytealgCompare.compare) (by kernel_rfl), Lib.run_compareString]
  simp only [Result.andThen]
  rw [Oper.upon_value]
  go_wp2
  go_ret
  exact ⟨rfl, rfl⟩
set_option maxHeartbeats 80000000 in
set_option maxRecDepth 100000 in
theorem strings_Compare.calls (a0 : ByteArray) (a1 : ByteArray) (r : Int) (w : World) (h : strings_Compare.f a0 a1 = some r) :
    Calls Try.prog 38 #[.string a0, .string a1] w fun e w' => e = .returned (.int .i64 r) ∧ Drawn0 w w' := by
 unfold strings_Compare.f at h
 obtain rfl := Option.some.inj h; clear h
 have e61_ : ∀ (args : Array Value) (w : World), (callFunc 61 args).run Try.prog w = .ok (.enter 61 args) w := fun args w => enters_ Try.func61 (by kernel_rfl) rfl args w
 go_enter Try.func38, Try.ntmps38
 go_wp2_with (go_at_fn 61; refine (strings_Compare.bytes _ _ _).mono ?_; rintro e w' ⟨rfl, rfl⟩)
 go_ret
 first | exact ⟨rfl, ⟨0, rfl⟩⟩ | exact ⟨rfl, rfl⟩ | exact ⟨rfl, Below.refl _ _⟩

/-! ### elastic_List_1: function 35 -/
def elastic_List_1.f (k : Nat) (a0_0 : ByteArray) (a0_1 : Int) (a1_0 : ByteArray) (a1_1 : Int) : Option (Int) := (cmp_Compare_int.f a1_1 a0_1).bind fun t274 => ((strings_Compare.f a0_0 a1_0).bind fun t275 => ((cmp_Or_int.f k (([t274, t275] : List Int))).bind fun t279 => (some t279)))
theorem elastic_List_1.mono : ∀ a0 a1 a2 a3 k, LeO (elastic_List_1.f k a0 a1 a2 a3) (elastic_List_1.f (k + 1) a0 a1 a2 a3) := by
  intro a0 a1 a2 a3 k
  unfold elastic_List_1.f
  repeat' first | (with_reducible first | exact cmp_Or_int.mono _ _ | exact LeO.refl _ | exact LeO.none _ | refine LeO.ite ?_ ?_ | refine LeO.bind ?_ (fun _ => ?_)) | exact cmp_Or_int.mono _ _ | exact LeO.none _ | refine LeO.ite ?_ ?_ | refine LeO.bind ?_ (fun _ => ?_)
def elastic_List_1.T1 : Bool × List (List Nat × List Nat) := (true, [([], []), ([0], [0]), ([], []), ([2], [2]), ([1, 3], [1, 3]), ([], []), ([5], [5]), ([], []), ([7], [7]), ([6, 8, 4], [6, 8]), ([4, 9], [4, 9]), ([10, 9], [10]), ([11, 11, 0, 1, 2, 3, 4, 5, 6, 7, 8, 9, 10, 11], [11])])
def elastic_List_1.B1 : List Nat := [0, 1, 0, 4, 15, 0, 32, 0, 128, 511, 1023, 2047, 4095]
theorem elastic_List_1.tab1 : rtab .any (opsOf Try.f35 1) = elastic_List_1.T1 := by kernel_rfl
theorem elastic_List_1.bits1 : waitsOk elastic_List_1.T1.2 elastic_List_1.B1 = true := by kernel_rfl
set_option maxHeartbeats 80000000 in
set_option maxRecDepth 100000 in
theorem elastic_List_1.calls (k : Nat) (a0_0 : ByteArray) (a0_1 : Int) (a1_0 : ByteArray) (a1_1 : Int) (r : Int) (w : World) (h : elastic_List_1.f k a0_0 a0_1 a1_0 a1_1 = some r) :
    Calls Try.prog 35 #[.agg #[.string a0_0, .int .i64 a0_1], .agg #[.string a1_0, .int .i64 a1_1]] w fun e w' => e = .returned (.int .i64 r) ∧ Below w.heap.size w w' := by
 have hu68 := Try.underlying68; have HB := mk_ (Below.refl w.heap.size w); have H : ((cmp_Compare_int.f a1_1 a0_1).bind fun aE => ((strings_Compare.f a0_0 a1_0).bind fun aD => ((cmp_Or_int.f k (([aE, aD] : List Int))).bind fun aF => (some aF)))) = some r := h; clear h; replace H := Option.bind_eq_some_iff.mp H; obtain ⟨aE, aG, H⟩ := H; replace H : ((strings_Compare.f a0_0 a1_0).bind fun aD => ((cmp_Or_int.f k (([aE, aD] : List Int))).bind fun aF => (some aF))) = some r := H; have A3 := mk_ aG; clear aG; replace H := Option.bind_eq_some_iff.mp H; obtain ⟨aD, aH, H⟩ := H; replace H : ((cmp_Or_int.f k (([aE, aD] : List Int))).bind fun aF => (some aF)) = some r := H; have A4 := mk_ aH; clear aH; obtain ⟨y276, hy276⟩ : ∃ y_ : List Int, y_ = (([aE, aD] : List Int)) := ⟨_, rfl⟩
 replace H : ((cmp_Or_int.f k y276).bind fun aF => (some aF)) = some r := by first | (rw [hy276]; with_reducible exact H) | (have H2_ := (Option.bind_some _ _).symm.trans H; rw [hy276]; with_reducible exact H2_) | (have H2_ := (Option.bind_some _ _).symm.trans H; with_reducible exact H2_) | with_reducible exact H | (rw [hy276]; exact H) | exact H
 have aI := mk_ hy276; clear hy276; replace H := Option.bind_eq_some_iff.mp H; obtain ⟨aF, aJ, H⟩ := H; replace H : (some aF) = some r := H; have A5 := mk_ aJ; clear aJ; obtain rfl := Option.some.inj H
 go_enter Try.func35, Try.ntmps35
 try go_wp2_with (first | ((with_reducible refine gate_dst (N := 2) rfl ?_); refine box_event ?hg (N := 2) ?hd (cs := #[.string a0_0, .int .i64 a0_1]) (t := 68) ?hr ?_; (case hd => rfl); (case hg => rfl); (case hr => first | (go_simp; done) | (go_simp; rfl)); intro aK hg w6 hbox hb; have aA := mk_ (hbox); have aO := gx_ hg HB; have aP := gx_ hg HB; replace HB := bs_ HB hb; clear hb hbox hg) | ((with_reducible refine gate_dst (N := 3) rfl ?_); refine box_event ?hg (N := 3) ?hd (cs := #[.string a1_0, .int .i64 a1_1]) (t := 68) ?hr ?_; (case hd => rfl); (case hg => rfl); (case hr => first | (go_simp; done) | (go_simp; rfl)); intro aL hg w7 hbox hb; have aB := mk_ (hbox); have aQ := gx_ hg HB; have aR := gx_ hg HB; replace HB := bs_ HB hb; have aS := nx_ hg aA; have aT := ny_ hg aA; replace aA := bb_ aA hb; clear hb hbox hg))
 replace aA := bd_ aA; replace aB := bd_ aB; replace HB := mk_ (below_drew1 HB.out); refine start_ (n := 13) (S := fun w' => w'.cell? ⟨aL, 0, none⟩ = some (.string a1_0) ∧ w'.cell? ⟨aL, 1, none⟩ = some (.int .i64 a1_1) ∧ w'.cell? ⟨aK, 0, none⟩ = some (.string a0_0) ∧ w'.cell? ⟨aK, 1, none⟩ = some (.int .i64 a0_1)) (ds := []) (mB 13 0) (by kernel_rfl) rfl rfl ⟨bc_ aB 0, bc_ aB 1, bc_ aA 0, bc_ aA 1⟩ (fun hHeld => ?_); refine with_tabW elastic_List_1.tab1 elastic_List_1.bits1 (fun HT_ HW_ => ?_); generalize w7.drew = w8 at aA aB HB hHeld ⊢; refine pq_ 0 5 13 1 HT_ ?_
 refine pq_ 2 7 13 5 HT_ ?_
 refine pq_ 5 10 13 37 HT_ ?_
 refine pq_ 7 12 13 165 HT_ ?_
 refine tq_ 1 6 13 167 HT_ HW_ hHeld ?_
 refine tq_ 3 8 13 175 HT_ HW_ hHeld ?_
 refine tq_ 6 11 13 239 HT_ HW_ hHeld ?_
 refine tq_ 8 13 13 495 HT_ HW_ hHeld ?_
 refine one_ (i := 4) (N := some 9) (mB 13 511) rfl rfl (one_of HT_.out (by kernel_rfl)) (by decide) (fun K hK => ?_); refine goes_ Try.func37 (by kernel_rfl) rfl #[.int .i64 a1_1, .int .i64 a0_1] (by rfl) rfl rfl (by (try simp only [List.map_toArray, List.map_cons, List.map_nil]); first | done | rfl | (simp only [List.length_drop, List.length_take]; rfl)) ?_; with_reducible refine (cmp_Compare_int.calls a1_1 a0_1 aE _ A3.out).mono ?_
 rintro e w' ⟨rfl, ⟨nd, rfl⟩⟩; (try replace aB := mk_ (blk_drewN aB.out nd)); (try replace aA := mk_ (blk_drewN aA.out nd)); (try replace HB := mk_ (pw_below_drewN HB.out nd))
 (first | replace aC := mk_ (Kd.R_drewN aC.out nd) | replace aC := mk_ (Kd.S_drewN aC.out nd) | replace aC := mk_ (Kd.V_drewN aC.out nd) | skip)
 refine ⟨_, rfl, ?_⟩; refine hK.out _ _ ⟨bc_ aB 0, bc_ aB 1, bc_ aA 0, bc_ aA 1⟩ (fun hHeld => ?_); clear hK K; refine norm_ (a' := ?_) ?_ ?_; rotate_left
 ·show Act.put _ (some 9) _ = _
  simp only [Act.put, sa_, sb_, sc_, i64_w, i32_w]; rfl
 refine one_ (i := 9) (N := some 14) (mB 13 1023) rfl rfl (one_of HT_.out (by kernel_rfl)) (by decide) (fun K hK => ?_); refine goes_ Try.func38 (by kernel_rfl) rfl #[.string a0_0, .string a1_0] (by rfl) rfl rfl (by (try simp only [List.map_toArray, List.map_cons, List.map_nil]); first | done | rfl | (simp only [List.length_drop, List.length_take]; rfl)) ?_; with_reducible refine (strings_Compare.calls a0_0 a1_0 aD _ A4.out).mono ?_
 rintro e w' ⟨rfl, ⟨nd, rfl⟩⟩; (try replace aB := mk_ (blk_drewN aB.out nd)); (try replace aA := mk_ (blk_drewN aA.out nd)); (try replace HB := mk_ (pw_below_drewN HB.out nd))
 (first | replace aC := mk_ (Kd.R_drewN aC.out nd) | replace aC := mk_ (Kd.S_drewN aC.out nd) | replace aC := mk_ (Kd.V_drewN aC.out nd) | skip)
 refine ⟨_, rfl, ?_⟩; refine hK.out _ _ ⟨bc_ aB 0, bc_ aB 1, bc_ aA 0, bc_ aA 1⟩ (fun hHeld => ?_); clear hK K; refine norm_ (a' := ?_) ?_ ?_; rotate_left
 ·show Act.put _ (some 14) _ = _
  simp only [Act.put, sa_, sb_, sc_, i64_w, i32_w]; rfl
 refine one_ (i := 10) (N := some 15) (mB 13 2047) rfl rfl (one_of HT_.out (by kernel_rfl)) (by decide) (fun K hK => ?_); refine Kd.R_lit_step (Kd.int .i64) _ 3 ?hg (N := 15) ?hd (xs := ([aE, aD] : List Int)) (inner := [.int .i64 aE, .int .i64 aD]) (ok := fun _ => True) (okp := fun _ => True) ?hr ?hp (fun _ hk => hk) trivial (Below.refl _ _) (Nat.le_refl _) (by simp) ?_; (case hd => rfl); (case hg => rfl); (case hr => first | (go_simp; done) | (go_simp; rfl)); (case hp => exact (Reps.one (show Kd.M (Kd.int .i64) _ _ _ aE [.int .i64 aE] from rfl) (Reps.one (show Kd.M (Kd.int .i64) _ _ _ aD [.int .i64 aD] from rfl) (Reps.none _ _)))); intro aU w9 ho10 hb hg_ hnew_; clear hg_ hnew_
 (first | rw [← aI.out] at ho10 | (simp only [Int.reduceToNat] at ho10; rw [← aI.out] at ho10))
 have aC := mk_ (Kd.R_lower ho10 (below_size (bl_ HB))); replace aA := bb_ aA hb; replace aB := bb_ aB hb; replace HB := bs_ HB hb; clear hb ho10; obtain ⟨aM, aN, eo11⟩ := Kd.R_slice aC.out
 (first | subst eo11 | (injection eo11 with f1_ f2_ f3_; have f4_ := f1_.symm; have f5_ := f3_.symm; clear f1_ f2_ f3_; subst f4_; subst f5_))
 refine hK.out _ _ ⟨bc_ aB 0, bc_ aB 1, bc_ aA 0, bc_ aA 1⟩ (fun hHeld => ?_); clear hK K; refine norm_ (a' := ?_) ?_ ?_; rotate_left
 ·show Act.put _ (some 15) _ = _
  simp only [Act.put, sa_, sb_, sc_, i64_w, i32_w]; rfl
 refine one_ (i := 11) (N := some 16) (mB 13 4095) rfl rfl (one_of HT_.out (by kernel_rfl)) (by decide) (fun K hK => ?_); refine goes_ Try.func36 (by kernel_rfl) rfl #[.slice aM y276.length aN] (by rfl) rfl rfl (by (try simp only [List.map_toArray, List.map_cons, List.map_nil]); first | done | rfl | (simp only [List.length_drop, List.length_take]; rfl)) ?_; with_reducible refine (cmp_Or_int.calls k _ _ y276 aF _ ?side1 ?side2 A5.out).mono ?_
 (case side1 => exact ck_ (Kd.R_reads' aC.out).2.2); (case side2 => exact (Kd.R_reads' aC.out).2.1); rintro e w' ⟨rfl, ⟨nd, rfl⟩⟩; (try replace aB := mk_ (blk_drewN aB.out nd)); (try replace aA := mk_ (blk_drewN aA.out nd)); (try replace HB := mk_ (pw_below_drewN HB.out nd)); refine ⟨_, rfl, ?_⟩; refine hK.out _ _ ⟨bc_ aB 0, bc_ aB 1, bc_ aA 0, bc_ aA 1⟩ (fun hHeld => ?_); clear hK K; refine norm_ (a' := ?_) ?_ ?_; rotate_left
 ·show Act.put _ (some 16) _ = _
  simp only [Act.put, sa_, sb_, sc_, i64_w, i32_w]; rfl
 refine pq_ 12 4 13 8191 HT_ ?_
 refine done_ (done_of HT_.out (by kernel_rfl)) ?_
 try go_wp2
 go_ret; exact ⟨by first | rfl | (simp [*] <;> rfl), bl_ HB⟩

end Go.Proofs.Ytljmjjeghebdpaa.PElasticSeen
