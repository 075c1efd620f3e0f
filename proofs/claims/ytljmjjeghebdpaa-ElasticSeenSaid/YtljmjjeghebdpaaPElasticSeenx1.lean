/- The functions that a law uses, each as a plain function, with the proof that a call of the Go function comes to its answer. Condition of each: the arguments read as the data that it names, and the plain function has an answer. Written by a program of this session (standin.py). -/
import Derived.Test.YtljmjjeghebdpaaPElasticSeenx0
import Derived.Test.YtljmjjeghebdpaaShort
import Derived.Lib.SliceRun
import Derived.Test.YtljmjjeghebdpaaPressMore
namespace Go.Proofs.Ytljmjjeghebdpaa.PElasticSeen
open Go.RowKit Go.Proofs.YtljmjjeghebdpaaW.PrintWords Go.Proofs.YtljmjjeghebdpaaW.PrintLast Go.Proofs.YtljmjjeghebdpaaW.PrintMore Go.Proofs.Ytljmjjeghebdpaa.Short Go.Proofs.Ytljmjjeghebdpaa.Press Go.Proofs.Ytljmjjeghebdpaa.PressMore
attribute [local go_sem] max2_int min2_int max_two min_two max_three min_three max_four min_four   -- for this text's walks alone
set_option linter.unusedVariables false
set_option linter.unusedSimpArgs false

/-! ### slices_Min_int_int: function 65 -/
def slices_Min_int_int.l0 : Nat → List Int → Int → Int → Option (Int)
  | 0, _, _, _ => none
  | k + 1, x0, x3, x4 => if x4 < (x0.length : Int) then (if 0 ≤ x4 then (slices_Min_int_int.l0 k x0 (mn x3 (rd x0 x4)) (wrap64 (x4 + 1))) else (none)) else (some x3)
def slices_Min_int_int.f (k : Nat) (l0 : List Int) : Option (Int) := if 0 < (l0.length : Int) then (slices_Min_int_int.l0 k l0 (rd l0 0) 1) else (none)
theorem slices_Min_int_int.mono_l : ∀ k, (∀ y0 y1 y2, LeO (slices_Min_int_int.l0 k y0 y1 y2) (slices_Min_int_int.l0 (k + 1) y0 y1 y2))
  | 0 => fun _ _ _ r h => by simp [slices_Min_int_int.l0] at h
  | k + 1 => by
    have ih0 := slices_Min_int_int.mono_l k
    · intro y0 y1 y2
      unfold slices_Min_int_int.l0
      repeat' first | (with_reducible first | exact ih0 _ _ _ | exact LeO.refl _ | exact LeO.none _ | refine LeO.ite ?_ ?_ | refine LeO.bind ?_ (fun _ => ?_)) | exact ih0 _ _ _ | exact LeO.none _ | refine LeO.ite ?_ ?_ | refine LeO.bind ?_ (fun _ => ?_)
theorem slices_Min_int_int.mono : ∀ a0 k, LeO (slices_Min_int_int.f k a0) (slices_Min_int_int.f (k + 1) a0) := by
  intro a0 k
  have ih0 := slices_Min_int_int.mono_l k
  unfold slices_Min_int_int.f
  repeat' first | (with_reducible first | exact ih0 _ _ _ | exact LeO.refl _ | exact LeO.none _ | refine LeO.ite ?_ ?_ | refine LeO.bind ?_ (fun _ => ?_)) | exact ih0 _ _ _ | exact LeO.none _ | refine LeO.ite ?_ ?_ | refine LeO.bind ?_ (fun _ => ?_)
set_option maxHeartbeats 80000000 in
set_option maxRecDepth 100000 in
theorem slices_Min_int_int.calls (k : Nat) (A0 : Option Addr) (c0 : Nat) (l0 : List Int) (r : Int) (w : World) (hr0 : Kd.C (Kd.int .i64) w A0 l0.length l0) (hc0 : l0.length ≤ c0) (h : slices_Min_int_int.f k l0 = some r) :
    Calls Try.prog 65 #[.slice A0 l0.length c0] w fun e w' => e = .returned (.int .i64 r) ∧ Below w.heap.size w w' := by
 have HR0 := mk_ hr0; have HC0 := mk_ hc0; clear hr0 hc0; have HB := mk_ (Below.refl w.heap.size w); have H : (if 0 < (l0.length : Int) then (slices_Min_int_int.l0 k l0 (rd l0 0) 1) else (none)) = some r := h; clear h
 by_cases c2 : 0 < (l0.length : Int)
 ·rw [if_pos c2] at H; have aI : decide (0 < (l0.length : Int)) = true := decide_eq_true c2; have aJ : decide (0 < l0.length) = true := decide_eq_true (by omega); have aN : decide ((l0.length : Int) < 1) = false := decide_eq_false (by omega); have aO : decide (l0.length < 1) = false := decide_eq_false (by omega)
  have aP : ¬ (l0 = []) := fun h_ => by rw [h_] at c2; exact absurd c2 (by decide)
  clear c2; have H' := mk_ H; clear H; have aC : 0 ≤ (0 : Int) := (by omega); have aD : 0 < (l0.length : Int) := od_; obtain ⟨aK, e101, aE⟩ := Kd.at_int HR0.out 0 aC aD
  cases e101; have qi101 : (0 < l0.length) = True := eq_true (by omega); (try rw [show ((0 : Int)).toNat = 0 from rfl] at aE); (try rw [Addr.add_zero'] at aE); replace aC := eq_true aC; replace aD := eq_true aD
  go_enter Try.func65, Try.ntmps65
  go_wp2
  go_loopg [3, 4] k (fun kq v3 v4 w' => ∃ (aB : Int) (aA : Int), v3 = .int .i64 aB ∧ v4 = .int .i64 aA ∧ Aside0 (slices_Min_int_int.l0 kq l0 aB aA = some r) ∧ Aside0 (kq ≤ k) ∧ Aside0 (Below w.heap.size w w'))
  case atStart => exact ⟨(rd l0 0), (1), (by first | rfl | (simp; done) | (simp [*]; done)), (by first | rfl | (simp; done) | (simp [*]; done)), H', ⟨Nat.le_refl _⟩, ⟨bl_ HB⟩⟩
  case round =>
   clear H'; (try clear c2); (try clear aI); (try clear aJ); (try clear aE); (try clear aC); (try clear aD); obtain ⟨aB, aA, rfl, rfl, HA, HK1, HB⟩ := hrel
   cases gk with
   | zero => exact absurd HA.out (by simp [slices_Min_int_int.l0])
   | succ k1 =>
    have H := HA.out; clear HA; simp only [slices_Min_int_int.l0] at H
    by_cases c3 : aA < (l0.length : Int)
    ·rw [if_pos c3] at H; have aL : decide (aA < (l0.length : Int)) = true := decide_eq_true c3; clear c3
     by_cases c4 : 0 ≤ aA
     ·rw [if_pos c4] at H; have aQ : decide (0 ≤ aA) = true := decide_eq_true c4; clear c4; obtain ⟨ji5, hji5⟩ : ∃ j_ : Int, (mn aB (rd l0 aA)) = j_ := ⟨_, rfl⟩
      replace H : (slices_Min_int_int.l0 k1 l0 ji5 (wrap64 (aA + 1))) = some r := by first | (rw [hji5] at H; exact H) | (simp only [hji5] at H ⊢; exact H)
      have hji5_ : (if (rd l0 aA) < aB then (rd l0 aA) else aB) = ji5 := hji5; have H' := mk_ H; clear H; have aF : 0 ≤ (aA : Int) := od_; have aG : aA < (l0.length : Int) := od_; obtain ⟨aM, e102, aH⟩ := Kd.at_int HR0.out aA aF aG; obtain rfl : aK = aM := (by injection e102); (try replace aH := bt_ HB aH); replace aF := eq_true aF; replace aG := eq_true aG
      go_wp2
      go_roundg k1
      case measure => have := HK1.out; omega
      case rel => exact ⟨(ji5), (wrap64 (aA + 1)), (by first | rfl | (simp; done) | (simp only [← hji5] <;> (first | rfl | simp)) | (simp [*]; done)), (by first | rfl | (simp; done) | (simp [*]; done)), H', ⟨by have := HK1.out; omega⟩, ⟨bl_ HB⟩⟩
     ·rw [if_neg c4] at H; exact absurd H (by simp)
    ·rw [if_neg c3] at H; have aL : decide (aA < (l0.length : Int)) = false := decide_eq_false c3; clear c3; obtain rfl := Option.some.inj H
     go_wp2
     go_ret; exact ⟨by first | rfl | (simp [*] <;> rfl), bl_ HB⟩
 ·rw [if_neg c2] at H; exact absurd H (by simp)

/-! ### slices_Max_int_int: function 66 -/
def slices_Max_int_int.l0 : Nat → List Int → Int → Int → Option (Int)
  | 0, _, _, _ => none
  | k + 1, x0, x3, x4 => if x4 < (x0.length : Int) then (if 0 ≤ x4 then (slices_Max_int_int.l0 k x0 (mx x3 (rd x0 x4)) (wrap64 (x4 + 1))) else (none)) else (some x3)
def slices_Max_int_int.f (k : Nat) (l0 : List Int) : Option (Int) := if 0 < (l0.length : Int) then (slices_Max_int_int.l0 k l0 (rd l0 0) 1) else (none)
theorem slices_Max_int_int.mono_l : ∀ k, (∀ y0 y1 y2, LeO (slices_Max_int_int.l0 k y0 y1 y2) (slices_Max_int_int.l0 (k + 1) y0 y1 y2))
  | 0 => fun _ _ _ r h => by simp [slices_Max_int_int.l0] at h
  | k + 1 => by
    have ih0 := slices_Max_int_int.mono_l k
    · intro y0 y1 y2
      unfold slices_Max_int_int.l0
      repeat' first | (with_reducible first | exact ih0 _ _ _ | exact LeO.refl _ | exact LeO.none _ | refine LeO.ite ?_ ?_ | refine LeO.bind ?_ (fun _ => ?_)) | exact ih0 _ _ _ | exact LeO.none _ | refine LeO.ite ?_ ?_ | refine LeO.bind ?_ (fun _ => ?_)
theorem slices_Max_int_int.mono : ∀ a0 k, LeO (slices_Max_int_int.f k a0) (slices_Max_int_int.f (k + 1) a0) := by
  intro a0 k
  have ih0 := slices_Max_int_int.mono_l k
  unfold slices_Max_int_int.f
  repeat' first | (with_reducible first | exact ih0 _ _ _ | exact LeO.refl _ | exact LeO.none _ | refine LeO.ite ?_ ?_ | refine LeO.bind ?_ (fun _ => ?_)) | exact ih0 _ _ _ | exact LeO.none _ | refine LeO.ite ?_ ?_ | refine LeO.bind ?_ (fun _ => ?_)
set_option maxHeartbeats 80000000 in
set_option maxRecDepth 100000 in
theorem slices_Max_int_int.calls (k : Nat) (A0 : Option Addr) (c0 : Nat) (l0 : List Int) (r : Int) (w : World) (hr0 : Kd.C (Kd.int .i64) w A0 l0.length l0) (hc0 : l0.length ≤ c0) (h : slices_Max_int_int.f k l0 = some r) :
    Calls Try.prog 66 #[.slice A0 l0.length c0] w fun e w' => e = .returned (.int .i64 r) ∧ Below w.heap.size w w' := by
 have HR0 := mk_ hr0; have HC0 := mk_ hc0; clear hr0 hc0; have HB := mk_ (Below.refl w.heap.size w); have H : (if 0 < (l0.length : Int) then (slices_Max_int_int.l0 k l0 (rd l0 0) 1) else (none)) = some r := h; clear h
 by_cases c2 : 0 < (l0.length : Int)
 ·rw [if_pos c2] at H; have aI : decide (0 < (l0.length : Int)) = true := decide_eq_true c2; have aJ : decide (0 < l0.length) = true := decide_eq_true (by omega); have aN : decide ((l0.length : Int) < 1) = false := decide_eq_false (by omega); have aO : decide (l0.length < 1) = false := decide_eq_false (by omega)
  have aP : ¬ (l0 = []) := fun h_ => by rw [h_] at c2; exact absurd c2 (by decide)
  clear c2; have H' := mk_ H; clear H; have aC : 0 ≤ (0 : Int) := (by omega); have aD : 0 < (l0.length : Int) := od_; obtain ⟨aK, e103, aE⟩ := Kd.at_int HR0.out 0 aC aD
  cases e103; have qi103 : (0 < l0.length) = True := eq_true (by omega); (try rw [show ((0 : Int)).toNat = 0 from rfl] at aE); (try rw [Addr.add_zero'] at aE); replace aC := eq_true aC; replace aD := eq_true aD
  go_enter Try.func66, Try.ntmps66
  go_wp2
  go_loopg [3, 4] k (fun kq v3 v4 w' => ∃ (aB : Int) (aA : Int), v3 = .int .i64 aB ∧ v4 = .int .i64 aA ∧ Aside0 (slices_Max_int_int.l0 kq l0 aB aA = some r) ∧ Aside0 (kq ≤ k) ∧ Aside0 (Below w.heap.size w w'))
  case atStart => exact ⟨(rd l0 0), (1), (by first | rfl | (simp; done) | (simp [*]; done)), (by first | rfl | (simp; done) | (simp [*]; done)), H', ⟨Nat.le_refl _⟩, ⟨bl_ HB⟩⟩
  case round =>
   clear H'; (try clear c2); (try clear aI); (try clear aJ); (try clear aE); (try clear aC); (try clear aD); obtain ⟨aB, aA, rfl, rfl, HA, HK1, HB⟩ := hrel
   cases gk with
   | zero => exact absurd HA.out (by simp [slices_Max_int_int.l0])
   | succ k1 =>
    have H := HA.out; clear HA; simp only [slices_Max_int_int.l0] at H
    by_cases c3 : aA < (l0.length : Int)
    ·rw [if_pos c3] at H; have aL : decide (aA < (l0.length : Int)) = true := decide_eq_true c3; clear c3
     by_cases c4 : 0 ≤ aA
     ·rw [if_pos c4] at H; have aQ : decide (0 ≤ aA) = true := decide_eq_true c4; clear c4; obtain ⟨ji5, hji5⟩ : ∃ j_ : Int, (mx aB (rd l0 aA)) = j_ := ⟨_, rfl⟩
      replace H : (slices_Max_int_int.l0 k1 l0 ji5 (wrap64 (aA + 1))) = some r := by first | (rw [hji5] at H; exact H) | (simp only [hji5] at H ⊢; exact H)
      have hji5_ : (if aB < (rd l0 aA) then (rd l0 aA) else aB) = ji5 := hji5; have H' := mk_ H; clear H; have aF : 0 ≤ (aA : Int) := od_; have aG : aA < (l0.length : Int) := od_; obtain ⟨aM, e104, aH⟩ := Kd.at_int HR0.out aA aF aG; obtain rfl : aK = aM := (by injection e104); (try replace aH := bt_ HB aH); replace aF := eq_true aF; replace aG := eq_true aG
      go_wp2
      go_roundg k1
      case measure => have := HK1.out; omega
      case rel => exact ⟨(ji5), (wrap64 (aA + 1)), (by first | rfl | (simp; done) | (simp only [← hji5] <;> (first | rfl | simp)) | (simp [*]; done)), (by first | rfl | (simp; done) | (simp [*]; done)), H', ⟨by have := HK1.out; omega⟩, ⟨bl_ HB⟩⟩
     ·rw [if_neg c4] at H; exact absurd H (by simp)
    ·rw [if_neg c3] at H; have aL : decide (aA < (l0.length : Int)) = false := decide_eq_false c3; clear c3; obtain rfl := Option.some.inj H
     go_wp2
     go_ret; exact ⟨by first | rfl | (simp [*] <;> rfl), bl_ HB⟩
 ·rw [if_neg c2] at H; exact absurd H (by simp)

end Go.Proofs.Ytljmjjeghebdpaa.PElasticSeen
