/- The functions that a law uses, each as a plain function, with the proof that a call of the Go function comes to its answer. Condition of each: the arguments read as the data that it names, and the plain function has an answer. Written by a program of this session (standin.py). -/
import Derived.Test.YteendbdmkijpkaaPLeastMergesx0
import Derived.Test.YteendbdmkijpkaaPLeastMergesx3
import Derived.Test.YteendbdmkijpkaaPLeastMergesx4
import Derived.Test.YteendbdmkijpkaaShort
import Derived.Lib.SliceRun
import Derived.Shelf.Abstract
import Derived.StillTailTactics
import Derived.Test.YteendbdmkijpkaaPress
namespace Go.Proofs.Yteendbdmkijpkaa.PLeastMerges
open Go.RowKit Go.Proofs.YteendbdmkijpkaaW.PrintWords Go.Proofs.YteendbdmkijpkaaW.PrintLast Go.Proofs.YteendbdmkijpkaaW.PrintMore Go.Proofs.Yteendbdmkijpkaa.Short Go.Proofs.Yteendbdmkijpkaa.Press
attribute [local go_sem] max2_int min2_int max_two min_two max_three min_three max_four min_four   -- for this text's walks alone
set_option linter.unusedVariables false
set_option linter.unusedSimpArgs false

/-! ### rillmeterref11_Small: function 14 -/
def rillmeterref11_Small.l0 : Nat → List (List Int) → Int → Option (Bool)
  | 0, _, _ => none
  | k + 1, x0, x3 => if x3 < (x0.length : Int) then (if 0 ≤ x3 then (if ((rd_L1 x0 x3).length : Int) > 300 then (some false) else (rillmeterref11_Small.l0 k x0 (wrap64 (x3 + 1)))) else (none)) else (some (decide ((x0.length : Int) < 20)))
def rillmeterref11_Small.f (k : Nat) (l0 : List (List Int)) : Option (Bool) := rillmeterref11_Small.l0 k l0 0
theorem rillmeterref11_Small.mono_l : ∀ k, (∀ y0 y1, LeO (rillmeterref11_Small.l0 k y0 y1) (rillmeterref11_Small.l0 (k + 1) y0 y1))
  | 0 => fun _ _ r h => by simp [rillmeterref11_Small.l0] at h
  | k + 1 => by
    have ih0 := rillmeterref11_Small.mono_l k
    · intro y0 y1
      unfold rillmeterref11_Small.l0
      repeat' first
      | (with_reducible exact ih0 _ _)
      | (with_reducible exact LeO.refl _)
      | (with_reducible exact LeO.none _)
      | (with_reducible refine LeO.ite ?_ ?_)
      | (with_reducible refine LeO.bind ?_ (fun _ => ?_))
      | exact ih0 _ _
      | exact LeO.none _
      | refine LeO.ite ?_ ?_
      | refine LeO.bind ?_ (fun _ => ?_)
theorem rillmeterref11_Small.mono : ∀ a0 k, LeO (rillmeterref11_Small.f k a0) (rillmeterref11_Small.f (k + 1) a0) := by
  intro a0 k
  have ih0 := rillmeterref11_Small.mono_l k
  unfold rillmeterref11_Small.f
  repeat' first
      | (with_reducible exact ih0 _ _)
      | (with_reducible exact LeO.refl _)
      | (with_reducible exact LeO.none _)
      | (with_reducible refine LeO.ite ?_ ?_)
      | (with_reducible refine LeO.bind ?_ (fun _ => ?_))
      | exact ih0 _ _
      | exact LeO.none _
      | refine LeO.ite ?_ ?_
      | refine LeO.bind ?_ (fun _ => ?_)
set_option maxHeartbeats 80000000 in
set_option maxRecDepth 100000 in
theorem rillmeterref11_Small.calls (k : Nat) (A0 : Option Addr) (c0 : Nat) (l0 : List (List Int)) (r : Bool) (w : World) (hr0 : Kd.C (Kd.slice 3 (Kd.int .i64)) w A0 l0.length l0) (hc0 : l0.length ≤ c0) (h : rillmeterref11_Small.f k l0 = some r) :
    Calls Try.prog 14 #[.slice A0 l0.length c0] w fun e w' => e = .returned (.bool r) ∧ Drawn0 w w' := by
 have HR0 := Aside0.mk hr0; have HC0 := Aside0.mk hc0; clear hr0 hc0; have H : (rillmeterref11_Small.l0 k l0 0) = some r := h; clear h; have H' := Aside0.mk H; clear H
 go_enter Try.func14, Try.ntmps14
 go_wp2
 go_loopg [3] k (fun kq v3 w' => ∃ (x3_1 : Int), v3 = .int .i64 x3_1 ∧ Aside0 (rillmeterref11_Small.l0 kq l0 x3_1 = some r) ∧ Aside0 (kq ≤ k) ∧ Drawn0 w w')
 case atStart => exact ⟨(0), (by first | rfl | (simp; done) | (simp [*]; done)), H', ⟨Nat.le_refl _⟩, by repeat (first | exact Drawn0.refl _ | apply Drawn0.step)⟩
 case round =>
  clear H'; (try clear c1); obtain ⟨x3_1, rfl, HA, HK1, ⟨m1, rfl⟩⟩ := hrel
  cases gk with
  | zero => exact absurd HA.out (by simp [rillmeterref11_Small.l0])
  | succ k1 =>
   have H := HA.out; clear HA; simp only [rillmeterref11_Small.l0] at H
   by_cases c2 : x3_1 < (l0.length : Int)
   ·rw [if_pos c2] at H; have c2b0 : decide (x3_1 < (l0.length : Int)) = true := decide_eq_true c2; clear c2
    by_cases c3 : 0 ≤ x3_1
    ·rw [if_pos c3] at H; have c3b0 : decide (0 ≤ x3_1) = true := decide_eq_true c3; clear c3
     by_cases c4 : ((rd_L1 l0 x3_1).length : Int) > 300
     ·rw [if_pos c4] at H; have c4b0 : decide (300 < ((rd_L1 l0 x3_1).length : Int)) = true := decide_eq_true c4; have c4b1 : decide (300 < (rd_L1 l0 x3_1).length) = true := decide_eq_true (by omega); clear c4; obtain rfl := Option.some.inj H; have p218 : 0 ≤ (x3_1 : Int) := of_decide_eq_true (by first | (with_reducible assumption) | assumption); have q218 : x3_1 < (l0.length : Int) := of_decide_eq_true (by first | (with_reducible assumption) | assumption); obtain ⟨ad218, A218_0, c218_0, e218, hx218_0, hl218_0, hi218_0⟩ := at_L1 HR0.out x3_1 p218 q218
      cases e218; have HR218_0 := Aside0.mk hi218_0; have HC218_0 := Aside0.mk hl218_0; clear hi218_0 hl218_0; replace p218 := eq_true p218; replace q218 := eq_true q218
      go_wp2
      go_ret; exact ⟨by first | rfl | (simp; done) | (simp [*]; done), by repeat (first | exact Drawn0.refl _ | apply Drawn0.step)⟩
     ·rw [if_neg c4] at H; have c4b0 : decide (300 < ((rd_L1 l0 x3_1).length : Int)) = false := decide_eq_false c4; have c4b1 : decide (300 < (rd_L1 l0 x3_1).length) = false := decide_eq_false (by omega); clear c4; have H' := Aside0.mk H; clear H; have p218 : 0 ≤ (x3_1 : Int) := of_decide_eq_true (by first | (with_reducible assumption) | assumption); have q218 : x3_1 < (l0.length : Int) := of_decide_eq_true (by first | (with_reducible assumption) | assumption); obtain ⟨ad218, A218_0, c218_0, e218, hx218_0, hl218_0, hi218_0⟩ := at_L1 HR0.out x3_1 p218 q218
      cases e218; have HR218_0 := Aside0.mk hi218_0; have HC218_0 := Aside0.mk hl218_0; clear hi218_0 hl218_0; replace p218 := eq_true p218; replace q218 := eq_true q218
      go_wp2
      go_roundg k1
      case measure => have := HK1.out; omega
      case rel => exact ⟨(wrap64 (x3_1 + 1)), (by first | rfl | (simp; done) | (simp [*]; done)), H', ⟨by have := HK1.out; omega⟩, by repeat (first | exact Drawn0.refl _ | apply Drawn0.step)⟩
    ·rw [if_neg c3] at H; exact absurd H (by simp)
   ·rw [if_neg c2] at H; have c2b0 : decide (x3_1 < (l0.length : Int)) = false := decide_eq_false c2; clear c2; obtain rfl := Option.some.inj H
    go_wp2
    go_ret; exact ⟨by first | rfl | (simp; done) | (simp [*]; done), by repeat (first | exact Drawn0.refl _ | apply Drawn0.step)⟩

/-! ### least_Merge: function 23 -/
mutual
def least_Merge.j0 : Nat → Bool → Int → Int → List (List Int) → List (List Int) → Option (Int × Int × (List (List Int)) × Int)
  | 0, _, _, _, _, _ => none
  | k + 1, x52, x220000, x220001, x220002, b => if x52 = true then (some (0, 0, ([] : List (List Int)), 1)) else ((least_clone.f k x220000 x220001 x220002).bind fun bt226 => (least_Merge.l0 k b bt226.2.2 (bt226.2.2.length : Int) 0 bt226.1 bt226.2.1))
def least_Merge.l0 : Nat → List (List Int) → List (List Int) → Int → Int → Int → Int → Option (Int × Int × (List (List Int)) × Int)
  | 0, _, _, _, _, _, _ => none
  | k + 1, b, cur, n, x59, x220000, x220001 => if x59 < n then (if 0 ≤ x59 then (if x59 < (cur.length : Int) then (least_Merge.l1 k b cur n x59 ((rd_L1 cur x59).length : Int) 0 x220000 x220001) else (none)) else (none)) else (some (x220000, x220001, cur, 0))
def least_Merge.l1 : Nat → List (List Int) → List (List Int) → Int → Int → Int → Int → Int → Int → Option (Int × Int × (List (List Int)) × Int)
  | 0, _, _, _, _, _, _, _, _ => none
  | k + 1, b, cur, n, x59, x65, x66, x220000, x220001 => if x66 < x65 then (if 0 ≤ x66 then (if x59 < (b.length : Int) then (if x66 < ((rd_L1 b x59).length : Int) then (least_Merge.l1 k b (cur.set (x59 : Int).toNat ((rd_L1 cur x59).set (x66 : Int).toNat (mn (wrap64 ((rd (rd_L1 cur x59) x66) + (rd (rd_L1 b x59) x66))) x220001))) n x59 x65 (wrap64 (x66 + 1)) x220000 x220001) else (none)) else (none)) else (none)) else (least_Merge.l0 k b cur n (wrap64 (x59 + 1)) x220000 x220001)
end
def least_Merge.f (k : Nat) (a0_0 : Int) (a0_1 : Int) (l0_2 : List (List Int)) (a1_0 : Int) (a1_1 : Int) (l1_2 : List (List Int)) : Option (Int × Int × (List (List Int)) × Int) := (least_Right.f k a0_0 a0_1 l0_2).bind fun t222 => (if t222 = true then ((least_Right.f k a1_0 a1_1 l1_2).bind fun t223 => (if t223 = true then (if a0_0 = a1_0 then (if a0_1 = a1_1 then (if (l0_2.length : Int) = (l1_2.length : Int) then (if 0 < (l0_2.length : Int) then (if 0 < (l1_2.length : Int) then (least_Merge.j0 k (((rd_L1 l0_2 0).length : Int) != ((rd_L1 l1_2 0).length : Int)) a0_0 a0_1 l0_2 l1_2) else (none)) else (none)) else (least_Merge.j0 k true a0_0 a0_1 l0_2 l1_2)) else (least_Merge.j0 k true a0_0 a0_1 l0_2 l1_2)) else (least_Merge.j0 k true a0_0 a0_1 l0_2 l1_2)) else (least_Merge.j0 k true a0_0 a0_1 l0_2 l1_2))) else (least_Merge.j0 k true a0_0 a0_1 l0_2 l1_2))
theorem least_Merge.mono_l : ∀ k, (∀ y0 y1 y2 y3 y4, LeO (least_Merge.j0 k y0 y1 y2 y3 y4) (least_Merge.j0 (k + 1) y0 y1 y2 y3 y4)) ∧ (∀ y0 y1 y2 y3 y4 y5, LeO (least_Merge.l0 k y0 y1 y2 y3 y4 y5) (least_Merge.l0 (k + 1) y0 y1 y2 y3 y4 y5)) ∧ (∀ y0 y1 y2 y3 y4 y5 y6 y7, LeO (least_Merge.l1 k y0 y1 y2 y3 y4 y5 y6 y7) (least_Merge.l1 (k + 1) y0 y1 y2 y3 y4 y5 y6 y7))
  | 0 => ⟨fun _ _ _ _ _ r h => by simp [least_Merge.j0] at h, fun _ _ _ _ _ _ r h => by simp [least_Merge.l0] at h, fun _ _ _ _ _ _ _ _ r h => by simp [least_Merge.l1] at h⟩
  | k + 1 => by
    obtain ⟨ih0, ih1, ih2⟩ := least_Merge.mono_l k
    refine ⟨?_, ?_, ?_⟩
    · intro y0 y1 y2 y3 y4
      unfold least_Merge.j0
      repeat' first
      | (with_reducible exact least_clone.mono _ _ _ _)
      | (with_reducible exact ih1 _ _ _ _ _ _)
      | (with_reducible exact ih2 _ _ _ _ _ _ _ _)
      | (with_reducible exact LeO.refl _)
      | (with_reducible exact LeO.none _)
      | (with_reducible refine LeO.ite ?_ ?_)
      | (with_reducible refine LeO.bind ?_ (fun _ => ?_))
      | exact least_clone.mono _ _ _ _
      | exact ih1 _ _ _ _ _ _
      | exact ih2 _ _ _ _ _ _ _ _
      | exact LeO.none _
      | refine LeO.ite ?_ ?_
      | refine LeO.bind ?_ (fun _ => ?_)
    · intro y0 y1 y2 y3 y4 y5
      unfold least_Merge.l0
      repeat' first
      | (with_reducible exact least_clone.mono _ _ _ _)
      | (with_reducible exact ih1 _ _ _ _ _ _)
      | (with_reducible exact ih2 _ _ _ _ _ _ _ _)
      | (with_reducible exact LeO.refl _)
      | (with_reducible exact LeO.none _)
      | (with_reducible refine LeO.ite ?_ ?_)
      | (with_reducible refine LeO.bind ?_ (fun _ => ?_))
      | exact least_clone.mono _ _ _ _
      | exact ih1 _ _ _ _ _ _
      | exact ih2 _ _ _ _ _ _ _ _
      | exact LeO.none _
      | refine LeO.ite ?_ ?_
      | refine LeO.bind ?_ (fun _ => ?_)
    · intro y0 y1 y2 y3 y4 y5 y6 y7
      unfold least_Merge.l1
      repeat' first
      | (with_reducible exact least_clone.mono _ _ _ _)
      | (with_reducible exact ih1 _ _ _ _ _ _)
      | (with_reducible exact ih2 _ _ _ _ _ _ _ _)
      | (with_reducible exact LeO.refl _)
      | (with_reducible exact LeO.none _)
      | (with_reducible refine LeO.ite ?_ ?_)
      | (with_reducible refine LeO.bind ?_ (fun _ => ?_))
      | exact least_clone.mono _ _ _ _
      | exact ih1 _ _ _ _ _ _
      | exact ih2 _ _ _ _ _ _ _ _
      | exact LeO.none _
      | refine LeO.ite ?_ ?_
      | refine LeO.bind ?_ (fun _ => ?_)
theorem least_Merge.mono : ∀ a0 a1 a2 a3 a4 a5 k, LeO (least_Merge.f k a0 a1 a2 a3 a4 a5) (least_Merge.f (k + 1) a0 a1 a2 a3 a4 a5) := by
  intro a0 a1 a2 a3 a4 a5 k
  obtain ⟨ih0, ih1, ih2⟩ := least_Merge.mono_l k
  unfold least_Merge.f
  repeat' first
      | (with_reducible exact ih0 _ _ _ _ _)
      | (with_reducible exact ih1 _ _ _ _ _ _)
      | (with_reducible exact ih2 _ _ _ _ _ _ _ _)
      | (with_reducible exact least_Right.mono _ _ _ _)
      | (with_reducible exact least_clone.mono _ _ _ _)
      | (with_reducible exact LeO.refl _)
      | (with_reducible exact LeO.none _)
      | (with_reducible refine LeO.ite ?_ ?_)
      | (with_reducible refine LeO.bind ?_ (fun _ => ?_))
      | exact ih0 _ _ _ _ _
      | exact ih1 _ _ _ _ _ _
      | exact ih2 _ _ _ _ _ _ _ _
      | exact least_Right.mono _ _ _ _
      | exact least_clone.mono _ _ _ _
      | exact LeO.none _
      | refine LeO.ite ?_ ?_
      | refine LeO.bind ?_ (fun _ => ?_)
def least_Merge.T1 : Bool × List (List Nat × List Nat) := (true, [([], []), ([0], [0]), ([1], [1]), ([2, 1], [2]), ([3], [3]), ([4, 3, 3], [3, 4]), ([5, 3], [3, 5]), ([3, 6], [3, 6]), ([7, 5], [7]), ([8], [8]), ([9, 8], [8, 9]), ([8], [8]), ([11, 8], [8, 11]), ([10, 12, 8], [8, 10, 12]), ([8, 13], [8, 13]), ([14, 8], [14]), ([15], [15]), ([16, 15], [15, 16]), ([15], [15]), ([18, 15], [15, 18]), ([17, 19, 15], [15, 17, 19]), ([15, 20], [15, 20]), ([21, 15], [21]), ([22], [22]), ([23, 22], [22, 23]), ([24, 22], [22, 24]), ([22], [22]), ([26, 22], [22, 26]), ([27, 22], [22, 27]), ([25, 28, 22], [22, 25, 28]), ([22, 29], [22, 29]), ([30, 22], [30]), ([31], [31]), ([32, 31], [31, 32]), ([33, 31], [31, 33]), ([34, 31], [31, 34]), ([35, 31], [31, 35]), ([31], [31]), ([37, 31], [31, 37]), ([38, 31], [31, 38]), ([39, 31], [31, 39]), ([40, 31], [31, 40]), ([36, 41, 31], [31, 36, 41]), ([31, 42], [31, 42])])
def least_Merge.B1 : List Nat := [0, 1, 3, 7, 15, 31, 63, 127, 255, 511, 1023, 511, 2559, 8191, 16383, 32767, 65535, 131071, 65535, 327679, 1048575, 2097151, 4194303, 8388607, 16777215, 33554431, 8388607, 75497471, 209715199, 536870911, 1073741823, 2147483647, 4294967295, 8589934591, 17179869183, 34359738367, 68719476735, 4294967295, 141733920767, 416611827711, 966367641599, 2065879269375, 4398046511103, 8796093022207]
theorem least_Merge.tab1 : rtab .any (opsOf Try.f23 1) = least_Merge.T1 := by kernel_rfl
theorem least_Merge.bits1 : waitsOk least_Merge.T1.2 least_Merge.B1 = true := by kernel_rfl

set_option maxHeartbeats 80000000 in
set_option maxRecDepth 100000 in
theorem least_Merge.calls (k : Nat) (a0_0 : Int) (a0_1 : Int) (A0_2 : Option Addr) (c0_2 : Nat) (l0_2 : List (List Int)) (a1_0 : Int) (a1_1 : Int) (A1_2 : Option Addr) (c1_2 : Nat) (l1_2 : List (List Int)) (r1 : Int) (r2 : Int) (r3 : List (List Int)) (r4 : Int) (w : World) (hr0_2 : Kd.C (Kd.slice 3 (Kd.int .i64)) w A0_2 l0_2.length l0_2) (hc0_2 : l0_2.length ≤ c0_2) (hr1_2 : Kd.C (Kd.slice 3 (Kd.int .i64)) w A1_2 l1_2.length l1_2) (hc1_2 : l1_2.length ≤ c1_2) (h : least_Merge.f k a0_0 a0_1 l0_2 a1_0 a1_1 l1_2 = some (r1, r2, r3, r4)) :
    Calls Try.prog 23 #[.agg #[.int .u64 a0_0, .int .i64 a0_1, .slice A0_2 l0_2.length c0_2], .agg #[.int .u64 a1_0, .int .i64 a1_1, .slice A1_2 l1_2.length c1_2]] w fun e w' => ∃ v2_ : Value, e = .returned (.tuple #[.agg #[.int .u64 r1, .int .i64 r2, v2_], .int .i64 r4]) ∧ Kd.S (Kd.slice 3 (Kd.int .i64)) 33 w' w.heap.size (fun _ => True) v2_ r3 ∧ Below w.heap.size w w' := by
 have hu25 := Try.underlying25; have HR0_2 := Aside0.mk hr0_2; have HC0_2 := Aside0.mk hc0_2; clear hr0_2 hc0_2; have HR1_2 := Aside0.mk hr1_2; have HC1_2 := Aside0.mk hc1_2; clear hr1_2 hc1_2; have HB := Aside0.mk (Below.refl w.heap.size w); have H : ((least_Right.f k a0_0 a0_1 l0_2).bind fun t222 => (if t222 = true then ((least_Right.f k a1_0 a1_1 l1_2).bind fun t223 => (if t223 = true then (if a0_0 = a1_0 then (if a0_1 = a1_1 then (if (l0_2.length : Int) = (l1_2.length : Int) then (if 0 < (l0_2.length : Int) then (if 0 < (l1_2.length : Int) then (least_Merge.j0 k (((rd_L1 l0_2 0).length : Int) != ((rd_L1 l1_2 0).length : Int)) a0_0 a0_1 l0_2 l1_2) else (none)) else (none)) else (least_Merge.j0 k true a0_0 a0_1 l0_2 l1_2)) else (least_Merge.j0 k true a0_0 a0_1 l0_2 l1_2)) else (least_Merge.j0 k true a0_0 a0_1 l0_2 l1_2)) else (least_Merge.j0 k true a0_0 a0_1 l0_2 l1_2))) else (least_Merge.j0 k true a0_0 a0_1 l0_2 l1_2))) = some (r1, r2, r3, r4) := h; clear h; have HC3 := Aside0.mk H; clear H
 go_enter Try.func23, Try.ntmps23
 go_upto_region 1 with (first | ((with_reducible refine gate_dst (N := 2) rfl ?_); (try (refine gate_guard (by rfl) ?_; dsimp only)); refine box_event ?hg (N := 2) ?hd (cs := #[.int .u64 a0_0, .int .i64 a0_1, .slice A0_2 l0_2.length c0_2]) (t := 25) ?hr ?_; (case hd => rfl); (case hg => rfl); (case hr => first | (go_simp; done) | (go_simp; rfl)); intro gb219 hg w4 hbox hb; have n0_ := Aside0.mk (below_step (bl_ HB) hb); have n1_ := Aside0.mk (hbox); have n2_ := Aside0.mk (gl_ hg HB); have n3_ := Aside0.mk (gl_ hg HB); clear HB; have HB := n0_; have BK219 := n1_; have GW219 := n2_; have GE219 := n3_; clear n0_ n1_ n2_ n3_; clear hb hbox hg) | ((with_reducible refine gate_dst (N := 3) rfl ?_); (try (refine gate_guard (by rfl) ?_; dsimp only)); refine box_event ?hg (N := 3) ?hd (cs := #[.int .u64 a1_0, .int .i64 a1_1, .slice A1_2 l1_2.length c1_2]) (t := 25) ?hr ?_; (case hd => rfl); (case hg => rfl); (case hr => first | (go_simp; done) | (go_simp; rfl)); intro gb220 hg w5 hbox hb; have n0_ := Aside0.mk (blk_below (bk_ BK219) hb); have n1_ := Aside0.mk (below_step (bl_ HB) hb); have n2_ := Aside0.mk (hbox); have n3_ := Aside0.mk (gl_ hg HB); have n4_ := Aside0.mk (gl_ hg HB); have n5_ := Aside0.mk (nl_ hg BK219); have n6_ := Aside0.mk (ng_ hg BK219); clear BK219; clear HB; have BK219 := n0_; have HB := n1_; have BK220 := n2_; have GW220 := n3_; have GE220 := n4_; have NB219_220 := n5_; have NB220_219 := n6_; clear n0_ n1_ n2_ n3_ n4_ n5_ n6_; clear hb hbox hg) | ((with_reducible refine gate_dst (N := 4) rfl ?_); (try (refine gate_guard (by rfl) ?_; dsimp only)); refine box_event ?hg (N := 4) ?hd (cs := #[.int .u64 0, .int .i64 0, .slice none 0 0]) (t := 25) ?hr ?_; (case hd => rfl); (case hg => rfl); (case hr => first | (go_simp; done) | (go_simp; rfl)); intro gb221 hg w6 hbox hb; have n0_ := Aside0.mk (blk_below (bk_ BK219) hb); have n1_ := Aside0.mk (blk_below (bk_ BK220) hb); have n2_ := Aside0.mk (below_step (bl_ HB) hb); have n3_ := Aside0.mk (hbox); have n4_ := Aside0.mk (gl_ hg HB); have n5_ := Aside0.mk (gl_ hg HB); have n6_ := Aside0.mk (nl_ hg BK219); have n7_ := Aside0.mk (ng_ hg BK219); have n8_ := Aside0.mk (nl_ hg BK220); have n9_ := Aside0.mk (ng_ hg BK220); clear BK219; clear BK220; clear HB; have BK219 := n0_; have BK220 := n1_; have HB := n2_; have BK221 := n3_; have GW221 := n4_; have GE221 := n5_; have NB219_221 := n6_; have NB221_219 := n7_; have NB220_221 := n8_; have NB221_220 := n9_; clear n0_ n1_ n2_ n3_ n4_ n5_ n6_ n7_ n8_ n9_; clear hb hbox hg))
 (try simp only [Act.put, sa_, sb_, sc_])
 go_cut [52] (fun v52 wc => ∃ (kq : Nat) (x52_2 : Bool), v52 = .bool x52_2 ∧ Aside0 (least_Merge.j0 kq x52_2 a0_0 a0_1 l0_2 l1_2 = some (r1, r2, r3, r4)) ∧ Aside0 (kq ≤ k) ∧ Aside0 (wc.heap[gb219]? = some (.cells #[.int .u64 a0_0, .int .i64 a0_1, (.slice A0_2 l0_2.length c0_2)] 25 (0, 0))) ∧ Aside0 (wc.heap[gb220]? = some (.cells #[.int .u64 a1_0, .int .i64 a1_1, (.slice A1_2 l1_2.length c1_2)] 25 (0, 0))) ∧ Aside0 (wc.heap[gb221]? = some (.cells #[.int .u64 0, .int .i64 0, (.slice none 0 0)] 25 (0, 0))) ∧ Aside0 (Below w.heap.size w wc))
 case first =>
  have H := HC3.out; clear HC3; replace H := Option.bind_eq_some_iff.mp H; obtain ⟨t222, A70, H⟩ := H; replace H : (if t222 = true then ((least_Right.f k a1_0 a1_1 l1_2).bind fun t223 => (if t223 = true then (if a0_0 = a1_0 then (if a0_1 = a1_1 then (if (l0_2.length : Int) = (l1_2.length : Int) then (if 0 < (l0_2.length : Int) then (if 0 < (l1_2.length : Int) then (least_Merge.j0 k (((rd_L1 l0_2 0).length : Int) != ((rd_L1 l1_2 0).length : Int)) a0_0 a0_1 l0_2 l1_2) else (none)) else (none)) else (least_Merge.j0 k true a0_0 a0_1 l0_2 l1_2)) else (least_Merge.j0 k true a0_0 a0_1 l0_2 l1_2)) else (least_Merge.j0 k true a0_0 a0_1 l0_2 l1_2)) else (least_Merge.j0 k true a0_0 a0_1 l0_2 l1_2))) else (least_Merge.j0 k true a0_0 a0_1 l0_2 l1_2)) = some (r1, r2, r3, r4) := H; have A7 := Aside0.mk A70; clear A70
  by_cases c8 : t222 = true
  ·subst c8
   have H1 : ((least_Right.f k a1_0 a1_1 l1_2).bind fun t223 => (if t223 = true then (if a0_0 = a1_0 then (if a0_1 = a1_1 then (if (l0_2.length : Int) = (l1_2.length : Int) then (if 0 < (l0_2.length : Int) then (if 0 < (l1_2.length : Int) then (least_Merge.j0 k (((rd_L1 l0_2 0).length : Int) != ((rd_L1 l1_2 0).length : Int)) a0_0 a0_1 l0_2 l1_2) else (none)) else (none)) else (least_Merge.j0 k true a0_0 a0_1 l0_2 l1_2)) else (least_Merge.j0 k true a0_0 a0_1 l0_2 l1_2)) else (least_Merge.j0 k true a0_0 a0_1 l0_2 l1_2)) else (least_Merge.j0 k true a0_0 a0_1 l0_2 l1_2))) = some (r1, r2, r3, r4) := by rw [if_pos rfl] at H; exact H
   clear H; have H := H1; clear H1; replace H := Option.bind_eq_some_iff.mp H; obtain ⟨t223, A90, H⟩ := H; replace H : (if t223 = true then (if a0_0 = a1_0 then (if a0_1 = a1_1 then (if (l0_2.length : Int) = (l1_2.length : Int) then (if 0 < (l0_2.length : Int) then (if 0 < (l1_2.length : Int) then (least_Merge.j0 k (((rd_L1 l0_2 0).length : Int) != ((rd_L1 l1_2 0).length : Int)) a0_0 a0_1 l0_2 l1_2) else (none)) else (none)) else (least_Merge.j0 k true a0_0 a0_1 l0_2 l1_2)) else (least_Merge.j0 k true a0_0 a0_1 l0_2 l1_2)) else (least_Merge.j0 k true a0_0 a0_1 l0_2 l1_2)) else (least_Merge.j0 k true a0_0 a0_1 l0_2 l1_2)) = some (r1, r2, r3, r4) := H; have A9 := Aside0.mk A90; clear A90
   by_cases c10 : t223 = true
   ·subst c10
    have H1 : (if a0_0 = a1_0 then (if a0_1 = a1_1 then (if (l0_2.length : Int) = (l1_2.length : Int) then (if 0 < (l0_2.length : Int) then (if 0 < (l1_2.length : Int) then (least_Merge.j0 k (((rd_L1 l0_2 0).length : Int) != ((rd_L1 l1_2 0).length : Int)) a0_0 a0_1 l0_2 l1_2) else (none)) else (none)) else (least_Merge.j0 k true a0_0 a0_1 l0_2 l1_2)) else (least_Merge.j0 k true a0_0 a0_1 l0_2 l1_2)) else (least_Merge.j0 k true a0_0 a0_1 l0_2 l1_2)) = some (r1, r2, r3, r4) := by rw [if_pos rfl] at H; exact H
    clear H; have H := H1; clear H1
    by_cases c11 : a0_0 = a1_0
    ·rw [if_pos c11] at H; have c11b0 : (a0_0 == a1_0) = true := beq_iff_eq.mpr c11; have c11b1 : (a0_0 != a1_0) = false := bne_eq_false_iff_eq.mpr c11; clear c11
     (first | rw [c11b0] | (simp only [i64_w, i32_w]; rw [c11b0]) | skip)
     by_cases c12 : a0_1 = a1_1
     ·rw [if_pos c12] at H; have c12b0 : (a0_1 == a1_1) = true := beq_iff_eq.mpr c12; have c12b1 : (a0_1 != a1_1) = false := bne_eq_false_iff_eq.mpr c12; clear c12
      by_cases c13 : (l0_2.length : Int) = (l1_2.length : Int)
      ·rw [if_pos c13] at H; have c13b0 : ((l0_2.length : Int) == (l1_2.length : Int)) = true := beq_iff_eq.mpr c13; have c13b1 : ((l0_2.length : Int) != (l1_2.length : Int)) = false := bne_eq_false_iff_eq.mpr c13
       have c13b2 : (l0_2.length == l1_2.length) = true := by first | simpa using c13 | (simp at c13 ⊢; omega)
       clear c13
       by_cases c14 : 0 < (l0_2.length : Int)
       ·rw [if_pos c14] at H; have c14b0 : decide (0 < (l0_2.length : Int)) = true := decide_eq_true c14; have c14b1 : decide (0 < l0_2.length) = true := decide_eq_true (by omega); clear c14
        by_cases c15 : 0 < (l1_2.length : Int)
        ·rw [if_pos c15] at H; have c15b0 : decide (0 < (l1_2.length : Int)) = true := decide_eq_true c15; have c15b1 : decide (0 < l1_2.length) = true := decide_eq_true (by omega); clear c15; have H' := Aside0.mk H; clear H
         try go_wp2
         replace BK219 := Aside0.mk (blk_drew BK219.out); replace BK220 := Aside0.mk (blk_drew BK220.out); replace BK221 := Aside0.mk (blk_drew BK221.out); replace HB := Aside0.mk (below_drew1 HB.out); have p224 : 0 ≤ (0 : Int) := (by omega); have q224 : 0 < (l0_2.length : Int) := of_decide_eq_true (by first | (with_reducible assumption) | assumption); obtain ⟨ad224, A224_0, c224_0, e224, hx224_0, hl224_0, hi224_0⟩ := at_L1 HR0_2.out 0 p224 q224; have hw224_0 := hx224_0; (try rw [show ((0 : Int)).toNat = 0 from rfl] at hw224_0); (try rw [show 0 * 1 = 0 from rfl] at hw224_0); (try rw [Addr.add_zero'] at hw224_0)
         cases e224; have qi224 : (0 < l0_2.length) = True := eq_true (by omega); (try rw [show ((0 : Int)).toNat = 0 from rfl] at hx224_0); (try rw [Addr.add_zero'] at hx224_0); replace hx224_0 := (HB.out.cell (World.block_lt_of_cell? w _ hx224_0)).trans hx224_0; have HR224_0 := Aside0.mk hi224_0; have HC224_0 := Aside0.mk hl224_0; clear hi224_0 hl224_0; replace p224 := eq_true p224; replace q224 := eq_true q224; have p225 : 0 ≤ (0 : Int) := (by omega); have q225 : 0 < (l1_2.length : Int) := of_decide_eq_true (by first | (with_reducible assumption) | assumption); obtain ⟨ad225, A225_0, c225_0, e225, hx225_0, hl225_0, hi225_0⟩ := at_L1 HR1_2.out 0 p225 q225; have hw225_0 := hx225_0; (try rw [show ((0 : Int)).toNat = 0 from rfl] at hw225_0); (try rw [show 0 * 1 = 0 from rfl] at hw225_0); (try rw [Addr.add_zero'] at hw225_0)
         cases e225; have qi225 : (0 < l1_2.length) = True := eq_true (by omega); (try rw [show ((0 : Int)).toNat = 0 from rfl] at hx225_0); (try rw [Addr.add_zero'] at hx225_0); replace hx225_0 := (HB.out.cell (World.block_lt_of_cell? w _ hx225_0)).trans hx225_0; have HR225_0 := Aside0.mk hi225_0; have HC225_0 := Aside0.mk hl225_0; clear hi225_0 hl225_0; replace p225 := eq_true p225; replace q225 := eq_true q225; refine start_ (n := 44) (S := fun w' => w'.cell? ⟨gb219, 0, none⟩ = some (.int .u64 a0_0) ∧ w'.cell? ⟨gb219, 1, none⟩ = some (.int .i64 a0_1) ∧ w'.cell? ⟨gb219, 2, none⟩ = some (.slice (some ad224) l0_2.length c0_2) ∧ w'.cell? ⟨gb220, 0, none⟩ = some (.int .u64 a1_0) ∧ w'.cell? ⟨gb220, 1, none⟩ = some (.int .i64 a1_1) ∧ w'.cell? ⟨gb220, 2, none⟩ = some (.slice (some ad225) l1_2.length c1_2) ∧ w'.cell? ad224 = some (.slice A224_0 (rd_L1 l0_2 0).length c224_0) ∧ w'.cell? ad225 = some (.slice A225_0 (rd_L1 l1_2 0).length c225_0)) (ds := []) (mB 44 0) (by kernel_rfl) rfl rfl ⟨(blk_cell BK219.out 0).trans rfl, (blk_cell BK219.out 1).trans rfl, (blk_cell BK219.out 2).trans rfl, (blk_cell BK220.out 0).trans rfl, (blk_cell BK220.out 1).trans rfl, (blk_cell BK220.out 2).trans rfl, ((HB.out.cell (World.block_lt_of_cell? w _ hw224_0)).trans hw224_0), ((HB.out.cell (World.block_lt_of_cell? w _ hw225_0)).trans hw225_0)⟩ (fun hHeld => ?_); refine with_tabW least_Merge.tab1 least_Merge.bits1 (fun HT_ HW_ => ?_)
         generalize w6.drew = w16 at BK219 BK220 BK221 HB HR224_0 HR225_0 hx224_0 hx225_0 hHeld ⊢; refine take_ (i := 0) (N := some 9) (v := ?_) (a' := ?_) (mB 44 1) rfl rfl (take_ofW HT_.out HW_.out (by kernel_rfl)) (fun _ _ _ h => h) (Or.inl ⟨by rfl, ?_⟩) hHeld ?_ ?_; rotate_left
         ·rintro w' ⟨s0, s1, s2, s3, s4, s5, s6, s7⟩; go_simp; with_reducible rfl
         rotate_left
         ·simp only [Act.put, sa_, sb_, sc_, i64_w, i32_w]; rfl
         refine one_ (i := 1) (N := some 10) (mB 44 3) rfl rfl (one_of HT_.out (by kernel_rfl)) (by decide) (fun K hK => ?_); refine goes_ Try.func17 (by kernel_rfl) rfl #[.agg #[.int .u64 a0_0, .int .i64 a0_1, .slice (some ad224) l0_2.length c0_2]] (by rfl) rfl rfl (by (try simp only [List.map_toArray, List.map_cons, List.map_nil]); first | done | rfl | (simp only [List.length_drop, List.length_take]; rfl)) ?_; with_reducible refine (least_Right.calls k a0_0 a0_1 _ _ l0_2 true _ ?side1 ?side2 A7.out).mono ?_; (case side1 => repeat (first | exact (Kd.C_below HR0_2.out HB.out) | (with_reducible refine Kd.C_alloc ?_ _) | (with_reducible refine Kd.C_drewN ?_ _) | (with_reducible refine Kd.C_drew ?_))); (case side2 => exact HC0_2.out); rintro e w17 ⟨rfl, hb⟩; refine ⟨_, rfl, ?_⟩; replace BK219 := Aside0.mk (blk_below (bk_ BK219) hb); replace BK220 := Aside0.mk (blk_below (bk_ BK220) hb); replace BK221 := Aside0.mk (blk_below (bk_ BK221) hb); replace HB := Aside0.mk (below_step (bl_ HB) hb); (try clear hb); refine hK.out _ _ ⟨(blk_cell BK219.out 0).trans rfl, (blk_cell BK219.out 1).trans rfl, (blk_cell BK219.out 2).trans rfl, (blk_cell BK220.out 0).trans rfl, (blk_cell BK220.out 1).trans rfl, (blk_cell BK220.out 2).trans rfl, ((HB.out.cell (World.block_lt_of_cell? w _ hw224_0)).trans hw224_0), ((HB.out.cell (World.block_lt_of_cell? w _ hw225_0)).trans hw225_0)⟩ (fun hHeld => ?_); clear hK K; refine norm_ (a' := ?_) ?_ ?_; rotate_left
         ·show Act.put _ (some 10) _ = _
          simp only [Act.put, sa_, sb_, sc_, i64_w, i32_w]; rfl
         refine pw_ 2 11 (v := ?_) (a' := ?_) (mB 44 7) rfl rfl HT_ (by kernel_rfl) (fun _ _ _ h => h) ?_ ?_ ?_; rotate_left
         ·intro w'; go_simp; with_reducible rfl
         rotate_left
         ·simp only [Act.put, sa_, sb_, sc_, i64_w, i32_w]; rfl
         refine pw_ 3 12 (v := ?_) (a' := ?_) (mB 44 15) rfl rfl HT_ (by kernel_rfl) (fun _ _ _ h => h) ?_ ?_ ?_; rotate_left
         ·intro w'; go_simp; with_reducible rfl
         rotate_left
         ·simp only [Act.put, sa_, sb_, sc_, i64_w, i32_w]; rfl
         refine take_ (i := 4) (N := some 13) (v := ?_) (a' := ?_) (mB 44 31) rfl rfl (take_ofW HT_.out HW_.out (by kernel_rfl)) (fun _ _ _ h => h) (Or.inl ⟨by rfl, ?_⟩) hHeld ?_ ?_; rotate_left
         ·rintro w' ⟨s0, s1, s2, s3, s4, s5, s6, s7⟩; go_simp; with_reducible rfl
         rotate_left
         ·simp only [Act.put, sa_, sb_, sc_, i64_w, i32_w]; rfl
         refine one_ (i := 5) (N := some 14) (mB 44 63) rfl rfl (one_of HT_.out (by kernel_rfl)) (by decide) (fun K hK => ?_); refine goes_ Try.func17 (by kernel_rfl) rfl #[.agg #[.int .u64 a1_0, .int .i64 a1_1, .slice (some ad225) l1_2.length c1_2]] (by rfl) rfl rfl (by (try simp only [List.map_toArray, List.map_cons, List.map_nil]); first | done | rfl | (simp only [List.length_drop, List.length_take]; rfl)) ?_; with_reducible refine (least_Right.calls k a1_0 a1_1 _ _ l1_2 true _ ?side1 ?side2 A9.out).mono ?_; (case side1 => repeat (first | exact (Kd.C_below HR1_2.out HB.out) | (with_reducible refine Kd.C_alloc ?_ _) | (with_reducible refine Kd.C_drewN ?_ _) | (with_reducible refine Kd.C_drew ?_))); (case side2 => exact HC1_2.out); rintro e w18 ⟨rfl, hb⟩; refine ⟨_, rfl, ?_⟩; replace BK219 := Aside0.mk (blk_below (bk_ BK219) hb); replace BK220 := Aside0.mk (blk_below (bk_ BK220) hb); replace BK221 := Aside0.mk (blk_below (bk_ BK221) hb); replace HB := Aside0.mk (below_step (bl_ HB) hb); (try clear hb); refine hK.out _ _ ⟨(blk_cell BK219.out 0).trans rfl, (blk_cell BK219.out 1).trans rfl, (blk_cell BK219.out 2).trans rfl, (blk_cell BK220.out 0).trans rfl, (blk_cell BK220.out 1).trans rfl, (blk_cell BK220.out 2).trans rfl, ((HB.out.cell (World.block_lt_of_cell? w _ hw224_0)).trans hw224_0), ((HB.out.cell (World.block_lt_of_cell? w _ hw225_0)).trans hw225_0)⟩ (fun hHeld => ?_); clear hK K; refine norm_ (a' := ?_) ?_ ?_; rotate_left
         ·show Act.put _ (some 14) _ = _
          simp only [Act.put, sa_, sb_, sc_, i64_w, i32_w]; rfl
         refine pw_ 6 15 (v := ?_) (a' := ?_) (mB 44 127) rfl rfl HT_ (by kernel_rfl) (fun _ _ _ h => h) ?_ ?_ ?_; rotate_left
         ·intro w'; go_simp; with_reducible rfl
         rotate_left
         ·simp only [Act.put, sa_, sb_, sc_, i64_w, i32_w]; rfl
         refine pw_ 7 16 (v := ?_) (a' := ?_) (mB 44 255) rfl rfl HT_ (by kernel_rfl) (fun _ _ _ h => h) ?_ ?_ ?_; rotate_left
         ·intro w'; go_simp; with_reducible rfl
         rotate_left
         ·simp only [Act.put, sa_, sb_, sc_, i64_w, i32_w]; rfl
         refine pw_ 8 17 (v := ?_) (a' := ?_) (mB 44 511) rfl rfl HT_ (by kernel_rfl) (fun _ _ _ h => h) ?_ ?_ ?_; rotate_left
         ·intro w'; go_simp; with_reducible rfl
         rotate_left
         ·simp only [Act.put, sa_, sb_, sc_, i64_w, i32_w]; rfl
         refine pw_ 9 18 (v := ?_) (a' := ?_) (mB 44 1023) rfl rfl HT_ (by kernel_rfl) (fun _ _ _ h => h) ?_ ?_ ?_; rotate_left
         ·intro w'; go_simp; with_reducible rfl
         rotate_left
         ·simp only [Act.put, sa_, sb_, sc_, i64_w, i32_w]; rfl
         refine pw_ 11 20 (v := ?_) (a' := ?_) (mB 44 3071) rfl rfl HT_ (by kernel_rfl) (fun _ _ _ h => h) ?_ ?_ ?_; rotate_left
         ·intro w'; go_simp; with_reducible rfl
         rotate_left
         ·simp only [Act.put, sa_, sb_, sc_, i64_w, i32_w]; rfl
         refine take_ (i := 10) (N := some 19) (v := ?_) (a' := ?_) (mB 44 4095) rfl rfl (take_ofW HT_.out HW_.out (by kernel_rfl)) (fun _ _ _ h => h) (Or.inl ⟨by rfl, ?_⟩) hHeld ?_ ?_; rotate_left
         ·rintro w' ⟨s0, s1, s2, s3, s4, s5, s6, s7⟩; go_simp; with_reducible rfl
         rotate_left
         ·simp only [Act.put, sa_, sb_, sc_, i64_w, i32_w]; rfl
         refine take_ (i := 12) (N := some 21) (v := ?_) (a' := ?_) (mB 44 8191) rfl rfl (take_ofW HT_.out HW_.out (by kernel_rfl)) (fun _ _ _ h => h) (Or.inl ⟨by rfl, ?_⟩) hHeld ?_ ?_; rotate_left
         ·rintro w' ⟨s0, s1, s2, s3, s4, s5, s6, s7⟩; go_simp; with_reducible rfl
         rotate_left
         ·simp only [Act.put, sa_, sb_, sc_, i64_w, i32_w]; rfl
         refine pw_ 13 22 (v := ?_) (a' := ?_) (mB 44 16383) rfl rfl HT_ (by kernel_rfl) (fun _ _ _ h => h) ?_ ?_ ?_; rotate_left
         ·intro w'; go_simp; with_reducible rfl
         rotate_left
         ·simp only [Act.put, sa_, sb_, sc_, i64_w, i32_w]; rfl
         refine pw_ 14 23 (v := ?_) (a' := ?_) (mB 44 32767) rfl rfl HT_ (by kernel_rfl) (fun _ _ _ h => h) ?_ ?_ ?_; rotate_left
         ·intro w'; go_simp; with_reducible rfl
         rotate_left
         ·simp only [Act.put, sa_, sb_, sc_, i64_w, i32_w]; rfl
         refine pw_ 15 24 (v := ?_) (a' := ?_) (mB 44 65535) rfl rfl HT_ (by kernel_rfl) (fun _ _ _ h => h) ?_ ?_ ?_; rotate_left
         ·intro w'; go_simp; with_reducible rfl
         rotate_left
         ·simp only [Act.put, sa_, sb_, sc_, i64_w, i32_w]; rfl
         refine pw_ 16 25 (v := ?_) (a' := ?_) (mB 44 131071) rfl rfl HT_ (by kernel_rfl) (fun _ _ _ h => h) ?_ ?_ ?_; rotate_left
         ·intro w'; go_simp; with_reducible rfl
         rotate_left
         ·simp only [Act.put, sa_, sb_, sc_, i64_w, i32_w]; rfl
         refine pw_ 18 27 (v := ?_) (a' := ?_) (mB 44 393215) rfl rfl HT_ (by kernel_rfl) (fun _ _ _ h => h) ?_ ?_ ?_; rotate_left
         ·intro w'; go_simp; with_reducible rfl
         rotate_left
         ·simp only [Act.put, sa_, sb_, sc_, i64_w, i32_w]; rfl
         refine take_ (i := 17) (N := some 26) (v := ?_) (a' := ?_) (mB 44 524287) rfl rfl (take_ofW HT_.out HW_.out (by kernel_rfl)) (fun _ _ _ h => h) (Or.inl ⟨by rfl, ?_⟩) hHeld ?_ ?_; rotate_left
         ·rintro w' ⟨s0, s1, s2, s3, s4, s5, s6, s7⟩; go_simp; with_reducible rfl
         rotate_left
         ·simp only [Act.put, sa_, sb_, sc_, i64_w, i32_w]; rfl
         refine take_ (i := 19) (N := some 28) (v := ?_) (a' := ?_) (mB 44 1048575) rfl rfl (take_ofW HT_.out HW_.out (by kernel_rfl)) (fun _ _ _ h => h) (Or.inl ⟨by rfl, ?_⟩) hHeld ?_ ?_; rotate_left
         ·rintro w' ⟨s0, s1, s2, s3, s4, s5, s6, s7⟩; go_simp; with_reducible rfl
         rotate_left
         ·simp only [Act.put, sa_, sb_, sc_, i64_w, i32_w]; rfl
         refine pw_ 20 29 (v := ?_) (a' := ?_) (mB 44 2097151) rfl rfl HT_ (by kernel_rfl) (fun _ _ _ h => h) ?_ ?_ ?_; rotate_left
         ·intro w'; go_simp; with_reducible rfl
         rotate_left
         ·simp only [Act.put, sa_, sb_, sc_, i64_w, i32_w]; rfl
         refine pw_ 21 30 (v := ?_) (a' := ?_) (mB 44 4194303) rfl rfl HT_ (by kernel_rfl) (fun _ _ _ h => h) ?_ ?_ ?_; rotate_left
         ·intro w'; go_simp; with_reducible rfl
         rotate_left
         ·simp only [Act.put, sa_, sb_, sc_, i64_w, i32_w]; rfl
         refine pw_ 22 31 (v := ?_) (a' := ?_) (mB 44 8388607) rfl rfl HT_ (by kernel_rfl) (fun _ _ _ h => h) ?_ ?_ ?_; rotate_left
         ·intro w'; go_simp; with_reducible rfl
         rotate_left
         ·simp only [Act.put, sa_, sb_, sc_, i64_w, i32_w]; rfl
         refine pw_ 23 32 (v := ?_) (a' := ?_) (mB 44 16777215) rfl rfl HT_ (by kernel_rfl) (fun _ _ _ h => h) ?_ ?_ ?_; rotate_left
         ·intro w'; go_simp; with_reducible rfl
         rotate_left
         ·simp only [Act.put, sa_, sb_, sc_, i64_w, i32_w]; rfl
         refine pw_ 26 35 (v := ?_) (a' := ?_) (mB 44 83886079) rfl rfl HT_ (by kernel_rfl) (fun _ _ _ h => h) ?_ ?_ ?_; rotate_left
         ·intro w'; go_simp; with_reducible rfl
         rotate_left
         ·simp only [Act.put, sa_, sb_, sc_, i64_w, i32_w]; rfl
         refine take_ (i := 24) (N := some 33) (v := ?_) (a' := ?_) (mB 44 100663295) rfl rfl (take_ofW HT_.out HW_.out (by kernel_rfl)) (fun _ _ _ h => h) (Or.inl ⟨by rfl, ?_⟩) hHeld ?_ ?_; rotate_left
         ·rintro w' ⟨s0, s1, s2, s3, s4, s5, s6, s7⟩; go_simp; with_reducible rfl
         rotate_left
         ·simp only [Act.put, sa_, sb_, sc_, i64_w, i32_w]; rfl
         refine pw_ 25 34 (v := ?_) (a' := ?_) (mB 44 134217727) rfl rfl HT_ (by kernel_rfl) (fun _ _ _ h => h) ?_ ?_ ?_; rotate_left
         ·intro w'; go_simp; with_reducible rfl
         rotate_left
         ·simp only [Act.put, sa_, sb_, sc_, i64_w, i32_w]; rfl
         refine take_ (i := 27) (N := some 36) (v := ?_) (a' := ?_) (mB 44 268435455) rfl rfl (take_ofW HT_.out HW_.out (by kernel_rfl)) (fun _ _ _ h => h) (Or.inl ⟨by rfl, ?_⟩) hHeld ?_ ?_; rotate_left
         ·rintro w' ⟨s0, s1, s2, s3, s4, s5, s6, s7⟩; go_simp; with_reducible rfl
         rotate_left
         ·simp only [Act.put, sa_, sb_, sc_, i64_w, i32_w]; rfl
         refine pw_ 28 37 (v := ?_) (a' := ?_) (mB 44 536870911) rfl rfl HT_ (by kernel_rfl) (fun _ _ _ h => h) ?_ ?_ ?_; rotate_left
         ·intro w'; go_simp; with_reducible rfl
         rotate_left
         ·simp only [Act.put, sa_, sb_, sc_, i64_w, i32_w]; rfl
         refine pw_ 29 38 (v := ?_) (a' := ?_) (mB 44 1073741823) rfl rfl HT_ (by kernel_rfl) (fun _ _ _ h => h) ?_ ?_ ?_; rotate_left
         ·intro w'; go_simp; with_reducible rfl
         rotate_left
         ·simp only [Act.put, sa_, sb_, sc_, i64_w, i32_w]; rfl
         refine pw_ 30 39 (v := ?_) (a' := ?_) (mB 44 2147483647) rfl rfl HT_ (by kernel_rfl) (fun _ _ _ h => h) ?_ ?_ ?_; rotate_left
         ·intro w'; go_simp; with_reducible rfl
         rotate_left
         ·simp only [Act.put, sa_, sb_, sc_, i64_w, i32_w]; rfl
         refine pw_ 31 40 (v := ?_) (a' := ?_) (mB 44 4294967295) rfl rfl HT_ (by kernel_rfl) (fun _ _ _ h => h) ?_ ?_ ?_; rotate_left
         ·intro w'; go_simp; with_reducible rfl
         rotate_left
         ·simp only [Act.put, sa_, sb_, sc_, i64_w, i32_w]; rfl
         refine pw_ 32 41 (v := ?_) (a' := ?_) (mB 44 8589934591) rfl rfl HT_ (by kernel_rfl) (fun _ _ _ h => h) ?_ ?_ ?_; rotate_left
         ·intro w'; go_simp; with_reducible rfl
         rotate_left
         ·simp only [Act.put, sa_, sb_, sc_, i64_w, i32_w]; rfl
         refine pw_ 37 46 (v := ?_) (a' := ?_) (mB 44 146028888063) rfl rfl HT_ (by kernel_rfl) (fun _ _ _ h => h) ?_ ?_ ?_; rotate_left
         ·intro w'; go_simp; with_reducible rfl
         rotate_left
         ·simp only [Act.put, sa_, sb_, sc_, i64_w, i32_w]; rfl
         refine take_ (i := 33) (N := some 42) (v := ?_) (a' := ?_) (mB 44 154618822655) rfl rfl (take_ofW HT_.out HW_.out (by kernel_rfl)) (fun _ _ _ h => h) (Or.inl ⟨by rfl, ?_⟩) hHeld ?_ ?_; rotate_left
         ·rintro w' ⟨s0, s1, s2, s3, s4, s5, s6, s7⟩; go_simp; with_reducible rfl
         rotate_left
         ·simp only [Act.put, sa_, sb_, sc_, i64_w, i32_w]; rfl
         refine pw_ 34 43 (v := ?_) (a' := ?_) (mB 44 171798691839) rfl rfl HT_ (by kernel_rfl) (fun _ _ _ h => h) ?_ ?_ ?_; rotate_left
         ·intro w'; go_simp; with_reducible rfl
         rotate_left
         ·simp only [Act.put, sa_, sb_, sc_, i64_w, i32_w]; rfl
         refine take_ (i := 35) (N := some 44) (v := ?_) (a' := ?_) (mB 44 206158430207) rfl rfl (take_ofW HT_.out HW_.out (by kernel_rfl)) (fun _ _ _ h => h) (Or.inl ⟨by rfl, ?_⟩) hHeld ?_ ?_; rotate_left
         ·rintro w' ⟨s0, s1, s2, s3, s4, s5, s6, s7⟩; go_simp; with_reducible rfl
         rotate_left
         ·simp only [Act.put, sa_, sb_, sc_, i64_w, i32_w]; rfl
         refine pw_ 36 45 (v := ?_) (a' := ?_) (mB 44 274877906943) rfl rfl HT_ (by kernel_rfl) (fun _ _ _ h => h) ?_ ?_ ?_; rotate_left
         ·intro w'; go_simp; with_reducible rfl
         rotate_left
         ·simp only [Act.put, sa_, sb_, sc_, i64_w, i32_w]; rfl
         refine take_ (i := 38) (N := some 47) (v := ?_) (a' := ?_) (mB 44 549755813887) rfl rfl (take_ofW HT_.out HW_.out (by kernel_rfl)) (fun _ _ _ h => h) (Or.inl ⟨by rfl, ?_⟩) hHeld ?_ ?_; rotate_left
         ·rintro w' ⟨s0, s1, s2, s3, s4, s5, s6, s7⟩; go_simp; with_reducible rfl
         rotate_left
         ·simp only [Act.put, sa_, sb_, sc_, i64_w, i32_w]; rfl
         refine pw_ 39 48 (v := ?_) (a' := ?_) (mB 44 1099511627775) rfl rfl HT_ (by kernel_rfl) (fun _ _ _ h => h) ?_ ?_ ?_; rotate_left
         ·intro w'; go_simp; with_reducible rfl
         rotate_left
         ·simp only [Act.put, sa_, sb_, sc_, i64_w, i32_w]; rfl
         refine take_ (i := 40) (N := some 49) (v := ?_) (a' := ?_) (mB 44 2199023255551) rfl rfl (take_ofW HT_.out HW_.out (by kernel_rfl)) (fun _ _ _ h => h) (Or.inl ⟨by rfl, ?_⟩) hHeld ?_ ?_; rotate_left
         ·rintro w' ⟨s0, s1, s2, s3, s4, s5, s6, s7⟩; go_simp; with_reducible rfl
         rotate_left
         ·simp only [Act.put, sa_, sb_, sc_, i64_w, i32_w]; rfl
         refine pw_ 41 50 (v := ?_) (a' := ?_) (mB 44 4398046511103) rfl rfl HT_ (by kernel_rfl) (fun _ _ _ h => h) ?_ ?_ ?_; rotate_left
         ·intro w'; go_simp; with_reducible rfl
         rotate_left
         ·simp only [Act.put, sa_, sb_, sc_, i64_w, i32_w]; rfl
         refine pw_ 42 51 (v := ?_) (a' := ?_) (mB 44 8796093022207) rfl rfl HT_ (by kernel_rfl) (fun _ _ _ h => h) ?_ ?_ ?_; rotate_left
         ·intro w'; go_simp; with_reducible rfl
         rotate_left
         ·simp only [Act.put, sa_, sb_, sc_, i64_w, i32_w]; rfl
         refine pw_ 43 52 (v := ?_) (a' := ?_) (mB 44 17592186044415) rfl rfl HT_ (by kernel_rfl) (fun _ _ _ h => h) ?_ ?_ ?_; rotate_left
         ·intro w'; go_simp; with_reducible rfl
         rotate_left
         ·simp only [Act.put, sa_, sb_, sc_, i64_w, i32_w]; rfl
         refine done_ (done_of HT_.out (by kernel_rfl)) ?_
         try go_wp2
         go_meet
         case rel => exact ⟨_, ((((rd_L1 l0_2 0).length : Int) != ((rd_L1 l1_2 0).length : Int))), (by first | rfl | (simp; done) | (simp [*]; done)), H', ⟨by first | omega | exact Nat.le_refl _⟩, ⟨bk_ BK219⟩, ⟨bk_ BK220⟩, ⟨bk_ BK221⟩, ⟨bl_ HB⟩⟩
        ·rw [if_neg c15] at H; exact absurd H (by simp)
       ·rw [if_neg c14] at H; exact absurd H (by simp)
      ·rw [if_neg c13] at H; have c13b0 : ((l0_2.length : Int) == (l1_2.length : Int)) = false := beq_eq_false_iff_ne.mpr c13; have c13b1 : ((l0_2.length : Int) != (l1_2.length : Int)) = true := bne_iff_ne.mpr c13
       have c13b2 : (l0_2.length == l1_2.length) = false := by first | simpa using c13 | (simp at c13 ⊢; omega)
       have H' := Aside0.mk H; clear H
       try go_wp2
       replace BK219 := Aside0.mk (blk_drew BK219.out); replace BK220 := Aside0.mk (blk_drew BK220.out); replace BK221 := Aside0.mk (blk_drew BK221.out); replace HB := Aside0.mk (below_drew1 HB.out); refine start_ (n := 44) (S := fun w' => w'.cell? ⟨gb219, 0, none⟩ = some (.int .u64 a0_0) ∧ w'.cell? ⟨gb219, 1, none⟩ = some (.int .i64 a0_1) ∧ w'.cell? ⟨gb219, 2, none⟩ = some (.slice A0_2 l0_2.length c0_2) ∧ w'.cell? ⟨gb220, 0, none⟩ = some (.int .u64 a1_0) ∧ w'.cell? ⟨gb220, 1, none⟩ = some (.int .i64 a1_1) ∧ w'.cell? ⟨gb220, 2, none⟩ = some (.slice A1_2 l1_2.length c1_2)) (ds := []) (mB 44 0) (by kernel_rfl) rfl rfl ⟨(blk_cell BK219.out 0).trans rfl, (blk_cell BK219.out 1).trans rfl, (blk_cell BK219.out 2).trans rfl, (blk_cell BK220.out 0).trans rfl, (blk_cell BK220.out 1).trans rfl, (blk_cell BK220.out 2).trans rfl⟩ (fun hHeld => ?_); refine with_tabW least_Merge.tab1 least_Merge.bits1 (fun HT_ HW_ => ?_); generalize w6.drew = w19 at BK219 BK220 BK221 HB hHeld ⊢; refine take_ (i := 0) (N := some 9) (v := ?_) (a' := ?_) (mB 44 1) rfl rfl (take_ofW HT_.out HW_.out (by kernel_rfl)) (fun _ _ _ h => h) (Or.inl ⟨by rfl, ?_⟩) hHeld ?_ ?_; rotate_left
       ·rintro w' ⟨s0, s1, s2, s3, s4, s5⟩; go_simp; with_reducible rfl
       rotate_left
       ·simp only [Act.put, sa_, sb_, sc_, i64_w, i32_w]; rfl
       refine one_ (i := 1) (N := some 10) (mB 44 3) rfl rfl (one_of HT_.out (by kernel_rfl)) (by decide) (fun K hK => ?_); refine goes_ Try.func17 (by kernel_rfl) rfl #[.agg #[.int .u64 a0_0, .int .i64 a0_1, .slice A0_2 l0_2.length c0_2]] (by rfl) rfl rfl (by (try simp only [List.map_toArray, List.map_cons, List.map_nil]); first | done | rfl | (simp only [List.length_drop, List.length_take]; rfl)) ?_; with_reducible refine (least_Right.calls k a0_0 a0_1 _ _ l0_2 true _ ?side1 ?side2 A7.out).mono ?_; (case side1 => repeat (first | exact (Kd.C_below HR0_2.out HB.out) | (with_reducible refine Kd.C_alloc ?_ _) | (with_reducible refine Kd.C_drewN ?_ _) | (with_reducible refine Kd.C_drew ?_))); (case side2 => exact HC0_2.out); rintro e w20 ⟨rfl, hb⟩; refine ⟨_, rfl, ?_⟩; replace BK219 := Aside0.mk (blk_below (bk_ BK219) hb); replace BK220 := Aside0.mk (blk_below (bk_ BK220) hb); replace BK221 := Aside0.mk (blk_below (bk_ BK221) hb); replace HB := Aside0.mk (below_step (bl_ HB) hb); (try clear hb); refine hK.out _ _ ⟨(blk_cell BK219.out 0).trans rfl, (blk_cell BK219.out 1).trans rfl, (blk_cell BK219.out 2).trans rfl, (blk_cell BK220.out 0).trans rfl, (blk_cell BK220.out 1).trans rfl, (blk_cell BK220.out 2).trans rfl⟩ (fun hHeld => ?_); clear hK K; refine norm_ (a' := ?_) ?_ ?_; rotate_left
       ·show Act.put _ (some 10) _ = _
        simp only [Act.put, sa_, sb_, sc_, i64_w, i32_w]; rfl
       refine pw_ 2 11 (v := ?_) (a' := ?_) (mB 44 7) rfl rfl HT_ (by kernel_rfl) (fun _ _ _ h => h) ?_ ?_ ?_; rotate_left
       ·intro w'; go_simp; with_reducible rfl
       rotate_left
       ·simp only [Act.put, sa_, sb_, sc_, i64_w, i32_w]; rfl
       refine pw_ 3 12 (v := ?_) (a' := ?_) (mB 44 15) rfl rfl HT_ (by kernel_rfl) (fun _ _ _ h => h) ?_ ?_ ?_; rotate_left
       ·intro w'; go_simp; with_reducible rfl
       rotate_left
       ·simp only [Act.put, sa_, sb_, sc_, i64_w, i32_w]; rfl
       refine take_ (i := 4) (N := some 13) (v := ?_) (a' := ?_) (mB 44 31) rfl rfl (take_ofW HT_.out HW_.out (by kernel_rfl)) (fun _ _ _ h => h) (Or.inl ⟨by rfl, ?_⟩) hHeld ?_ ?_; rotate_left
       ·rintro w' ⟨s0, s1, s2, s3, s4, s5⟩; go_simp; with_reducible rfl
       rotate_left
       ·simp only [Act.put, sa_, sb_, sc_, i64_w, i32_w]; rfl
       refine one_ (i := 5) (N := some 14) (mB 44 63) rfl rfl (one_of HT_.out (by kernel_rfl)) (by decide) (fun K hK => ?_); refine goes_ Try.func17 (by kernel_rfl) rfl #[.agg #[.int .u64 a1_0, .int .i64 a1_1, .slice A1_2 l1_2.length c1_2]] (by rfl) rfl rfl (by (try simp only [List.map_toArray, List.map_cons, List.map_nil]); first | done | rfl | (simp only [List.length_drop, List.length_take]; rfl)) ?_; with_reducible refine (least_Right.calls k a1_0 a1_1 _ _ l1_2 true _ ?side1 ?side2 A9.out).mono ?_; (case side1 => repeat (first | exact (Kd.C_below HR1_2.out HB.out) | (with_reducible refine Kd.C_alloc ?_ _) | (with_reducible refine Kd.C_drewN ?_ _) | (with_reducible refine Kd.C_drew ?_))); (case side2 => exact HC1_2.out); rintro e w21 ⟨rfl, hb⟩; refine ⟨_, rfl, ?_⟩; replace BK219 := Aside0.mk (blk_below (bk_ BK219) hb); replace BK220 := Aside0.mk (blk_below (bk_ BK220) hb); replace BK221 := Aside0.mk (blk_below (bk_ BK221) hb); replace HB := Aside0.mk (below_step (bl_ HB) hb); (try clear hb); refine hK.out _ _ ⟨(blk_cell BK219.out 0).trans rfl, (blk_cell BK219.out 1).trans rfl, (blk_cell BK219.out 2).trans rfl, (blk_cell BK220.out 0).trans rfl, (blk_cell BK220.out 1).trans rfl, (blk_cell BK220.out 2).trans rfl⟩ (fun hHeld => ?_); clear hK K; refine norm_ (a' := ?_) ?_ ?_; rotate_left
       ·show Act.put _ (some 14) _ = _
        simp only [Act.put, sa_, sb_, sc_, i64_w, i32_w]; rfl
       refine pw_ 6 15 (v := ?_) (a' := ?_) (mB 44 127) rfl rfl HT_ (by kernel_rfl) (fun _ _ _ h => h) ?_ ?_ ?_; rotate_left
       ·intro w'; go_simp; with_reducible rfl
       rotate_left
       ·simp only [Act.put, sa_, sb_, sc_, i64_w, i32_w]; rfl
       refine pw_ 7 16 (v := ?_) (a' := ?_) (mB 44 255) rfl rfl HT_ (by kernel_rfl) (fun _ _ _ h => h) ?_ ?_ ?_; rotate_left
       ·intro w'; go_simp; with_reducible rfl
       rotate_left
       ·simp only [Act.put, sa_, sb_, sc_, i64_w, i32_w]; rfl
       refine pw_ 8 17 (v := ?_) (a' := ?_) (mB 44 511) rfl rfl HT_ (by kernel_rfl) (fun _ _ _ h => h) ?_ ?_ ?_; rotate_left
       ·intro w'; go_simp; with_reducible rfl
       rotate_left
       ·simp only [Act.put, sa_, sb_, sc_, i64_w, i32_w]; rfl
       refine pw_ 9 18 (v := ?_) (a' := ?_) (mB 44 1023) rfl rfl HT_ (by kernel_rfl) (fun _ _ _ h => h) ?_ ?_ ?_; rotate_left
       ·intro w'; go_simp; with_reducible rfl
       rotate_left
       ·simp only [Act.put, sa_, sb_, sc_, i64_w, i32_w]; rfl
       refine pw_ 11 20 (v := ?_) (a' := ?_) (mB 44 3071) rfl rfl HT_ (by kernel_rfl) (fun _ _ _ h => h) ?_ ?_ ?_; rotate_left
       ·intro w'; go_simp; with_reducible rfl
       rotate_left
       ·simp only [Act.put, sa_, sb_, sc_, i64_w, i32_w]; rfl
       refine take_ (i := 10) (N := some 19) (v := ?_) (a' := ?_) (mB 44 4095) rfl rfl (take_ofW HT_.out HW_.out (by kernel_rfl)) (fun _ _ _ h => h) (Or.inl ⟨by rfl, ?_⟩) hHeld ?_ ?_; rotate_left
       ·rintro w' ⟨s0, s1, s2, s3, s4, s5⟩; go_simp; with_reducible rfl
       rotate_left
       ·simp only [Act.put, sa_, sb_, sc_, i64_w, i32_w]; rfl
       refine take_ (i := 12) (N := some 21) (v := ?_) (a' := ?_) (mB 44 8191) rfl rfl (take_ofW HT_.out HW_.out (by kernel_rfl)) (fun _ _ _ h => h) (Or.inl ⟨by rfl, ?_⟩) hHeld ?_ ?_; rotate_left
       ·rintro w' ⟨s0, s1, s2, s3, s4, s5⟩; go_simp; with_reducible rfl
       rotate_left
       ·simp only [Act.put, sa_, sb_, sc_, i64_w, i32_w]; rfl
       refine pw_ 13 22 (v := ?_) (a' := ?_) (mB 44 16383) rfl rfl HT_ (by kernel_rfl) (fun _ _ _ h => h) ?_ ?_ ?_; rotate_left
       ·intro w'; go_simp; with_reducible rfl
       rotate_left
       ·simp only [Act.put, sa_, sb_, sc_, i64_w, i32_w]; rfl
       refine pw_ 14 23 (v := ?_) (a' := ?_) (mB 44 32767) rfl rfl HT_ (by kernel_rfl) (fun _ _ _ h => h) ?_ ?_ ?_; rotate_left
       ·intro w'; go_simp; with_reducible rfl
       rotate_left
       ·simp only [Act.put, sa_, sb_, sc_, i64_w, i32_w]; rfl
       refine pw_ 15 24 (v := ?_) (a' := ?_) (mB 44 65535) rfl rfl HT_ (by kernel_rfl) (fun _ _ _ h => h) ?_ ?_ ?_; rotate_left
       ·intro w'; go_simp; with_reducible rfl
       rotate_left
       ·simp only [Act.put, sa_, sb_, sc_, i64_w, i32_w]; rfl
       refine pw_ 16 25 (v := ?_) (a' := ?_) (mB 44 131071) rfl rfl HT_ (by kernel_rfl) (fun _ _ _ h => h) ?_ ?_ ?_; rotate_left
       ·intro w'; go_simp; with_reducible rfl
       rotate_left
       ·simp only [Act.put, sa_, sb_, sc_, i64_w, i32_w]; rfl
       refine pw_ 18 27 (v := ?_) (a' := ?_) (mB 44 393215) rfl rfl HT_ (by kernel_rfl) (fun _ _ _ h => h) ?_ ?_ ?_; rotate_left
       ·intro w'; go_simp; with_reducible rfl
       rotate_left
       ·simp only [Act.put, sa_, sb_, sc_, i64_w, i32_w]; rfl
       refine take_ (i := 17) (N := some 26) (v := ?_) (a' := ?_) (mB 44 524287) rfl rfl (take_ofW HT_.out HW_.out (by kernel_rfl)) (fun _ _ _ h => h) (Or.inl ⟨by rfl, ?_⟩) hHeld ?_ ?_; rotate_left
       ·rintro w' ⟨s0, s1, s2, s3, s4, s5⟩; go_simp; with_reducible rfl
       rotate_left
       ·simp only [Act.put, sa_, sb_, sc_, i64_w, i32_w]; rfl
       refine take_ (i := 19) (N := some 28) (v := ?_) (a' := ?_) (mB 44 1048575) rfl rfl (take_ofW HT_.out HW_.out (by kernel_rfl)) (fun _ _ _ h => h) (Or.inl ⟨by rfl, ?_⟩) hHeld ?_ ?_; rotate_left
       ·rintro w' ⟨s0, s1, s2, s3, s4, s5⟩; go_simp; with_reducible rfl
       rotate_left
       ·simp only [Act.put, sa_, sb_, sc_, i64_w, i32_w]; rfl
       refine pw_ 20 29 (v := ?_) (a' := ?_) (mB 44 2097151) rfl rfl HT_ (by kernel_rfl) (fun _ _ _ h => h) ?_ ?_ ?_; rotate_left
       ·intro w'; go_simp; with_reducible rfl
       rotate_left
       ·simp only [Act.put, sa_, sb_, sc_, i64_w, i32_w]; rfl
       refine pw_ 21 30 (v := ?_) (a' := ?_) (mB 44 4194303) rfl rfl HT_ (by kernel_rfl) (fun _ _ _ h => h) ?_ ?_ ?_; rotate_left
       ·intro w'; go_simp; with_reducible rfl
       rotate_left
       ·simp only [Act.put, sa_, sb_, sc_, i64_w, i32_w]; rfl
       refine pw_ 22 31 (v := ?_) (a' := ?_) (mB 44 8388607) rfl rfl HT_ (by kernel_rfl) (fun _ _ _ h => h) ?_ ?_ ?_; rotate_left
       ·intro w'; go_simp; with_reducible rfl
       rotate_left
       ·simp only [Act.put, sa_, sb_, sc_, i64_w, i32_w]; rfl
       refine pw_ 23 32 (v := ?_) (a' := ?_) (mB 44 16777215) rfl rfl HT_ (by kernel_rfl) (fun _ _ _ h => h) ?_ ?_ ?_; rotate_left
       ·intro w'; go_simp; with_reducible rfl
       rotate_left
       ·simp only [Act.put, sa_, sb_, sc_, i64_w, i32_w]; rfl
       refine pw_ 26 35 (v := ?_) (a' := ?_) (mB 44 83886079) rfl rfl HT_ (by kernel_rfl) (fun _ _ _ h => h) ?_ ?_ ?_; rotate_left
       ·intro w'; go_simp; with_reducible rfl
       rotate_left
       ·simp only [Act.put, sa_, sb_, sc_, i64_w, i32_w]; rfl
       refine take_ (i := 24) (N := some 33) (v := ?_) (a' := ?_) (mB 44 100663295) rfl rfl (take_ofW HT_.out HW_.out (by kernel_rfl)) (fun _ _ _ h => h) (Or.inl ⟨by rfl, ?_⟩) hHeld ?_ ?_; rotate_left
       ·rintro w' ⟨s0, s1, s2, s3, s4, s5⟩; go_simp; with_reducible rfl
       rotate_left
       ·simp only [Act.put, sa_, sb_, sc_, i64_w, i32_w]; rfl
       refine pw_ 25 34 (v := ?_) (a' := ?_) (mB 44 134217727) rfl rfl HT_ (by kernel_rfl) (fun _ _ _ h => h) ?_ ?_ ?_; rotate_left
       ·intro w'; go_simp; with_reducible rfl
       rotate_left
       ·simp only [Act.put, sa_, sb_, sc_, i64_w, i32_w]; rfl
       refine take_ (i := 27) (N := some 36) (v := ?_) (a' := ?_) (mB 44 268435455) rfl rfl (take_ofW HT_.out HW_.out (by kernel_rfl)) (fun _ _ _ h => h) (Or.inl ⟨by rfl, ?_⟩) hHeld ?_ ?_; rotate_left
       ·rintro w' ⟨s0, s1, s2, s3, s4, s5⟩; go_simp; with_reducible rfl
       rotate_left
       ·simp only [Act.put, sa_, sb_, sc_, i64_w, i32_w]; rfl
       refine pw_ 28 37 (v := ?_) (a' := ?_) (mB 44 536870911) rfl rfl HT_ (by kernel_rfl) (fun _ _ _ h => h) ?_ ?_ ?_; rotate_left
       ·intro w'; go_simp; with_reducible rfl
       rotate_left
       ·simp only [Act.put, sa_, sb_, sc_, i64_w, i32_w]; rfl
       refine pw_ 29 38 (v := ?_) (a' := ?_) (mB 44 1073741823) rfl rfl HT_ (by kernel_rfl) (fun _ _ _ h => h) ?_ ?_ ?_; rotate_left
       ·intro w'; go_simp; with_reducible rfl
       rotate_left
       ·simp only [Act.put, sa_, sb_, sc_, i64_w, i32_w]; rfl
       refine pw_ 30 39 (v := ?_) (a' := ?_) (mB 44 2147483647) rfl rfl HT_ (by kernel_rfl) (fun _ _ _ h => h) ?_ ?_ ?_; rotate_left
       ·intro w'; go_simp; with_reducible rfl
       rotate_left
       ·simp only [Act.put, sa_, sb_, sc_, i64_w, i32_w]; rfl
       refine pw_ 31 40 (v := ?_) (a' := ?_) (mB 44 4294967295) rfl rfl HT_ (by kernel_rfl) (fun _ _ _ h => h) ?_ ?_ ?_; rotate_left
       ·intro w'; go_simp; with_reducible rfl
       rotate_left
       ·simp only [Act.put, sa_, sb_, sc_, i64_w, i32_w]; rfl
       refine un_ [(32, 41), (33, 42), (34, 43), (35, 44), (36, 45), (37, 46), (38, 47), (39, 48), (40, 49), (41, 50), (42, 51)] (fuel := 1) (a' := ?_) (mB 44 8796093022207) rfl HT_ (by kernel_rfl) (by kernel_rfl) (fun _ _ _ _ h => h) ?_ ?_; rotate_left
       ·simp only [unwA, Act.put, sa_, sb_, sc_, i64_w, i32_w]; rfl
       refine pw_ 43 52 (v := ?_) (a' := ?_) (mB 44 17592186044415) rfl rfl HT_ (by kernel_rfl) (fun _ _ _ h => h) ?_ ?_ ?_; rotate_left
       ·intro w'; go_simp; with_reducible rfl
       rotate_left
       ·simp only [Act.put, sa_, sb_, sc_, i64_w, i32_w]; rfl
       refine done_ (done_of HT_.out (by kernel_rfl)) ?_
       try go_wp2
       go_meet
       case rel => exact ⟨_, (true), (by first | rfl | (simp; done) | (simp [*]; done)), H', ⟨by first | omega | exact Nat.le_refl _⟩, ⟨bk_ BK219⟩, ⟨bk_ BK220⟩, ⟨bk_ BK221⟩, ⟨bl_ HB⟩⟩
     ·rw [if_neg c12] at H; have c12b0 : (a0_1 == a1_1) = false := beq_eq_false_iff_ne.mpr c12; have c12b1 : (a0_1 != a1_1) = true := bne_iff_ne.mpr c12; have H' := Aside0.mk H; clear H
      try go_wp2
      replace BK219 := Aside0.mk (blk_drew BK219.out); replace BK220 := Aside0.mk (blk_drew BK220.out); replace BK221 := Aside0.mk (blk_drew BK221.out); replace HB := Aside0.mk (below_drew1 HB.out); refine start_ (n := 44) (S := fun w' => w'.cell? ⟨gb219, 0, none⟩ = some (.int .u64 a0_0) ∧ w'.cell? ⟨gb219, 1, none⟩ = some (.int .i64 a0_1) ∧ w'.cell? ⟨gb219, 2, none⟩ = some (.slice A0_2 l0_2.length c0_2) ∧ w'.cell? ⟨gb220, 0, none⟩ = some (.int .u64 a1_0) ∧ w'.cell? ⟨gb220, 1, none⟩ = some (.int .i64 a1_1) ∧ w'.cell? ⟨gb220, 2, none⟩ = some (.slice A1_2 l1_2.length c1_2)) (ds := []) (mB 44 0) (by kernel_rfl) rfl rfl ⟨(blk_cell BK219.out 0).trans rfl, (blk_cell BK219.out 1).trans rfl, (blk_cell BK219.out 2).trans rfl, (blk_cell BK220.out 0).trans rfl, (blk_cell BK220.out 1).trans rfl, (blk_cell BK220.out 2).trans rfl⟩ (fun hHeld => ?_); refine with_tabW least_Merge.tab1 least_Merge.bits1 (fun HT_ HW_ => ?_); generalize w6.drew = w22 at BK219 BK220 BK221 HB hHeld ⊢; refine take_ (i := 0) (N := some 9) (v := ?_) (a' := ?_) (mB 44 1) rfl rfl (take_ofW HT_.out HW_.out (by kernel_rfl)) (fun _ _ _ h => h) (Or.inl ⟨by rfl, ?_⟩) hHeld ?_ ?_; rotate_left
      ·rintro w' ⟨s0, s1, s2, s3, s4, s5⟩; go_simp; with_reducible rfl
      rotate_left
      ·simp only [Act.put, sa_, sb_, sc_, i64_w, i32_w]; rfl
      refine one_ (i := 1) (N := some 10) (mB 44 3) rfl rfl (one_of HT_.out (by kernel_rfl)) (by decide) (fun K hK => ?_); refine goes_ Try.func17 (by kernel_rfl) rfl #[.agg #[.int .u64 a0_0, .int .i64 a0_1, .slice A0_2 l0_2.length c0_2]] (by rfl) rfl rfl (by (try simp only [List.map_toArray, List.map_cons, List.map_nil]); first | done | rfl | (simp only [List.length_drop, List.length_take]; rfl)) ?_; with_reducible refine (least_Right.calls k a0_0 a0_1 _ _ l0_2 true _ ?side1 ?side2 A7.out).mono ?_; (case side1 => repeat (first | exact (Kd.C_below HR0_2.out HB.out) | (with_reducible refine Kd.C_alloc ?_ _) | (with_reducible refine Kd.C_drewN ?_ _) | (with_reducible refine Kd.C_drew ?_))); (case side2 => exact HC0_2.out); rintro e w23 ⟨rfl, hb⟩; refine ⟨_, rfl, ?_⟩; replace BK219 := Aside0.mk (blk_below (bk_ BK219) hb); replace BK220 := Aside0.mk (blk_below (bk_ BK220) hb); replace BK221 := Aside0.mk (blk_below (bk_ BK221) hb); replace HB := Aside0.mk (below_step (bl_ HB) hb); (try clear hb); refine hK.out _ _ ⟨(blk_cell BK219.out 0).trans rfl, (blk_cell BK219.out 1).trans rfl, (blk_cell BK219.out 2).trans rfl, (blk_cell BK220.out 0).trans rfl, (blk_cell BK220.out 1).trans rfl, (blk_cell BK220.out 2).trans rfl⟩ (fun hHeld => ?_); clear hK K; refine norm_ (a' := ?_) ?_ ?_; rotate_left
      ·show Act.put _ (some 10) _ = _
       simp only [Act.put, sa_, sb_, sc_, i64_w, i32_w]; rfl
      refine pw_ 2 11 (v := ?_) (a' := ?_) (mB 44 7) rfl rfl HT_ (by kernel_rfl) (fun _ _ _ h => h) ?_ ?_ ?_; rotate_left
      ·intro w'; go_simp; with_reducible rfl
      rotate_left
      ·simp only [Act.put, sa_, sb_, sc_, i64_w, i32_w]; rfl
      refine pw_ 3 12 (v := ?_) (a' := ?_) (mB 44 15) rfl rfl HT_ (by kernel_rfl) (fun _ _ _ h => h) ?_ ?_ ?_; rotate_left
      ·intro w'; go_simp; with_reducible rfl
      rotate_left
      ·simp only [Act.put, sa_, sb_, sc_, i64_w, i32_w]; rfl
      refine take_ (i := 4) (N := some 13) (v := ?_) (a' := ?_) (mB 44 31) rfl rfl (take_ofW HT_.out HW_.out (by kernel_rfl)) (fun _ _ _ h => h) (Or.inl ⟨by rfl, ?_⟩) hHeld ?_ ?_; rotate_left
      ·rintro w' ⟨s0, s1, s2, s3, s4, s5⟩; go_simp; with_reducible rfl
      rotate_left
      ·simp only [Act.put, sa_, sb_, sc_, i64_w, i32_w]; rfl
      refine one_ (i := 5) (N := some 14) (mB 44 63) rfl rfl (one_of HT_.out (by kernel_rfl)) (by decide) (fun K hK => ?_); refine goes_ Try.func17 (by kernel_rfl) rfl #[.agg #[.int .u64 a1_0, .int .i64 a1_1, .slice A1_2 l1_2.length c1_2]] (by rfl) rfl rfl (by (try simp only [List.map_toArray, List.map_cons, List.map_nil]); first | done | rfl | (simp only [List.length_drop, List.length_take]; rfl)) ?_; with_reducible refine (least_Right.calls k a1_0 a1_1 _ _ l1_2 true _ ?side1 ?side2 A9.out).mono ?_; (case side1 => repeat (first | exact (Kd.C_below HR1_2.out HB.out) | (with_reducible refine Kd.C_alloc ?_ _) | (with_reducible refine Kd.C_drewN ?_ _) | (with_reducible refine Kd.C_drew ?_))); (case side2 => exact HC1_2.out); rintro e w24 ⟨rfl, hb⟩; refine ⟨_, rfl, ?_⟩; replace BK219 := Aside0.mk (blk_below (bk_ BK219) hb); replace BK220 := Aside0.mk (blk_below (bk_ BK220) hb); replace BK221 := Aside0.mk (blk_below (bk_ BK221) hb); replace HB := Aside0.mk (below_step (bl_ HB) hb); (try clear hb); refine hK.out _ _ ⟨(blk_cell BK219.out 0).trans rfl, (blk_cell BK219.out 1).trans rfl, (blk_cell BK219.out 2).trans rfl, (blk_cell BK220.out 0).trans rfl, (blk_cell BK220.out 1).trans rfl, (blk_cell BK220.out 2).trans rfl⟩ (fun hHeld => ?_); clear hK K; refine norm_ (a' := ?_) ?_ ?_; rotate_left
      ·show Act.put _ (some 14) _ = _
       simp only [Act.put, sa_, sb_, sc_, i64_w, i32_w]; rfl
      refine pw_ 6 15 (v := ?_) (a' := ?_) (mB 44 127) rfl rfl HT_ (by kernel_rfl) (fun _ _ _ h => h) ?_ ?_ ?_; rotate_left
      ·intro w'; go_simp; with_reducible rfl
      rotate_left
      ·simp only [Act.put, sa_, sb_, sc_, i64_w, i32_w]; rfl
      refine pw_ 7 16 (v := ?_) (a' := ?_) (mB 44 255) rfl rfl HT_ (by kernel_rfl) (fun _ _ _ h => h) ?_ ?_ ?_; rotate_left
      ·intro w'; go_simp; with_reducible rfl
      rotate_left
      ·simp only [Act.put, sa_, sb_, sc_, i64_w, i32_w]; rfl
      refine pw_ 8 17 (v := ?_) (a' := ?_) (mB 44 511) rfl rfl HT_ (by kernel_rfl) (fun _ _ _ h => h) ?_ ?_ ?_; rotate_left
      ·intro w'; go_simp; with_reducible rfl
      rotate_left
      ·simp only [Act.put, sa_, sb_, sc_, i64_w, i32_w]; rfl
      refine pw_ 9 18 (v := ?_) (a' := ?_) (mB 44 1023) rfl rfl HT_ (by kernel_rfl) (fun _ _ _ h => h) ?_ ?_ ?_; rotate_left
      ·intro w'; go_simp; with_reducible rfl
      rotate_left
      ·simp only [Act.put, sa_, sb_, sc_, i64_w, i32_w]; rfl
      refine pw_ 11 20 (v := ?_) (a' := ?_) (mB 44 3071) rfl rfl HT_ (by kernel_rfl) (fun _ _ _ h => h) ?_ ?_ ?_; rotate_left
      ·intro w'; go_simp; with_reducible rfl
      rotate_left
      ·simp only [Act.put, sa_, sb_, sc_, i64_w, i32_w]; rfl
      refine take_ (i := 10) (N := some 19) (v := ?_) (a' := ?_) (mB 44 4095) rfl rfl (take_ofW HT_.out HW_.out (by kernel_rfl)) (fun _ _ _ h => h) (Or.inl ⟨by rfl, ?_⟩) hHeld ?_ ?_; rotate_left
      ·rintro w' ⟨s0, s1, s2, s3, s4, s5⟩; go_simp; with_reducible rfl
      rotate_left
      ·simp only [Act.put, sa_, sb_, sc_, i64_w, i32_w]; rfl
      refine take_ (i := 12) (N := some 21) (v := ?_) (a' := ?_) (mB 44 8191) rfl rfl (take_ofW HT_.out HW_.out (by kernel_rfl)) (fun _ _ _ h => h) (Or.inl ⟨by rfl, ?_⟩) hHeld ?_ ?_; rotate_left
      ·rintro w' ⟨s0, s1, s2, s3, s4, s5⟩; go_simp; with_reducible rfl
      rotate_left
      ·simp only [Act.put, sa_, sb_, sc_, i64_w, i32_w]; rfl
      refine pw_ 13 22 (v := ?_) (a' := ?_) (mB 44 16383) rfl rfl HT_ (by kernel_rfl) (fun _ _ _ h => h) ?_ ?_ ?_; rotate_left
      ·intro w'; go_simp; with_reducible rfl
      rotate_left
      ·simp only [Act.put, sa_, sb_, sc_, i64_w, i32_w]; rfl
      refine pw_ 14 23 (v := ?_) (a' := ?_) (mB 44 32767) rfl rfl HT_ (by kernel_rfl) (fun _ _ _ h => h) ?_ ?_ ?_; rotate_left
      ·intro w'; go_simp; with_reducible rfl
      rotate_left
      ·simp only [Act.put, sa_, sb_, sc_, i64_w, i32_w]; rfl
      refine pw_ 15 24 (v := ?_) (a' := ?_) (mB 44 65535) rfl rfl HT_ (by kernel_rfl) (fun _ _ _ h => h) ?_ ?_ ?_; rotate_left
      ·intro w'; go_simp; with_reducible rfl
      rotate_left
      ·simp only [Act.put, sa_, sb_, sc_, i64_w, i32_w]; rfl
      refine pw_ 16 25 (v := ?_) (a' := ?_) (mB 44 131071) rfl rfl HT_ (by kernel_rfl) (fun _ _ _ h => h) ?_ ?_ ?_; rotate_left
      ·intro w'; go_simp; with_reducible rfl
      rotate_left
      ·simp only [Act.put, sa_, sb_, sc_, i64_w, i32_w]; rfl
      refine pw_ 18 27 (v := ?_) (a' := ?_) (mB 44 393215) rfl rfl HT_ (by kernel_rfl) (fun _ _ _ h => h) ?_ ?_ ?_; rotate_left
      ·intro w'; go_simp; with_reducible rfl
      rotate_left
      ·simp only [Act.put, sa_, sb_, sc_, i64_w, i32_w]; rfl
      refine take_ (i := 17) (N := some 26) (v := ?_) (a' := ?_) (mB 44 524287) rfl rfl (take_ofW HT_.out HW_.out (by kernel_rfl)) (fun _ _ _ h => h) (Or.inl ⟨by rfl, ?_⟩) hHeld ?_ ?_; rotate_left
      ·rintro w' ⟨s0, s1, s2, s3, s4, s5⟩; go_simp; with_reducible rfl
      rotate_left
      ·simp only [Act.put, sa_, sb_, sc_, i64_w, i32_w]; rfl
      refine take_ (i := 19) (N := some 28) (v := ?_) (a' := ?_) (mB 44 1048575) rfl rfl (take_ofW HT_.out HW_.out (by kernel_rfl)) (fun _ _ _ h => h) (Or.inl ⟨by rfl, ?_⟩) hHeld ?_ ?_; rotate_left
      ·rintro w' ⟨s0, s1, s2, s3, s4, s5⟩; go_simp; with_reducible rfl
      rotate_left
      ·simp only [Act.put, sa_, sb_, sc_, i64_w, i32_w]; rfl
      refine pw_ 20 29 (v := ?_) (a' := ?_) (mB 44 2097151) rfl rfl HT_ (by kernel_rfl) (fun _ _ _ h => h) ?_ ?_ ?_; rotate_left
      ·intro w'; go_simp; with_reducible rfl
      rotate_left
      ·simp only [Act.put, sa_, sb_, sc_, i64_w, i32_w]; rfl
      refine pw_ 21 30 (v := ?_) (a' := ?_) (mB 44 4194303) rfl rfl HT_ (by kernel_rfl) (fun _ _ _ h => h) ?_ ?_ ?_; rotate_left
      ·intro w'; go_simp; with_reducible rfl
      rotate_left
      ·simp only [Act.put, sa_, sb_, sc_, i64_w, i32_w]; rfl
      refine pw_ 22 31 (v := ?_) (a' := ?_) (mB 44 8388607) rfl rfl HT_ (by kernel_rfl) (fun _ _ _ h => h) ?_ ?_ ?_; rotate_left
      ·intro w'; go_simp; with_reducible rfl
      rotate_left
      ·simp only [Act.put, sa_, sb_, sc_, i64_w, i32_w]; rfl
      refine un_ [(23, 32), (24, 33), (25, 34), (26, 35), (27, 36), (28, 37), (29, 38)] (fuel := 14) (a' := ?_) (mB 44 1073741823) rfl HT_ (by kernel_rfl) (by kernel_rfl) (fun _ _ _ _ h => h) ?_ ?_; rotate_left
      ·simp only [unwA, Act.put, sa_, sb_, sc_, i64_w, i32_w]; rfl
      refine pw_ 30 39 (v := ?_) (a' := ?_) (mB 44 2147483647) rfl rfl HT_ (by kernel_rfl) (fun _ _ _ h => h) ?_ ?_ ?_; rotate_left
      ·intro w'; go_simp; with_reducible rfl
      rotate_left
      ·simp only [Act.put, sa_, sb_, sc_, i64_w, i32_w]; rfl
      refine pw_ 31 40 (v := ?_) (a' := ?_) (mB 44 4294967295) rfl rfl HT_ (by kernel_rfl) (fun _ _ _ h => h) ?_ ?_ ?_; rotate_left
      ·intro w'; go_simp; with_reducible rfl
      rotate_left
      ·simp only [Act.put, sa_, sb_, sc_, i64_w, i32_w]; rfl
      refine un_ [(32, 41), (33, 42), (34, 43), (35, 44), (36, 45), (37, 46), (38, 47), (39, 48), (40, 49), (41, 50), (42, 51)] (fuel := 1) (a' := ?_) (mB 44 8796093022207) rfl HT_ (by kernel_rfl) (by kernel_rfl) (fun _ _ _ _ h => h) ?_ ?_; rotate_left
      ·simp only [unwA, Act.put, sa_, sb_, sc_, i64_w, i32_w]; rfl
      refine pw_ 43 52 (v := ?_) (a' := ?_) (mB 44 17592186044415) rfl rfl HT_ (by kernel_rfl) (fun _ _ _ h => h) ?_ ?_ ?_; rotate_left
      ·intro w'; go_simp; with_reducible rfl
      rotate_left
      ·simp only [Act.put, sa_, sb_, sc_, i64_w, i32_w]; rfl
      refine done_ (done_of HT_.out (by kernel_rfl)) ?_
      try go_wp2
      go_meet
      case rel => exact ⟨_, (true), (by first | rfl | (simp; done) | (simp [*]; done)), H', ⟨by first | omega | exact Nat.le_refl _⟩, ⟨bk_ BK219⟩, ⟨bk_ BK220⟩, ⟨bk_ BK221⟩, ⟨bl_ HB⟩⟩
    ·rw [if_neg c11] at H; have c11b0 : (a0_0 == a1_0) = false := beq_eq_false_iff_ne.mpr c11; have c11b1 : (a0_0 != a1_0) = true := bne_iff_ne.mpr c11
     (first | rw [c11b0] | (simp only [i64_w, i32_w]; rw [c11b0]) | skip)
     have H' := Aside0.mk H; clear H
     try go_wp2
     replace BK219 := Aside0.mk (blk_drew BK219.out); replace BK220 := Aside0.mk (blk_drew BK220.out); replace BK221 := Aside0.mk (blk_drew BK221.out); replace HB := Aside0.mk (below_drew1 HB.out); refine start_ (n := 44) (S := fun w' => w'.cell? ⟨gb219, 0, none⟩ = some (.int .u64 a0_0) ∧ w'.cell? ⟨gb219, 1, none⟩ = some (.int .i64 a0_1) ∧ w'.cell? ⟨gb219, 2, none⟩ = some (.slice A0_2 l0_2.length c0_2) ∧ w'.cell? ⟨gb220, 0, none⟩ = some (.int .u64 a1_0) ∧ w'.cell? ⟨gb220, 1, none⟩ = some (.int .i64 a1_1) ∧ w'.cell? ⟨gb220, 2, none⟩ = some (.slice A1_2 l1_2.length c1_2)) (ds := []) (mB 44 0) (by kernel_rfl) rfl rfl ⟨(blk_cell BK219.out 0).trans rfl, (blk_cell BK219.out 1).trans rfl, (blk_cell BK219.out 2).trans rfl, (blk_cell BK220.out 0).trans rfl, (blk_cell BK220.out 1).trans rfl, (blk_cell BK220.out 2).trans rfl⟩ (fun hHeld => ?_); refine with_tabW least_Merge.tab1 least_Merge.bits1 (fun HT_ HW_ => ?_); generalize w6.drew = w25 at BK219 BK220 BK221 HB hHeld ⊢; refine take_ (i := 0) (N := some 9) (v := ?_) (a' := ?_) (mB 44 1) rfl rfl (take_ofW HT_.out HW_.out (by kernel_rfl)) (fun _ _ _ h => h) (Or.inl ⟨by rfl, ?_⟩) hHeld ?_ ?_; rotate_left
     ·rintro w' ⟨s0, s1, s2, s3, s4, s5⟩; go_simp; with_reducible rfl
     rotate_left
     ·simp only [Act.put, sa_, sb_, sc_, i64_w, i32_w]; rfl
     refine one_ (i := 1) (N := some 10) (mB 44 3) rfl rfl (one_of HT_.out (by kernel_rfl)) (by decide) (fun K hK => ?_); refine goes_ Try.func17 (by kernel_rfl) rfl #[.agg #[.int .u64 a0_0, .int .i64 a0_1, .slice A0_2 l0_2.length c0_2]] (by rfl) rfl rfl (by (try simp only [List.map_toArray, List.map_cons, List.map_nil]); first | done | rfl | (simp only [List.length_drop, List.length_take]; rfl)) ?_; with_reducible refine (least_Right.calls k a0_0 a0_1 _ _ l0_2 true _ ?side1 ?side2 A7.out).mono ?_; (case side1 => repeat (first | exact (Kd.C_below HR0_2.out HB.out) | (with_reducible refine Kd.C_alloc ?_ _) | (with_reducible refine Kd.C_drewN ?_ _) | (with_reducible refine Kd.C_drew ?_))); (case side2 => exact HC0_2.out); rintro e w26 ⟨rfl, hb⟩; refine ⟨_, rfl, ?_⟩; replace BK219 := Aside0.mk (blk_below (bk_ BK219) hb); replace BK220 := Aside0.mk (blk_below (bk_ BK220) hb); replace BK221 := Aside0.mk (blk_below (bk_ BK221) hb); replace HB := Aside0.mk (below_step (bl_ HB) hb); (try clear hb); refine hK.out _ _ ⟨(blk_cell BK219.out 0).trans rfl, (blk_cell BK219.out 1).trans rfl, (blk_cell BK219.out 2).trans rfl, (blk_cell BK220.out 0).trans rfl, (blk_cell BK220.out 1).trans rfl, (blk_cell BK220.out 2).trans rfl⟩ (fun hHeld => ?_); clear hK K; refine norm_ (a' := ?_) ?_ ?_; rotate_left
     ·show Act.put _ (some 10) _ = _
      simp only [Act.put, sa_, sb_, sc_, i64_w, i32_w]; rfl
     refine pw_ 2 11 (v := ?_) (a' := ?_) (mB 44 7) rfl rfl HT_ (by kernel_rfl) (fun _ _ _ h => h) ?_ ?_ ?_; rotate_left
     ·intro w'; go_simp; with_reducible rfl
     rotate_left
     ·simp only [Act.put, sa_, sb_, sc_, i64_w, i32_w]; rfl
     refine pw_ 3 12 (v := ?_) (a' := ?_) (mB 44 15) rfl rfl HT_ (by kernel_rfl) (fun _ _ _ h => h) ?_ ?_ ?_; rotate_left
     ·intro w'; go_simp; with_reducible rfl
     rotate_left
     ·simp only [Act.put, sa_, sb_, sc_, i64_w, i32_w]; rfl
     refine take_ (i := 4) (N := some 13) (v := ?_) (a' := ?_) (mB 44 31) rfl rfl (take_ofW HT_.out HW_.out (by kernel_rfl)) (fun _ _ _ h => h) (Or.inl ⟨by rfl, ?_⟩) hHeld ?_ ?_; rotate_left
     ·rintro w' ⟨s0, s1, s2, s3, s4, s5⟩; go_simp; with_reducible rfl
     rotate_left
     ·simp only [Act.put, sa_, sb_, sc_, i64_w, i32_w]; rfl
     refine one_ (i := 5) (N := some 14) (mB 44 63) rfl rfl (one_of HT_.out (by kernel_rfl)) (by decide) (fun K hK => ?_); refine goes_ Try.func17 (by kernel_rfl) rfl #[.agg #[.int .u64 a1_0, .int .i64 a1_1, .slice A1_2 l1_2.length c1_2]] (by rfl) rfl rfl (by (try simp only [List.map_toArray, List.map_cons, List.map_nil]); first | done | rfl | (simp only [List.length_drop, List.length_take]; rfl)) ?_; with_reducible refine (least_Right.calls k a1_0 a1_1 _ _ l1_2 true _ ?side1 ?side2 A9.out).mono ?_; (case side1 => repeat (first | exact (Kd.C_below HR1_2.out HB.out) | (with_reducible refine Kd.C_alloc ?_ _) | (with_reducible refine Kd.C_drewN ?_ _) | (with_reducible refine Kd.C_drew ?_))); (case side2 => exact HC1_2.out); rintro e w27 ⟨rfl, hb⟩; refine ⟨_, rfl, ?_⟩; replace BK219 := Aside0.mk (blk_below (bk_ BK219) hb); replace BK220 := Aside0.mk (blk_below (bk_ BK220) hb); replace BK221 := Aside0.mk (blk_below (bk_ BK221) hb); replace HB := Aside0.mk (below_step (bl_ HB) hb); (try clear hb); refine hK.out _ _ ⟨(blk_cell BK219.out 0).trans rfl, (blk_cell BK219.out 1).trans rfl, (blk_cell BK219.out 2).trans rfl, (blk_cell BK220.out 0).trans rfl, (blk_cell BK220.out 1).trans rfl, (blk_cell BK220.out 2).trans rfl⟩ (fun hHeld => ?_); clear hK K; refine norm_ (a' := ?_) ?_ ?_; rotate_left
     ·show Act.put _ (some 14) _ = _
      simp only [Act.put, sa_, sb_, sc_, i64_w, i32_w]; rfl
     refine pw_ 6 15 (v := ?_) (a' := ?_) (mB 44 127) rfl rfl HT_ (by kernel_rfl) (fun _ _ _ h => h) ?_ ?_ ?_; rotate_left
     ·intro w'; go_simp; with_reducible rfl
     rotate_left
     ·simp only [Act.put, sa_, sb_, sc_, i64_w, i32_w]; rfl
     refine pw_ 7 16 (v := ?_) (a' := ?_) (mB 44 255) rfl rfl HT_ (by kernel_rfl) (fun _ _ _ h => h) ?_ ?_ ?_; rotate_left
     ·intro w'; go_simp; with_reducible rfl
     rotate_left
     ·simp only [Act.put, sa_, sb_, sc_, i64_w, i32_w]; rfl
     refine pw_ 8 17 (v := ?_) (a' := ?_) (mB 44 511) rfl rfl HT_ (by kernel_rfl) (fun _ _ _ h => h) ?_ ?_ ?_; rotate_left
     ·intro w'; go_simp; with_reducible rfl
     rotate_left
     ·simp only [Act.put, sa_, sb_, sc_, i64_w, i32_w]; rfl
     refine pw_ 9 18 (v := ?_) (a' := ?_) (mB 44 1023) rfl rfl HT_ (by kernel_rfl) (fun _ _ _ h => h) ?_ ?_ ?_; rotate_left
     ·intro w'; go_simp; with_reducible rfl
     rotate_left
     ·simp only [Act.put, sa_, sb_, sc_, i64_w, i32_w]; rfl
     refine pw_ 11 20 (v := ?_) (a' := ?_) (mB 44 3071) rfl rfl HT_ (by kernel_rfl) (fun _ _ _ h => h) ?_ ?_ ?_; rotate_left
     ·intro w'; go_simp; with_reducible rfl
     rotate_left
     ·simp only [Act.put, sa_, sb_, sc_, i64_w, i32_w]; rfl
     refine take_ (i := 10) (N := some 19) (v := ?_) (a' := ?_) (mB 44 4095) rfl rfl (take_ofW HT_.out HW_.out (by kernel_rfl)) (fun _ _ _ h => h) (Or.inl ⟨by rfl, ?_⟩) hHeld ?_ ?_; rotate_left
     ·rintro w' ⟨s0, s1, s2, s3, s4, s5⟩; go_simp; with_reducible rfl
     rotate_left
     ·simp only [Act.put, sa_, sb_, sc_, i64_w, i32_w]; rfl
     refine take_ (i := 12) (N := some 21) (v := ?_) (a' := ?_) (mB 44 8191) rfl rfl (take_ofW HT_.out HW_.out (by kernel_rfl)) (fun _ _ _ h => h) (Or.inl ⟨by rfl, ?_⟩) hHeld ?_ ?_; rotate_left
     ·rintro w' ⟨s0, s1, s2, s3, s4, s5⟩; go_simp; with_reducible rfl
     rotate_left
     ·simp only [Act.put, sa_, sb_, sc_, i64_w, i32_w]; rfl
     refine pw_ 13 22 (v := ?_) (a' := ?_) (mB 44 16383) rfl rfl HT_ (by kernel_rfl) (fun _ _ _ h => h) ?_ ?_ ?_; rotate_left
     ·intro w'; go_simp; with_reducible rfl
     rotate_left
     ·simp only [Act.put, sa_, sb_, sc_, i64_w, i32_w]; rfl
     refine pw_ 14 23 (v := ?_) (a' := ?_) (mB 44 32767) rfl rfl HT_ (by kernel_rfl) (fun _ _ _ h => h) ?_ ?_ ?_; rotate_left
     ·intro w'; go_simp; with_reducible rfl
     rotate_left
     ·simp only [Act.put, sa_, sb_, sc_, i64_w, i32_w]; rfl
     refine pw_ 15 24 (v := ?_) (a' := ?_) (mB 44 65535) rfl rfl HT_ (by kernel_rfl) (fun _ _ _ h => h) ?_ ?_ ?_; rotate_left
     ·intro w'; go_simp; with_reducible rfl
     rotate_left
     ·simp only [Act.put, sa_, sb_, sc_, i64_w, i32_w]; rfl
     refine un_ [(16, 25), (17, 26), (18, 27), (19, 28), (20, 29)] (fuel := 23) (a' := ?_) (mB 44 2097151) rfl HT_ (by kernel_rfl) (by kernel_rfl) (fun _ _ _ _ h => h) ?_ ?_; rotate_left
     ·simp only [unwA, Act.put, sa_, sb_, sc_, i64_w, i32_w]; rfl
     refine pw_ 21 30 (v := ?_) (a' := ?_) (mB 44 4194303) rfl rfl HT_ (by kernel_rfl) (fun _ _ _ h => h) ?_ ?_ ?_; rotate_left
     ·intro w'; go_simp; with_reducible rfl
     rotate_left
     ·simp only [Act.put, sa_, sb_, sc_, i64_w, i32_w]; rfl
     refine pw_ 22 31 (v := ?_) (a' := ?_) (mB 44 8388607) rfl rfl HT_ (by kernel_rfl) (fun _ _ _ h => h) ?_ ?_ ?_; rotate_left
     ·intro w'; go_simp; with_reducible rfl
     rotate_left
     ·simp only [Act.put, sa_, sb_, sc_, i64_w, i32_w]; rfl
     refine un_ [(23, 32), (24, 33), (25, 34), (26, 35), (27, 36), (28, 37), (29, 38)] (fuel := 14) (a' := ?_) (mB 44 1073741823) rfl HT_ (by kernel_rfl) (by kernel_rfl) (fun _ _ _ _ h => h) ?_ ?_; rotate_left
     ·simp only [unwA, Act.put, sa_, sb_, sc_, i64_w, i32_w]; rfl
     refine pw_ 30 39 (v := ?_) (a' := ?_) (mB 44 2147483647) rfl rfl HT_ (by kernel_rfl) (fun _ _ _ h => h) ?_ ?_ ?_; rotate_left
     ·intro w'; go_simp; with_reducible rfl
     rotate_left
     ·simp only [Act.put, sa_, sb_, sc_, i64_w, i32_w]; rfl
     refine pw_ 31 40 (v := ?_) (a' := ?_) (mB 44 4294967295) rfl rfl HT_ (by kernel_rfl) (fun _ _ _ h => h) ?_ ?_ ?_; rotate_left
     ·intro w'; go_simp; with_reducible rfl
     rotate_left
     ·simp only [Act.put, sa_, sb_, sc_, i64_w, i32_w]; rfl
     refine un_ [(32, 41), (33, 42), (34, 43), (35, 44), (36, 45), (37, 46), (38, 47), (39, 48), (40, 49), (41, 50), (42, 51)] (fuel := 1) (a' := ?_) (mB 44 8796093022207) rfl HT_ (by kernel_rfl) (by kernel_rfl) (fun _ _ _ _ h => h) ?_ ?_; rotate_left
     ·simp only [unwA, Act.put, sa_, sb_, sc_, i64_w, i32_w]; rfl
     refine pw_ 43 52 (v := ?_) (a' := ?_) (mB 44 17592186044415) rfl rfl HT_ (by kernel_rfl) (fun _ _ _ h => h) ?_ ?_ ?_; rotate_left
     ·intro w'; go_simp; with_reducible rfl
     rotate_left
     ·simp only [Act.put, sa_, sb_, sc_, i64_w, i32_w]; rfl
     refine done_ (done_of HT_.out (by kernel_rfl)) ?_
     try go_wp2
     go_meet
     case rel => exact ⟨_, (true), (by first | rfl | (simp; done) | (simp [*]; done)), H', ⟨by first | omega | exact Nat.le_refl _⟩, ⟨bk_ BK219⟩, ⟨bk_ BK220⟩, ⟨bk_ BK221⟩, ⟨bl_ HB⟩⟩
   ·replace c10 := Bool.eq_false_iff.mpr c10; subst c10
    have H1 : (least_Merge.j0 k true a0_0 a0_1 l0_2 l1_2) = some (r1, r2, r3, r4) := by rw [if_neg (show ¬ (false = true) by decide)] at H; exact H
    clear H; have H := H1; clear H1; have H' := Aside0.mk H; clear H
    try go_wp2
    replace BK219 := Aside0.mk (blk_drew BK219.out); replace BK220 := Aside0.mk (blk_drew BK220.out); replace BK221 := Aside0.mk (blk_drew BK221.out); replace HB := Aside0.mk (below_drew1 HB.out); refine start_ (n := 44) (S := fun w' => w'.cell? ⟨gb219, 0, none⟩ = some (.int .u64 a0_0) ∧ w'.cell? ⟨gb219, 1, none⟩ = some (.int .i64 a0_1) ∧ w'.cell? ⟨gb219, 2, none⟩ = some (.slice A0_2 l0_2.length c0_2) ∧ w'.cell? ⟨gb220, 0, none⟩ = some (.int .u64 a1_0) ∧ w'.cell? ⟨gb220, 1, none⟩ = some (.int .i64 a1_1) ∧ w'.cell? ⟨gb220, 2, none⟩ = some (.slice A1_2 l1_2.length c1_2)) (ds := []) (mB 44 0) (by kernel_rfl) rfl rfl ⟨(blk_cell BK219.out 0).trans rfl, (blk_cell BK219.out 1).trans rfl, (blk_cell BK219.out 2).trans rfl, (blk_cell BK220.out 0).trans rfl, (blk_cell BK220.out 1).trans rfl, (blk_cell BK220.out 2).trans rfl⟩ (fun hHeld => ?_); refine with_tabW least_Merge.tab1 least_Merge.bits1 (fun HT_ HW_ => ?_); generalize w6.drew = w28 at BK219 BK220 BK221 HB hHeld ⊢; refine take_ (i := 0) (N := some 9) (v := ?_) (a' := ?_) (mB 44 1) rfl rfl (take_ofW HT_.out HW_.out (by kernel_rfl)) (fun _ _ _ h => h) (Or.inl ⟨by rfl, ?_⟩) hHeld ?_ ?_; rotate_left
    ·rintro w' ⟨s0, s1, s2, s3, s4, s5⟩; go_simp; with_reducible rfl
    rotate_left
    ·simp only [Act.put, sa_, sb_, sc_, i64_w, i32_w]; rfl
    refine one_ (i := 1) (N := some 10) (mB 44 3) rfl rfl (one_of HT_.out (by kernel_rfl)) (by decide) (fun K hK => ?_); refine goes_ Try.func17 (by kernel_rfl) rfl #[.agg #[.int .u64 a0_0, .int .i64 a0_1, .slice A0_2 l0_2.length c0_2]] (by rfl) rfl rfl (by (try simp only [List.map_toArray, List.map_cons, List.map_nil]); first | done | rfl | (simp only [List.length_drop, List.length_take]; rfl)) ?_; with_reducible refine (least_Right.calls k a0_0 a0_1 _ _ l0_2 true _ ?side1 ?side2 A7.out).mono ?_; (case side1 => repeat (first | exact (Kd.C_below HR0_2.out HB.out) | (with_reducible refine Kd.C_alloc ?_ _) | (with_reducible refine Kd.C_drewN ?_ _) | (with_reducible refine Kd.C_drew ?_))); (case side2 => exact HC0_2.out); rintro e w29 ⟨rfl, hb⟩; refine ⟨_, rfl, ?_⟩; replace BK219 := Aside0.mk (blk_below (bk_ BK219) hb); replace BK220 := Aside0.mk (blk_below (bk_ BK220) hb); replace BK221 := Aside0.mk (blk_below (bk_ BK221) hb); replace HB := Aside0.mk (below_step (bl_ HB) hb); (try clear hb); refine hK.out _ _ ⟨(blk_cell BK219.out 0).trans rfl, (blk_cell BK219.out 1).trans rfl, (blk_cell BK219.out 2).trans rfl, (blk_cell BK220.out 0).trans rfl, (blk_cell BK220.out 1).trans rfl, (blk_cell BK220.out 2).trans rfl⟩ (fun hHeld => ?_); clear hK K; refine norm_ (a' := ?_) ?_ ?_; rotate_left
    ·show Act.put _ (some 10) _ = _
     simp only [Act.put, sa_, sb_, sc_, i64_w, i32_w]; rfl
    refine pw_ 2 11 (v := ?_) (a' := ?_) (mB 44 7) rfl rfl HT_ (by kernel_rfl) (fun _ _ _ h => h) ?_ ?_ ?_; rotate_left
    ·intro w'; go_simp; with_reducible rfl
    rotate_left
    ·simp only [Act.put, sa_, sb_, sc_, i64_w, i32_w]; rfl
    refine pw_ 3 12 (v := ?_) (a' := ?_) (mB 44 15) rfl rfl HT_ (by kernel_rfl) (fun _ _ _ h => h) ?_ ?_ ?_; rotate_left
    ·intro w'; go_simp; with_reducible rfl
    rotate_left
    ·simp only [Act.put, sa_, sb_, sc_, i64_w, i32_w]; rfl
    refine take_ (i := 4) (N := some 13) (v := ?_) (a' := ?_) (mB 44 31) rfl rfl (take_ofW HT_.out HW_.out (by kernel_rfl)) (fun _ _ _ h => h) (Or.inl ⟨by rfl, ?_⟩) hHeld ?_ ?_; rotate_left
    ·rintro w' ⟨s0, s1, s2, s3, s4, s5⟩; go_simp; with_reducible rfl
    rotate_left
    ·simp only [Act.put, sa_, sb_, sc_, i64_w, i32_w]; rfl
    refine one_ (i := 5) (N := some 14) (mB 44 63) rfl rfl (one_of HT_.out (by kernel_rfl)) (by decide) (fun K hK => ?_); refine goes_ Try.func17 (by kernel_rfl) rfl #[.agg #[.int .u64 a1_0, .int .i64 a1_1, .slice A1_2 l1_2.length c1_2]] (by rfl) rfl rfl (by (try simp only [List.map_toArray, List.map_cons, List.map_nil]); first | done | rfl | (simp only [List.length_drop, List.length_take]; rfl)) ?_; with_reducible refine (least_Right.calls k a1_0 a1_1 _ _ l1_2 false _ ?side1 ?side2 A9.out).mono ?_; (case side1 => repeat (first | exact (Kd.C_below HR1_2.out HB.out) | (with_reducible refine Kd.C_alloc ?_ _) | (with_reducible refine Kd.C_drewN ?_ _) | (with_reducible refine Kd.C_drew ?_))); (case side2 => exact HC1_2.out); rintro e w30 ⟨rfl, hb⟩; refine ⟨_, rfl, ?_⟩; replace BK219 := Aside0.mk (blk_below (bk_ BK219) hb); replace BK220 := Aside0.mk (blk_below (bk_ BK220) hb); replace BK221 := Aside0.mk (blk_below (bk_ BK221) hb); replace HB := Aside0.mk (below_step (bl_ HB) hb); (try clear hb); refine hK.out _ _ ⟨(blk_cell BK219.out 0).trans rfl, (blk_cell BK219.out 1).trans rfl, (blk_cell BK219.out 2).trans rfl, (blk_cell BK220.out 0).trans rfl, (blk_cell BK220.out 1).trans rfl, (blk_cell BK220.out 2).trans rfl⟩ (fun hHeld => ?_); clear hK K; refine norm_ (a' := ?_) ?_ ?_; rotate_left
    ·show Act.put _ (some 14) _ = _
     simp only [Act.put, sa_, sb_, sc_, i64_w, i32_w]; rfl
    refine pw_ 6 15 (v := ?_) (a' := ?_) (mB 44 127) rfl rfl HT_ (by kernel_rfl) (fun _ _ _ h => h) ?_ ?_ ?_; rotate_left
    ·intro w'; go_simp; with_reducible rfl
    rotate_left
    ·simp only [Act.put, sa_, sb_, sc_, i64_w, i32_w]; rfl
    refine pw_ 7 16 (v := ?_) (a' := ?_) (mB 44 255) rfl rfl HT_ (by kernel_rfl) (fun _ _ _ h => h) ?_ ?_ ?_; rotate_left
    ·intro w'; go_simp; with_reducible rfl
    rotate_left
    ·simp only [Act.put, sa_, sb_, sc_, i64_w, i32_w]; rfl
    refine pw_ 8 17 (v := ?_) (a' := ?_) (mB 44 511) rfl rfl HT_ (by kernel_rfl) (fun _ _ _ h => h) ?_ ?_ ?_; rotate_left
    ·intro w'; go_simp; with_reducible rfl
    rotate_left
    ·simp only [Act.put, sa_, sb_, sc_, i64_w, i32_w]; rfl
    refine un_ [(9, 18), (10, 19), (11, 20), (12, 21), (13, 22)] (fuel := 30) (a' := ?_) (mB 44 16383) rfl HT_ (by kernel_rfl) (by kernel_rfl) (fun _ _ _ _ h => h) ?_ ?_; rotate_left
    ·simp only [unwA, Act.put, sa_, sb_, sc_, i64_w, i32_w]; rfl
    refine pw_ 14 23 (v := ?_) (a' := ?_) (mB 44 32767) rfl rfl HT_ (by kernel_rfl) (fun _ _ _ h => h) ?_ ?_ ?_; rotate_left
    ·intro w'; go_simp; with_reducible rfl
    rotate_left
    ·simp only [Act.put, sa_, sb_, sc_, i64_w, i32_w]; rfl
    refine pw_ 15 24 (v := ?_) (a' := ?_) (mB 44 65535) rfl rfl HT_ (by kernel_rfl) (fun _ _ _ h => h) ?_ ?_ ?_; rotate_left
    ·intro w'; go_simp; with_reducible rfl
    rotate_left
    ·simp only [Act.put, sa_, sb_, sc_, i64_w, i32_w]; rfl
    refine un_ [(16, 25), (17, 26), (18, 27), (19, 28), (20, 29)] (fuel := 23) (a' := ?_) (mB 44 2097151) rfl HT_ (by kernel_rfl) (by kernel_rfl) (fun _ _ _ _ h => h) ?_ ?_; rotate_left
    ·simp only [unwA, Act.put, sa_, sb_, sc_, i64_w, i32_w]; rfl
    refine pw_ 21 30 (v := ?_) (a' := ?_) (mB 44 4194303) rfl rfl HT_ (by kernel_rfl) (fun _ _ _ h => h) ?_ ?_ ?_; rotate_left
    ·intro w'; go_simp; with_reducible rfl
    rotate_left
    ·simp only [Act.put, sa_, sb_, sc_, i64_w, i32_w]; rfl
    refine pw_ 22 31 (v := ?_) (a' := ?_) (mB 44 8388607) rfl rfl HT_ (by kernel_rfl) (fun _ _ _ h => h) ?_ ?_ ?_; rotate_left
    ·intro w'; go_simp; with_reducible rfl
    rotate_left
    ·simp only [Act.put, sa_, sb_, sc_, i64_w, i32_w]; rfl
    refine un_ [(23, 32), (24, 33), (25, 34), (26, 35), (27, 36), (28, 37), (29, 38)] (fuel := 14) (a' := ?_) (mB 44 1073741823) rfl HT_ (by kernel_rfl) (by kernel_rfl) (fun _ _ _ _ h => h) ?_ ?_; rotate_left
    ·simp only [unwA, Act.put, sa_, sb_, sc_, i64_w, i32_w]; rfl
    refine pw_ 30 39 (v := ?_) (a' := ?_) (mB 44 2147483647) rfl rfl HT_ (by kernel_rfl) (fun _ _ _ h => h) ?_ ?_ ?_; rotate_left
    ·intro w'; go_simp; with_reducible rfl
    rotate_left
    ·simp only [Act.put, sa_, sb_, sc_, i64_w, i32_w]; rfl
    refine pw_ 31 40 (v := ?_) (a' := ?_) (mB 44 4294967295) rfl rfl HT_ (by kernel_rfl) (fun _ _ _ h => h) ?_ ?_ ?_; rotate_left
    ·intro w'; go_simp; with_reducible rfl
    rotate_left
    ·simp only [Act.put, sa_, sb_, sc_, i64_w, i32_w]; rfl
    refine un_ [(32, 41), (33, 42), (34, 43), (35, 44), (36, 45), (37, 46), (38, 47), (39, 48), (40, 49), (41, 50), (42, 51)] (fuel := 1) (a' := ?_) (mB 44 8796093022207) rfl HT_ (by kernel_rfl) (by kernel_rfl) (fun _ _ _ _ h => h) ?_ ?_; rotate_left
    ·simp only [unwA, Act.put, sa_, sb_, sc_, i64_w, i32_w]; rfl
    refine pw_ 43 52 (v := ?_) (a' := ?_) (mB 44 17592186044415) rfl rfl HT_ (by kernel_rfl) (fun _ _ _ h => h) ?_ ?_ ?_; rotate_left
    ·intro w'; go_simp; with_reducible rfl
    rotate_left
    ·simp only [Act.put, sa_, sb_, sc_, i64_w, i32_w]; rfl
    refine done_ (done_of HT_.out (by kernel_rfl)) ?_
    try go_wp2
    go_meet
    case rel => exact ⟨_, (true), (by first | rfl | (simp; done) | (simp [*]; done)), H', ⟨by first | omega | exact Nat.le_refl _⟩, ⟨bk_ BK219⟩, ⟨bk_ BK220⟩, ⟨bk_ BK221⟩, ⟨bl_ HB⟩⟩
  ·replace c8 := Bool.eq_false_iff.mpr c8; subst c8
   have H1 : (least_Merge.j0 k true a0_0 a0_1 l0_2 l1_2) = some (r1, r2, r3, r4) := by rw [if_neg (show ¬ (false = true) by decide)] at H; exact H
   clear H; have H := H1; clear H1; have H' := Aside0.mk H; clear H
   try go_wp2
   replace BK219 := Aside0.mk (blk_drew BK219.out); replace BK220 := Aside0.mk (blk_drew BK220.out); replace BK221 := Aside0.mk (blk_drew BK221.out); replace HB := Aside0.mk (below_drew1 HB.out); refine start_ (n := 44) (S := fun w' => w'.cell? ⟨gb219, 0, none⟩ = some (.int .u64 a0_0) ∧ w'.cell? ⟨gb219, 1, none⟩ = some (.int .i64 a0_1) ∧ w'.cell? ⟨gb219, 2, none⟩ = some (.slice A0_2 l0_2.length c0_2)) (ds := []) (mB 44 0) (by kernel_rfl) rfl rfl ⟨(blk_cell BK219.out 0).trans rfl, (blk_cell BK219.out 1).trans rfl, (blk_cell BK219.out 2).trans rfl⟩ (fun hHeld => ?_); refine with_tabW least_Merge.tab1 least_Merge.bits1 (fun HT_ HW_ => ?_); generalize w6.drew = w31 at BK219 BK220 BK221 HB hHeld ⊢; refine take_ (i := 0) (N := some 9) (v := ?_) (a' := ?_) (mB 44 1) rfl rfl (take_ofW HT_.out HW_.out (by kernel_rfl)) (fun _ _ _ h => h) (Or.inl ⟨by rfl, ?_⟩) hHeld ?_ ?_; rotate_left
   ·rintro w' ⟨s0, s1, s2⟩; go_simp; with_reducible rfl
   rotate_left
   ·simp only [Act.put, sa_, sb_, sc_, i64_w, i32_w]; rfl
   refine one_ (i := 1) (N := some 10) (mB 44 3) rfl rfl (one_of HT_.out (by kernel_rfl)) (by decide) (fun K hK => ?_); refine goes_ Try.func17 (by kernel_rfl) rfl #[.agg #[.int .u64 a0_0, .int .i64 a0_1, .slice A0_2 l0_2.length c0_2]] (by rfl) rfl rfl (by (try simp only [List.map_toArray, List.map_cons, List.map_nil]); first | done | rfl | (simp only [List.length_drop, List.length_take]; rfl)) ?_; with_reducible refine (least_Right.calls k a0_0 a0_1 _ _ l0_2 false _ ?side1 ?side2 A7.out).mono ?_; (case side1 => repeat (first | exact (Kd.C_below HR0_2.out HB.out) | (with_reducible refine Kd.C_alloc ?_ _) | (with_reducible refine Kd.C_drewN ?_ _) | (with_reducible refine Kd.C_drew ?_))); (case side2 => exact HC0_2.out); rintro e w32 ⟨rfl, hb⟩; refine ⟨_, rfl, ?_⟩; replace BK219 := Aside0.mk (blk_below (bk_ BK219) hb); replace BK220 := Aside0.mk (blk_below (bk_ BK220) hb); replace BK221 := Aside0.mk (blk_below (bk_ BK221) hb); replace HB := Aside0.mk (below_step (bl_ HB) hb); (try clear hb); refine hK.out _ _ ⟨(blk_cell BK219.out 0).trans rfl, (blk_cell BK219.out 1).trans rfl, (blk_cell BK219.out 2).trans rfl⟩ (fun hHeld => ?_); clear hK K; refine norm_ (a' := ?_) ?_ ?_; rotate_left
   ·show Act.put _ (some 10) _ = _
    simp only [Act.put, sa_, sb_, sc_, i64_w, i32_w]; rfl
   refine pw_ 2 11 (v := ?_) (a' := ?_) (mB 44 7) rfl rfl HT_ (by kernel_rfl) (fun _ _ _ h => h) ?_ ?_ ?_; rotate_left
   ·intro w'; go_simp; with_reducible rfl
   rotate_left
   ·simp only [Act.put, sa_, sb_, sc_, i64_w, i32_w]; rfl
   refine pw_ 3 12 (v := ?_) (a' := ?_) (mB 44 15) rfl rfl HT_ (by kernel_rfl) (fun _ _ _ h => h) ?_ ?_ ?_; rotate_left
   ·intro w'; go_simp; with_reducible rfl
   rotate_left
   ·simp only [Act.put, sa_, sb_, sc_, i64_w, i32_w]; rfl
   refine un_ [(4, 13), (5, 14), (6, 15)] (fuel := 37) (a' := ?_) (mB 44 127) rfl HT_ (by kernel_rfl) (by kernel_rfl) (fun _ _ _ _ h => h) ?_ ?_; rotate_left
   ·simp only [unwA, Act.put, sa_, sb_, sc_, i64_w, i32_w]; rfl
   refine pw_ 7 16 (v := ?_) (a' := ?_) (mB 44 255) rfl rfl HT_ (by kernel_rfl) (fun _ _ _ h => h) ?_ ?_ ?_; rotate_left
   ·intro w'; go_simp; with_reducible rfl
   rotate_left
   ·simp only [Act.put, sa_, sb_, sc_, i64_w, i32_w]; rfl
   refine pw_ 8 17 (v := ?_) (a' := ?_) (mB 44 511) rfl rfl HT_ (by kernel_rfl) (fun _ _ _ h => h) ?_ ?_ ?_; rotate_left
   ·intro w'; go_simp; with_reducible rfl
   rotate_left
   ·simp only [Act.put, sa_, sb_, sc_, i64_w, i32_w]; rfl
   refine un_ [(9, 18), (10, 19), (11, 20), (12, 21), (13, 22)] (fuel := 30) (a' := ?_) (mB 44 16383) rfl HT_ (by kernel_rfl) (by kernel_rfl) (fun _ _ _ _ h => h) ?_ ?_; rotate_left
   ·simp only [unwA, Act.put, sa_, sb_, sc_, i64_w, i32_w]; rfl
   refine pw_ 14 23 (v := ?_) (a' := ?_) (mB 44 32767) rfl rfl HT_ (by kernel_rfl) (fun _ _ _ h => h) ?_ ?_ ?_; rotate_left
   ·intro w'; go_simp; with_reducible rfl
   rotate_left
   ·simp only [Act.put, sa_, sb_, sc_, i64_w, i32_w]; rfl
   refine pw_ 15 24 (v := ?_) (a' := ?_) (mB 44 65535) rfl rfl HT_ (by kernel_rfl) (fun _ _ _ h => h) ?_ ?_ ?_; rotate_left
   ·intro w'; go_simp; with_reducible rfl
   rotate_left
   ·simp only [Act.put, sa_, sb_, sc_, i64_w, i32_w]; rfl
   refine un_ [(16, 25), (17, 26), (18, 27), (19, 28), (20, 29)] (fuel := 23) (a' := ?_) (mB 44 2097151) rfl HT_ (by kernel_rfl) (by kernel_rfl) (fun _ _ _ _ h => h) ?_ ?_; rotate_left
   ·simp only [unwA, Act.put, sa_, sb_, sc_, i64_w, i32_w]; rfl
   refine pw_ 21 30 (v := ?_) (a' := ?_) (mB 44 4194303) rfl rfl HT_ (by kernel_rfl) (fun _ _ _ h => h) ?_ ?_ ?_; rotate_left
   ·intro w'; go_simp; with_reducible rfl
   rotate_left
   ·simp only [Act.put, sa_, sb_, sc_, i64_w, i32_w]; rfl
   refine pw_ 22 31 (v := ?_) (a' := ?_) (mB 44 8388607) rfl rfl HT_ (by kernel_rfl) (fun _ _ _ h => h) ?_ ?_ ?_; rotate_left
   ·intro w'; go_simp; with_reducible rfl
   rotate_left
   ·simp only [Act.put, sa_, sb_, sc_, i64_w, i32_w]; rfl
   refine un_ [(23, 32), (24, 33), (25, 34), (26, 35), (27, 36), (28, 37), (29, 38)] (fuel := 14) (a' := ?_) (mB 44 1073741823) rfl HT_ (by kernel_rfl) (by kernel_rfl) (fun _ _ _ _ h => h) ?_ ?_; rotate_left
   ·simp only [unwA, Act.put, sa_, sb_, sc_, i64_w, i32_w]; rfl
   refine pw_ 30 39 (v := ?_) (a' := ?_) (mB 44 2147483647) rfl rfl HT_ (by kernel_rfl) (fun _ _ _ h => h) ?_ ?_ ?_; rotate_left
   ·intro w'; go_simp; with_reducible rfl
   rotate_left
   ·simp only [Act.put, sa_, sb_, sc_, i64_w, i32_w]; rfl
   refine pw_ 31 40 (v := ?_) (a' := ?_) (mB 44 4294967295) rfl rfl HT_ (by kernel_rfl) (fun _ _ _ h => h) ?_ ?_ ?_; rotate_left
   ·intro w'; go_simp; with_reducible rfl
   rotate_left
   ·simp only [Act.put, sa_, sb_, sc_, i64_w, i32_w]; rfl
   refine un_ [(32, 41), (33, 42), (34, 43), (35, 44), (36, 45), (37, 46), (38, 47), (39, 48), (40, 49), (41, 50), (42, 51)] (fuel := 1) (a' := ?_) (mB 44 8796093022207) rfl HT_ (by kernel_rfl) (by kernel_rfl) (fun _ _ _ _ h => h) ?_ ?_; rotate_left
   ·simp only [unwA, Act.put, sa_, sb_, sc_, i64_w, i32_w]; rfl
   refine pw_ 43 52 (v := ?_) (a' := ?_) (mB 44 17592186044415) rfl rfl HT_ (by kernel_rfl) (fun _ _ _ h => h) ?_ ?_ ?_; rotate_left
   ·intro w'; go_simp; with_reducible rfl
   rotate_left
   ·simp only [Act.put, sa_, sb_, sc_, i64_w, i32_w]; rfl
   refine done_ (done_of HT_.out (by kernel_rfl)) ?_
   try go_wp2
   go_meet
   case rel => exact ⟨_, (true), (by first | rfl | (simp; done) | (simp [*]; done)), H', ⟨by first | omega | exact Nat.le_refl _⟩, ⟨bk_ BK219⟩, ⟨bk_ BK220⟩, ⟨bk_ BK221⟩, ⟨bl_ HB⟩⟩
 case rest =>
  clear HC3; (try clear c1); (try clear p2); (try clear c8); (try clear c10); (try clear c17); obtain ⟨kq, x52_2, rfl, HA, HJ2, BK219, BK220, BK221, HB⟩ := hcut
  cases kq with
  | zero => exact absurd HA.out (by simp [least_Merge.j0])
  | succ kj2 =>
   have H := HA.out; clear HA; simp only [least_Merge.j0] at H
   by_cases c33 : x52_2 = true
   ·subst c33
    have H1 : (some (0, 0, ([] : List (List Int)), 1)) = some (r1, r2, r3, r4) := by rw [if_pos rfl] at H; exact H
    clear H; have H := H1; clear H1; simp only [Option.some.injEq, Prod.mk.injEq] at H; obtain ⟨rfl, rfl, rfl, rfl⟩ := H; have hnb34 := NB221_219.out; have hnc34 := NB219_221.out; have hnb35 := NB221_220.out; have hnc35 := NB220_221.out; have hcz36_0 : wc.cell? ⟨gb221, 0, none⟩ = some (.int .u64 0) := (blk_cell BK221.out 0).trans rfl; have hcz36_1 : wc.cell? ⟨gb221, 1, none⟩ = some (.int .i64 0) := (blk_cell BK221.out 1).trans rfl; have hcz36_2 : wc.cell? ⟨gb221, 2, none⟩ = some (.slice none 0 0) := (blk_cell BK221.out 2).trans rfl; have hfz36_0 := blk_frozen BK221.out 0; have hfz36_1 := blk_frozen BK221.out 1; have hfz36_2 := blk_frozen BK221.out 2
    go_wp2
    refine bodyPost_ret (results_ct rfl _ _ gb221 25 #[.int .u64 0, .int .i64 0, .slice none 0 0] (0, 0) _ rfl (by (with_reducible repeat (first | refine blk_drewN ?_ _ | refine blk_drew ?_ | refine blk_alloc ?_ _)); refine blk_put (cs := #[.int .u64 0, .int .i64 0, .slice none 0 0]) ?_ 2 _ rfl; (with_reducible repeat (first | refine blk_drewN ?_ _ | refine blk_drew ?_ | refine blk_alloc ?_ _)); refine blk_put (cs := #[.int .u64 0, .int .i64 0, .slice none 0 0]) ?_ 1 _ rfl; (with_reducible repeat (first | refine blk_drewN ?_ _ | refine blk_drew ?_ | refine blk_alloc ?_ _)); refine blk_put (cs := #[.int .u64 0, .int .i64 0, .slice none 0 0]) ?_ 0 _ rfl; (with_reducible repeat (first | refine blk_drewN ?_ _ | refine blk_drew ?_ | refine blk_alloc ?_ _)); exact BK221.out) Try.underlying25 rfl (by kernel_rfl)) rfl ?_; exact ⟨_, by first | rfl | (simp [errW_none, errW_some] <;> rfl) | (simp [*, errW_none, errW_some] <;> rfl), by first | exact Kd.S_nil _ _ _ _ _ | exact Kd.N_nil _ _ _ _ _ | exact Kd.V_nil _ _ _ _ _ | exact Kd.Q_nil _ _ _ _ _ | exact Kd.R_nil _ _ _ _ _, bl_ HB⟩
   ·replace c33 := Bool.eq_false_iff.mpr c33; subst c33
    have H1 : ((least_clone.f kj2 a0_0 a0_1 l0_2).bind fun bt226 => (least_Merge.l0 kj2 l1_2 bt226.2.2 (bt226.2.2.length : Int) 0 bt226.1 bt226.2.1)) = some (r1, r2, r3, r4) := by rw [if_neg (show ¬ (false = true) by decide)] at H; exact H
    clear H; have H := H1; clear H1; replace H := Option.bind_eq_some_iff.mp H; obtain ⟨⟨t226, t227, t228⟩, A370, H⟩ := H; replace H : (least_Merge.l0 kj2 l1_2 t228 (t228.length : Int) 0 t226 t227) = some (r1, r2, r3, r4) := H; have A37 := Aside0.mk A370; clear A370; have H' := Aside0.mk H; clear H; have hnb38 := NB219_220.out; have hnc38 := NB220_219.out; have hnb39 := NB219_221.out; have hnc39 := NB221_219.out; have hcz40_0 : wc.cell? ⟨gb219, 0, none⟩ = some (.int .u64 a0_0) := (blk_cell BK219.out 0).trans rfl; have hcz40_1 : wc.cell? ⟨gb219, 1, none⟩ = some (.int .i64 a0_1) := (blk_cell BK219.out 1).trans rfl; have hcz40_2 : wc.cell? ⟨gb219, 2, none⟩ = some (.slice A0_2 l0_2.length c0_2) := (blk_cell BK219.out 2).trans rfl; have hfz40_0 := blk_frozen BK219.out 0; have hfz40_1 := blk_frozen BK219.out 1; have hfz40_2 := blk_frozen BK219.out 2
    go_wp2_with (first | ((with_reducible refine gate_callee (f := 26) rfl ?_); refine goesL_ (some 55) rfl rfl Try.func26 (by kernel_rfl) rfl #[.agg #[.int .u64 a0_0, .int .i64 a0_1, .slice A0_2 l0_2.length c0_2]] rfl (by (try simp only [List.map_toArray, List.map_cons, List.map_nil]); first | done | rfl | (simp only [List.length_drop, List.length_take]; rfl)) ?_; (with_reducible refine (least_clone.calls kj2 a0_0 a0_1 _ _ l0_2 t226 t227 t228 _ ?side1 ?side2 A37.out).mono ?_); (case side1 => repeat (first | exact (Kd.C_below HR0_2.out HB.out) | (with_reducible refine Kd.C_alloc ?_ _) | (with_reducible refine Kd.C_drewN ?_ _) | (with_reducible refine Kd.C_drew ?_))); (case side2 => exact HC0_2.out); rintro e w41 ⟨v229, rfl, ho0, hb⟩; refine ⟨_, rfl, ?_⟩; have n0_ := Aside0.mk (Kd.S_lower ho0 (below_size (bl_ HB))); have n1_ := Aside0.mk (blk_below (bk_ BK219) hb); have n2_ := Aside0.mk (blk_below (bk_ BK220) hb); have n3_ := Aside0.mk (blk_below (bk_ BK221) hb); have n4_ := Aside0.mk (below_step (bl_ HB) hb); clear BK219; clear BK220; clear BK221; clear HB; have HO230 := n0_; have BK219 := n1_; have BK220 := n2_; have BK221 := n3_; have HB := n4_; clear n0_ n1_ n2_ n3_ n4_; (try clear hb); (try clear hb2); (try clear hk); (try clear hi); (try clear ho0); have hcz42_0 : w41.cell? ⟨gb219, 0, none⟩ = some (.int .u64 a0_0) := (blk_cell BK219.out 0).trans rfl; have hcz42_1 : w41.cell? ⟨gb219, 1, none⟩ = some (.int .i64 a0_1) := (blk_cell BK219.out 1).trans rfl; have hcz42_2 : w41.cell? ⟨gb219, 2, none⟩ = some (.slice A0_2 l0_2.length c0_2) := (blk_cell BK219.out 2).trans rfl; have hfz42_0 := blk_frozen BK219.out 0; have hfz42_1 := blk_frozen BK219.out 1; have hfz42_2 := blk_frozen BK219.out 2; obtain ⟨Ao43, co43, eo43⟩ := Kd.S_slice HO230.out; subst eo43))
    go_loopg [59] kj2 (fun kq v59 w' => ∃ (x59_2 : Int) (cur : List (List Int)), v59 = .int .i64 x59_2 ∧ Aside0 (cur.length = t228.length) ∧ Aside0 (least_Merge.l0 kq l1_2 cur (t228.length : Int) x59_2 t226 t227 = some (r1, r2, r3, r4)) ∧ Aside0 (kq ≤ kj2) ∧ Aside0 (Kd.S (Kd.slice 3 (Kd.int .i64)) 33 w' w.heap.size (fun _ => True) (.slice Ao43 t228.length co43) cur) ∧ Aside0 (w'.heap[gb219]? = some (.cells #[.int .u64 t226, .int .i64 t227, (.slice Ao43 t228.length co43)] 25 (0, 0))) ∧ Aside0 (w'.heap[gb220]? = some (.cells #[.int .u64 a1_0, .int .i64 a1_1, (.slice A1_2 l1_2.length c1_2)] 25 (0, 0))) ∧ Aside0 (w'.heap[gb221]? = some (.cells #[.int .u64 0, .int .i64 0, (.slice none 0 0)] 25 (0, 0))) ∧ Aside0 (Below w.heap.size w w'))
    case atStart => exact ⟨(0), t228, (by first | rfl | (simp; done) | (simp [*]; done)), ⟨rfl⟩, H', ⟨Nat.le_refl _⟩, ⟨by (with_reducible repeat (first | apply Kd.S_alloc | apply Kd.S_drewN | apply Kd.S_drew)); exact Kd.S_mono (Kd.S_far (p := ⟨gb219, 2, none⟩) (Kd.S_far (p := ⟨gb219, 1, none⟩) (Kd.S_far (p := ⟨gb219, 0, none⟩) (Kd.S_types HO230.out BK219.out (by decide)) (fun _ hk => hk.2) (.int .u64 t226)) (fun _ hk => hk.2) (.int .i64 t227)) (fun _ hk => hk.2) (.slice Ao43 t228.length co43)) (fun _ hk => trivial)⟩, ⟨by (with_reducible repeat (first | refine blk_drewN ?_ _ | refine blk_drew ?_ | refine blk_alloc ?_ _)); refine blk_put (cs := #[.int .u64 t226, .int .i64 t227, .slice A0_2 l0_2.length c0_2]) ?_ 2 _ rfl; (with_reducible repeat (first | refine blk_drewN ?_ _ | refine blk_drew ?_ | refine blk_alloc ?_ _)); refine blk_put (cs := #[.int .u64 t226, .int .i64 a0_1, .slice A0_2 l0_2.length c0_2]) ?_ 1 _ rfl; (with_reducible repeat (first | refine blk_drewN ?_ _ | refine blk_drew ?_ | refine blk_alloc ?_ _)); refine blk_put (cs := #[.int .u64 a0_0, .int .i64 a0_1, .slice A0_2 l0_2.length c0_2]) ?_ 0 _ rfl; (with_reducible repeat (first | refine blk_drewN ?_ _ | refine blk_drew ?_ | refine blk_alloc ?_ _)); exact BK219.out⟩, ⟨by (with_reducible repeat (first | refine blk_drewN ?_ _ | refine blk_drew ?_ | refine blk_alloc ?_ _)); refine blk_far ?_ NB220_219.out _; (with_reducible repeat (first | refine blk_drewN ?_ _ | refine blk_drew ?_ | refine blk_alloc ?_ _)); refine blk_far ?_ NB220_219.out _; (with_reducible repeat (first | refine blk_drewN ?_ _ | refine blk_drew ?_ | refine blk_alloc ?_ _)); refine blk_far ?_ NB220_219.out _; (with_reducible repeat (first | refine blk_drewN ?_ _ | refine blk_drew ?_ | refine blk_alloc ?_ _)); exact BK220.out⟩, ⟨by (with_reducible repeat (first | refine blk_drewN ?_ _ | refine blk_drew ?_ | refine blk_alloc ?_ _)); refine blk_far ?_ NB221_219.out _; (with_reducible repeat (first | refine blk_drewN ?_ _ | refine blk_drew ?_ | refine blk_alloc ?_ _)); refine blk_far ?_ NB221_219.out _; (with_reducible repeat (first | refine blk_drewN ?_ _ | refine blk_drew ?_ | refine blk_alloc ?_ _)); refine blk_far ?_ NB221_219.out _; (with_reducible repeat (first | refine blk_drewN ?_ _ | refine blk_drew ?_ | refine blk_alloc ?_ _)); exact BK221.out⟩, ⟨bl_ HB⟩⟩
    case round =>
     clear H'; (try clear c1); (try clear c2); (try clear p2); (try clear c3); (try clear c8); (try clear c10); (try clear c17); (try clear c26); (try clear c33); (try clear c34); (try clear c35); (try clear c38); (try clear c39); (try clear hcz36_0); (try clear hcz36_1); (try clear hcz36_2); (try clear hcz40_0); (try clear hcz40_1); (try clear hcz40_2); (try clear hcz42_0); (try clear hcz42_1); (try clear hcz42_2); (try clear hfz36_0); (try clear hfz36_1); (try clear hfz36_2); (try clear hfz40_0); (try clear hfz40_1); (try clear hfz40_2); (try clear hfz42_0); (try clear hfz42_1); (try clear hfz42_2); (try clear p2); obtain ⟨x59_2, cur, rfl, HLEN, HA, HK2, HO_57, BK219, BK220, BK221, HB⟩ := hrel
     cases gk with
     | zero => exact absurd HA.out (by simp [least_Merge.l0])
     | succ k2 =>
      have H := HA.out; clear HA; simp only [least_Merge.l0] at H
      by_cases c44 : x59_2 < (t228.length : Int)
      ·rw [if_pos c44] at H; have c44b0 : decide (x59_2 < (t228.length : Int)) = true := decide_eq_true c44
       by_cases c45 : 0 ≤ x59_2
       ·rw [if_pos c45] at H; have c45b0 : decide (0 ≤ x59_2) = true := decide_eq_true c45
        by_cases c46 : x59_2 < (cur.length : Int)
        ·rw [if_pos c46] at H; have H' := Aside0.mk H; clear H; obtain ⟨ad, A1, c1, e1, hx1, hl1, hi1⟩ := at_L1 (Kd.S_reads' HO_57.out).2.2 x59_2 c45 c46
         cases e1; have HX1 := Aside0.mk hx1; clear hl1 hi1; have P0 := Aside0.mk c45; have P1 := Aside0.mk c46; have P2 := Aside0.mk c44; replace c45 := eq_true c45; replace c44 := eq_true c44; clear c46
         go_wp2
         go_loopg [66] k2 (fun kq v66 w' => ∃ (x66_3 : Int) (cu : List (List Int)), v66 = .int .i64 x66_3 ∧ Aside0 (cu.length = t228.length) ∧ Aside0 ((rd_L1 cu x59_2).length = (rd_L1 cur x59_2).length) ∧ Aside0 (least_Merge.l1 kq l1_2 cu (t228.length : Int) x59_2 ((rd_L1 cur x59_2).length : Int) x66_3 t226 t227 = some (r1, r2, r3, r4)) ∧ Aside0 (kq ≤ k2) ∧ Aside0 (Kd.S (Kd.slice 3 (Kd.int .i64)) 33 w' w.heap.size (fun _ => True) (.slice (some ad) t228.length co43) cu) ∧ Aside0 (w'.cell? (ad.add x59_2.toNat) = some (.slice A1 (rd_L1 cur x59_2).length c1)) ∧ Aside0 (w'.heap[gb219]? = some (.cells #[.int .u64 t226, .int .i64 t227, (.slice (some ad) t228.length co43)] 25 (0, 0))) ∧ Aside0 (w'.heap[gb220]? = some (.cells #[.int .u64 a1_0, .int .i64 a1_1, (.slice A1_2 l1_2.length c1_2)] 25 (0, 0))) ∧ Aside0 (w'.heap[gb221]? = some (.cells #[.int .u64 0, .int .i64 0, (.slice none 0 0)] 25 (0, 0))) ∧ Aside0 (Below w.heap.size w w'))
         case atStart => exact ⟨(0), cur, (by first | rfl | (simp; done) | (simp [*]; done)), HLEN, ⟨rfl⟩, H', ⟨Nat.le_refl _⟩, HO_57, HX1, BK219, BK220, BK221, HB⟩
         case round =>
          clear H' HX1 HO_57 BK219 BK220 BK221 HB; obtain ⟨x66_3, cu, rfl, HLEN2, HROW, HA, HK3, HO_57, HX1, BK219, BK220, BK221, HB⟩ := hrel
          cases gk with
          | zero => exact absurd HA.out (by simp [least_Merge.l1])
          | succ k3 =>
           have H := HA.out; clear HA; simp only [least_Merge.l1] at H
           by_cases c47 : x66_3 < ((rd_L1 cur x59_2).length : Int)
           ·rw [if_pos c47] at H; have c47b0 : decide (x66_3 < ((rd_L1 cur x59_2).length : Int)) = true := decide_eq_true c47
            by_cases c48 : 0 ≤ x66_3
            ·rw [if_pos c48] at H
             by_cases c49 : x59_2 < (l1_2.length : Int)
             ·rw [if_pos c49] at H
              by_cases c50 : x66_3 < ((rd_L1 l1_2 x59_2).length : Int)
              ·rw [if_pos c50] at H; have H' := Aside0.mk H; clear H; have HO4 := Aside0.mk (Kd.S_drew HO_57.out); have BK4 := Aside0.mk (blk_drew BK219.out); have BB4 := Aside0.mk (blk_drew BK220.out); have BL4 := Aside0.mk (blk_drew BK221.out); have HB4 := Aside0.mk (below_drew1 HB.out); have HX4 : Aside0 (wr.drew.cell? (ad.add x59_2.toNat) = some (.slice A1 (rd_L1 cu x59_2).length c1)) := ⟨by rw [HROW.out]; exact HX1.out⟩; have P3 := Aside0.mk c48; have P4 := Aside0.mk c49; have P5 := Aside0.mk c50; have P6 : Aside0 (x66_3 < ((rd_L1 cu x59_2).length : Int)) := ⟨by rw [HROW.out]; exact c47⟩; clear c48 c49 c50; replace c47 := eq_true c47
               go_wp2_with fail
               refine wp_region_still_tail 19 (by kernel_rfl) (by kernel_rfl) ?_
               change wpStill _ _ wr.drew (fun a' => wpList _ _ _ _ a' wr.drew) _ _
               generalize wr.drew = w4 at *; obtain ⟨adb, Ab, cb, eb, hxb, hlb, hib⟩ := at_L1 (Kd.C_below HR1_2.out HB4.out) x59_2 P0.out P4.out
               cases eb; obtain ⟨adc, ec, hxc⟩ := Kd.at_int hib x66_3 P3.out P5.out
               cases ec; clear hlb hib; obtain ⟨oki, cc, hcl, hM, hcc, hoki, hback⟩ := Kd.S_borrow HO4.out [] x59_2 P0.out (by first | exact P2.out | (rw [HLEN2.out]; exact P2.out)); obtain ⟨v4, rfl, hR⟩ := hM; have hv := hcc 0 _ rfl; rw [Nat.add_zero, show ((Kd.slice 3 (Kd.int .i64))).sz = 1 from rfl, Nat.mul_one] at hv; replace hv := Option.some.inj (hv.symm.trans HX4.out); subst hv; clear hcc hcl; have hR2 : (Kd.int .i64).R 3 w4 w.heap.size oki (.slice A1 (rd_L1 cu x59_2).length c1) (rd_L1 cu x59_2) := hR; clear hR; obtain ⟨g1, cap1, eg, hg1, hg2, cells, hcells⟩ := Kd.R_form hR2 (by have := P3.out; have := P6.out; omega)
               cases eg; have hfr := blk_frozen hcells x66_3.toNat; obtain ⟨A5, c5, e5, hl5, hC5⟩ := Kd.R_reads hR2
               cases e5; obtain ⟨ad5, e5, hx5⟩ := Kd.at_int hC5 x66_3 P3.out P6.out
               cases e5; have HBACK := Aside0.mk (@hback); clear hback; have HRR := Aside0.mk hR2; have HCE := Aside0.mk hcells; have HG1 := Aside0.mk hg1; have HOK := Aside0.mk hoki; clear hR2 hC5 hl5 hoki hg2 hcells hg1; rw [Addr.add_lit, Nat.zero_add] at hx5; have hz1 : w4.cell? ⟨gb219, 1, none⟩ = some (.int .i64 t227) := (blk_cell BK4.out 1).trans rfl; have hz2 : w4.cell? ⟨gb220, 2, none⟩ = some (.slice (some adb) l1_2.length c1_2) := (blk_cell BB4.out 2).trans rfl; have q0 := eq_true P3.out; have q1 := eq_true P6.out; have q2 := eq_true P4.out; have q3 := eq_true P5.out; simp only [List.take_succ_cons, List.take_zero, List.drop_succ_cons, List.drop_zero]
               repeat still_step
               try refine wpStill_nil ?_
               have hmn : (if t227 < IntKind.i64.wrap ((rd (rd_L1 cu x59_2) x66_3) + (rd (rd_L1 l1_2 x59_2) x66_3)) then t227 else IntKind.i64.wrap ((rd (rd_L1 cu x59_2) x66_3) + (rd (rd_L1 l1_2 x59_2) x66_3))) = mn (wrap64 ((rd (rd_L1 cu x59_2) x66_3) + (rd (rd_L1 l1_2 x59_2) x66_3))) t227 := by rw [i64_w]; rfl
               rw [hmn]; clear hmn; generalize mn (wrap64 ((rd (rd_L1 cu x59_2) x66_3) + (rd (rd_L1 l1_2 x59_2) x66_3))) t227 = nv at *; have RP := Kd.R_put HRR.out x66_3 nv; have HS5 := Aside0.mk (show Kd.S (Kd.slice 3 (Kd.int .i64)) 33 (w4.setCell ⟨g1, (x66_3 : Int).toNat, none⟩ (.int .i64 nv)) w.heap.size (fun _ => True) (.slice (some ad) t228.length co43) (cu.set (x59_2 : Int).toNat ((rd_L1 cu x59_2).set (x66_3 : Int).toNat nv)) from HBACK.out RP.2 (fun k_ hk_ => HRR.out.1 k_ (by rw [← hk_]; rfl)) ⟨_, rfl, RP.1⟩)
               have hne : ad.block ≠ g1 := fun e_ => (HOK.out g1 (HRR.out.1 g1 rfl)).2 (by rw [← e_]; simp [Value.ownBlock])
               have HX5 : Aside0 ((w4.setCell ⟨g1, (x66_3 : Int).toNat, none⟩ (.int .i64 nv)).cell? (ad.add x59_2.toNat) = some (.slice (some ⟨g1, 0, none⟩) (rd_L1 cur x59_2).length c1)) := ⟨by have h_ := HX4.out; rw [HROW.out] at h_; rw [← h_]; unfold World.cell?; rw [Below.heap_setCell _ _ _ _ (by have hb_ : (ad.add x59_2.toNat).block = ad.block := (by unfold Addr.add; split <;> rfl); rw [hb_]; first | exact hne | exact hne.symm)]⟩; have BK5 : Aside0 ((w4.setCell ⟨g1, (x66_3 : Int).toNat, none⟩ (.int .i64 nv)).heap[gb219]? = some (.cells #[.int .u64 t226, .int .i64 t227, (.slice (some ad) t228.length co43)] 25 (0, 0))) := ⟨blk_far BK4.out (blk_ne BK4.out HCE.out (by decide)) _⟩; have BB5 : Aside0 ((w4.setCell ⟨g1, (x66_3 : Int).toNat, none⟩ (.int .i64 nv)).heap[gb220]? = some (.cells #[.int .u64 a1_0, .int .i64 a1_1, (.slice (some adb) l1_2.length c1_2)] 25 (0, 0))) := ⟨blk_far BB4.out (blk_ne BB4.out HCE.out (by decide)) _⟩; have BL5 : Aside0 ((w4.setCell ⟨g1, (x66_3 : Int).toNat, none⟩ (.int .i64 nv)).heap[gb221]? = some (.cells #[.int .u64 0, .int .i64 0, (.slice none 0 0)] 25 (0, 0))) := ⟨blk_far BL4.out (blk_ne BL4.out HCE.out (by decide)) _⟩; have HB5 : Aside0 (Below w.heap.size w (w4.setCell ⟨g1, (x66_3 : Int).toNat, none⟩ (.int .i64 nv))) := ⟨below_set HB4.out HG1.out⟩
               have HROW5 : Aside0 ((rd_L1 (cu.set (x59_2 : Int).toNat ((rd_L1 cu x59_2).set (x66_3 : Int).toNat nv)) x59_2).length = (rd_L1 cur x59_2).length) := ⟨by rw [← HROW.out]; unfold rd_L1; by_cases h_ : x59_2.toNat < cu.length <;> simp [List.getD_eq_getElem?_getD, h_]⟩; clear RP
               go_wp2
               go_roundg k3
               case measure => have := HJ2.out; have := HK2.out; have := HK3.out; omega
               case rel => exact ⟨(wrap64 (x66_3 + 1)), _, (by first | rfl | (simp; done) | (simp [*]; done)), ⟨by rw [List.length_set]; exact HLEN2.out⟩, HROW5, H', ⟨by have := HJ2.out; have := HK2.out; have := HK3.out; omega⟩, HS5, HX5, BK5, BB5, BL5, HB5⟩
              ·rw [if_neg c50] at H; exact absurd H (by simp)
             ·rw [if_neg c49] at H; exact absurd H (by simp)
            ·rw [if_neg c48] at H; exact absurd H (by simp)
           ·rw [if_neg c47] at H; have c47b0 : decide (x66_3 < ((rd_L1 cur x59_2).length : Int)) = false := decide_eq_false c47; clear c47; have H' := Aside0.mk H; clear H
            go_wp2
            go_roundg k3
            case measure => have := HJ2.out; have := HK2.out; have := HK3.out; omega
            case rel => exact ⟨(wrap64 (x59_2 + 1)), cu, (by first | rfl | (simp; done) | (simp [*]; done)), HLEN2, H', ⟨by have := HJ2.out; have := HK2.out; have := HK3.out; omega⟩, HO_57, BK219, BK220, BK221, HB⟩
        ·rw [if_neg c46] at H; exact absurd H (by simp)
       ·rw [if_neg c45] at H; exact absurd H (by simp)
      ·rw [if_neg c44] at H; have c44b0 : decide (x59_2 < (t228.length : Int)) = false := decide_eq_false c44; clear c44; simp only [Option.some.injEq, Prod.mk.injEq] at H; obtain ⟨rfl, rfl, rfl, rfl⟩ := H; have hnb48 := NB219_220.out; have hnc48 := NB220_219.out; have hnb49 := NB219_221.out; have hnc49 := NB221_219.out; have hcz50_0 : wr.cell? ⟨gb219, 0, none⟩ = some (.int .u64 t226) := (blk_cell BK219.out 0).trans rfl; have hcz50_1 : wr.cell? ⟨gb219, 1, none⟩ = some (.int .i64 t227) := (blk_cell BK219.out 1).trans rfl; have hcz50_2 : wr.cell? ⟨gb219, 2, none⟩ = some (.slice Ao43 t228.length co43) := (blk_cell BK219.out 2).trans rfl; have hfz50_0 := blk_frozen BK219.out 0; have hfz50_1 := blk_frozen BK219.out 1; have hfz50_2 := blk_frozen BK219.out 2; have hnb51 := NB221_220.out; have hnc51 := NB220_221.out; have hcz52_0 : wr.cell? ⟨gb221, 0, none⟩ = some (.int .u64 0) := (blk_cell BK221.out 0).trans rfl; have hcz52_1 : wr.cell? ⟨gb221, 1, none⟩ = some (.int .i64 0) := (blk_cell BK221.out 1).trans rfl; have hcz52_2 : wr.cell? ⟨gb221, 2, none⟩ = some (.slice none 0 0) := (blk_cell BK221.out 2).trans rfl; have hfz52_0 := blk_frozen BK221.out 0; have hfz52_1 := blk_frozen BK221.out 1; have hfz52_2 := blk_frozen BK221.out 2
       go_wp2
       refine bodyPost_ret (results_ct rfl _ _ gb221 25 #[.int .u64 t226, .int .i64 t227, .slice Ao43 t228.length co43] (0, 0) _ rfl (by (with_reducible repeat (first | refine blk_drewN ?_ _ | refine blk_drew ?_ | refine blk_alloc ?_ _)); refine blk_put (cs := #[.int .u64 t226, .int .i64 t227, .slice none 0 0]) ?_ 2 _ rfl; (with_reducible repeat (first | refine blk_drewN ?_ _ | refine blk_drew ?_ | refine blk_alloc ?_ _)); refine blk_put (cs := #[.int .u64 t226, .int .i64 0, .slice none 0 0]) ?_ 1 _ rfl; (with_reducible repeat (first | refine blk_drewN ?_ _ | refine blk_drew ?_ | refine blk_alloc ?_ _)); refine blk_put (cs := #[.int .u64 0, .int .i64 0, .slice none 0 0]) ?_ 0 _ rfl; (with_reducible repeat (first | refine blk_drewN ?_ _ | refine blk_drew ?_ | refine blk_alloc ?_ _)); exact BK221.out) Try.underlying25 rfl (by kernel_rfl)) rfl ?_; exact ⟨_, by first | rfl | (simp [errW_none, errW_some] <;> rfl) | (simp [*, errW_none, errW_some] <;> rfl), by (with_reducible repeat (first | apply Kd.S_alloc | apply Kd.S_drewN | apply Kd.S_drew)); exact Kd.S_mono (Kd.S_far (p := ⟨gb221, 2, none⟩) (Kd.S_far (p := ⟨gb221, 1, none⟩) (Kd.S_far (p := ⟨gb221, 0, none⟩) (Kd.S_types HO_57.out BK221.out (by decide)) (fun _ hk => hk.2) (.int .u64 t226)) (fun _ hk => hk.2) (.int .i64 t227)) (fun _ hk => hk.2) (.slice Ao43 t228.length co43)) (fun _ hk => trivial), bl_ HB⟩

/-! ### rillmeterref11_capped: function 31 -/
def rillmeterref11_capped.f (a0 : Int) (a1 : Int) : Option (Int) := if a0 > a1 then (some a1) else (some a0)
set_option maxHeartbeats 80000000 in
set_option maxRecDepth 100000 in
theorem rillmeterref11_capped.calls (a0 : Int) (a1 : Int) (r : Int) (w : World) (h : rillmeterref11_capped.f a0 a1 = some r) :
    Calls Try.prog 31 #[.int .i64 a0, .int .i64 a1] w fun e w' => e = .returned (.int .i64 r) ∧ Drawn0 w w' := by
 have H : (if a0 > a1 then (some a1) else (some a0)) = some r := h; clear h
 by_cases c3 : a0 > a1
 ·rw [if_pos c3] at H; have c3b0 : decide (a1 < a0) = true := decide_eq_true c3; clear c3; obtain rfl := Option.some.inj H
  go_enter Try.func31, Try.ntmps31
  go_wp2
  go_ret; exact ⟨by first | rfl | (simp; done) | (simp [*]; done), by repeat (first | exact Drawn0.refl _ | apply Drawn0.step)⟩
 ·rw [if_neg c3] at H; have c3b0 : decide (a1 < a0) = false := decide_eq_false c3; clear c3; obtain rfl := Option.some.inj H
  go_enter Try.func31, Try.ntmps31
  go_wp2
  go_ret; exact ⟨by first | rfl | (simp; done) | (simp [*]; done), by repeat (first | exact Drawn0.refl _ | apply Drawn0.step)⟩

/-! ### rillmeterref11_Merge: function 24 -/
mutual
def rillmeterref11_Merge.l0 : Nat → List (List Int) → Int → Int → Int → List (List Int) → Int → Int → List (List Int) → Option (Int × Int × (List (List Int)))
  | 0, _, _, _, _, _, _, _, _ => none
  | k + 1, x5, x6, x233000, x233001, x233002, x234000, x234001, x234002 => if x6 < (x233002.length : Int) then (rillmeterref11_Merge.l1 k x5 x6 ([] : List Int) 0 x233000 x233001 x233002 x234000 x234001 x234002) else (some (x233000, x233001, x5))
def rillmeterref11_Merge.l1 : Nat → List (List Int) → Int → List Int → Int → Int → Int → List (List Int) → Int → Int → List (List Int) → Option (Int × Int × (List (List Int)))
  | 0, _, _, _, _, _, _, _, _, _, _ => none
  | k + 1, x5, x6, x7, x8, x233000, x233001, x233002, x234000, x234001, x234002 => if 0 ≤ x6 then (if x6 < (x233002.length : Int) then (if x8 < ((rd_L1 x233002 x6).length : Int) then (if 0 ≤ x8 then (if x6 < (x234002.length : Int) then (if x8 < ((rd_L1 x234002 x6).length : Int) then ((rillmeterref11_capped.f (wrap64 ((rd (rd_L1 x233002 x6) x8) + (rd (rd_L1 x234002 x6) x8))) x233001).bind fun t240 => (if x7.length < 17592186044416 then (rillmeterref11_Merge.l1 k x5 x6 (x7 ++ [t240]) (wrap64 (x8 + 1)) x233000 x233001 x233002 x234000 x234001 x234002) else (none))) else (none)) else (none)) else (none)) else (if x5.length < 5864062014805 then (rillmeterref11_Merge.l0 k (x5 ++ [x7]) (wrap64 (x6 + 1)) x233000 x233001 x233002 x234000 x234001 x234002) else (none))) else (none)) else (none)
end
def rillmeterref11_Merge.f (k : Nat) (a0_0 : Int) (a0_1 : Int) (l0_2 : List (List Int)) (a1_0 : Int) (a1_1 : Int) (l1_2 : List (List Int)) : Option (Int × Int × (List (List Int))) := rillmeterref11_Merge.l0 k ([] : List (List Int)) 0 a0_0 a0_1 l0_2 a1_0 a1_1 l1_2
theorem rillmeterref11_Merge.mono_l : ∀ k, (∀ y0 y1 y2 y3 y4 y5 y6 y7, LeO (rillmeterref11_Merge.l0 k y0 y1 y2 y3 y4 y5 y6 y7) (rillmeterref11_Merge.l0 (k + 1) y0 y1 y2 y3 y4 y5 y6 y7)) ∧ (∀ y0 y1 y2 y3 y4 y5 y6 y7 y8 y9, LeO (rillmeterref11_Merge.l1 k y0 y1 y2 y3 y4 y5 y6 y7 y8 y9) (rillmeterref11_Merge.l1 (k + 1) y0 y1 y2 y3 y4 y5 y6 y7 y8 y9))
  | 0 => ⟨fun _ _ _ _ _ _ _ _ r h => by simp [rillmeterref11_Merge.l0] at h, fun _ _ _ _ _ _ _ _ _ _ r h => by simp [rillmeterref11_Merge.l1] at h⟩
  | k + 1 => by
    obtain ⟨ih0, ih1⟩ := rillmeterref11_Merge.mono_l k
    refine ⟨?_, ?_⟩
    · intro y0 y1 y2 y3 y4 y5 y6 y7
      unfold rillmeterref11_Merge.l0
      repeat' first
      | (with_reducible exact ih0 _ _ _ _ _ _ _ _)
      | (with_reducible exact ih1 _ _ _ _ _ _ _ _ _ _)
      | (with_reducible exact LeO.refl _)
      | (with_reducible exact LeO.none _)
      | (with_reducible refine LeO.ite ?_ ?_)
      | (with_reducible refine LeO.bind ?_ (fun _ => ?_))
      | exact ih0 _ _ _ _ _ _ _ _
      | exact ih1 _ _ _ _ _ _ _ _ _ _
      | exact LeO.none _
      | refine LeO.ite ?_ ?_
      | refine LeO.bind ?_ (fun _ => ?_)
    · intro y0 y1 y2 y3 y4 y5 y6 y7 y8 y9
      unfold rillmeterref11_Merge.l1
      repeat' first
      | (with_reducible exact ih0 _ _ _ _ _ _ _ _)
      | (with_reducible exact ih1 _ _ _ _ _ _ _ _ _ _)
      | (with_reducible exact LeO.refl _)
      | (with_reducible exact LeO.none _)
      | (with_reducible refine LeO.ite ?_ ?_)
      | (with_reducible refine LeO.bind ?_ (fun _ => ?_))
      | exact ih0 _ _ _ _ _ _ _ _
      | exact ih1 _ _ _ _ _ _ _ _ _ _
      | exact LeO.none _
      | refine LeO.ite ?_ ?_
      | refine LeO.bind ?_ (fun _ => ?_)
theorem rillmeterref11_Merge.mono : ∀ a0 a1 a2 a3 a4 a5 k, LeO (rillmeterref11_Merge.f k a0 a1 a2 a3 a4 a5) (rillmeterref11_Merge.f (k + 1) a0 a1 a2 a3 a4 a5) := by
  intro a0 a1 a2 a3 a4 a5 k
  obtain ⟨ih0, ih1⟩ := rillmeterref11_Merge.mono_l k
  unfold rillmeterref11_Merge.f
  repeat' first
      | (with_reducible exact ih0 _ _ _ _ _ _ _ _)
      | (with_reducible exact ih1 _ _ _ _ _ _ _ _ _ _)
      | (with_reducible exact LeO.refl _)
      | (with_reducible exact LeO.none _)
      | (with_reducible refine LeO.ite ?_ ?_)
      | (with_reducible refine LeO.bind ?_ (fun _ => ?_))
      | exact ih0 _ _ _ _ _ _ _ _
      | exact ih1 _ _ _ _ _ _ _ _ _ _
      | exact LeO.none _
      | refine LeO.ite ?_ ?_
      | refine LeO.bind ?_ (fun _ => ?_)
def rillmeterref11_Merge.T9 : Bool × List (List Nat × List Nat) := (true, [([], []), ([], []), ([1], [1]), ([], []), ([2, 3], [2, 3]), ([4], [4]), ([], []), ([5, 6], [5, 6]), ([7], [7]), ([], []), ([9], [9]), ([], []), ([10, 11], [10, 11]), ([12], [12]), ([], []), ([13, 14], [13, 14]), ([15], [15]), ([8, 16], [8, 16]), ([], []), ([18], [18]), ([17, 19], [17, 19]), ([20], [20]), ([0, 21, 20], [0, 21]), ([22, 22, 0, 1, 2, 3, 4, 5, 6, 7, 8, 9, 10, 11, 12, 13, 14, 15, 16, 17, 18, 19, 20, 21, 22], [0, 22])])
def rillmeterref11_Merge.B9 : List Nat := [0, 0, 2, 0, 14, 30, 0, 126, 254, 0, 512, 0, 3584, 7680, 0, 32256, 65024, 131070, 0, 262144, 1048574, 2097150, 4194303, 8388607]
theorem rillmeterref11_Merge.tab9 : rtab .any (opsOf Try.f24 9) = rillmeterref11_Merge.T9 := by kernel_rfl
theorem rillmeterref11_Merge.bits9 : waitsOk rillmeterref11_Merge.T9.2 rillmeterref11_Merge.B9 = true := by kernel_rfl
set_option maxHeartbeats 80000000 in
set_option maxRecDepth 100000 in
theorem rillmeterref11_Merge.calls (k : Nat) (a0_0 : Int) (a0_1 : Int) (A0_2 : Option Addr) (c0_2 : Nat) (l0_2 : List (List Int)) (a1_0 : Int) (a1_1 : Int) (A1_2 : Option Addr) (c1_2 : Nat) (l1_2 : List (List Int)) (r1 : Int) (r2 : Int) (r3 : List (List Int)) (w : World) (hr0_2 : Kd.C (Kd.slice 3 (Kd.int .i64)) w A0_2 l0_2.length l0_2) (hc0_2 : l0_2.length ≤ c0_2) (hr1_2 : Kd.C (Kd.slice 3 (Kd.int .i64)) w A1_2 l1_2.length l1_2) (hc1_2 : l1_2.length ≤ c1_2) (h : rillmeterref11_Merge.f k a0_0 a0_1 l0_2 a1_0 a1_1 l1_2 = some (r1, r2, r3)) :
    Calls Try.prog 24 #[.agg #[.int .u64 a0_0, .int .i64 a0_1, .slice A0_2 l0_2.length c0_2], .agg #[.int .u64 a1_0, .int .i64 a1_1, .slice A1_2 l1_2.length c1_2]] w fun e w' => ∃ v2_ : Value, e = .returned (.agg #[.int .u64 r1, .int .i64 r2, v2_]) ∧ Kd.S (Kd.slice 3 (Kd.int .i64)) 33 w' w.heap.size (fun _ => True) v2_ r3 ∧ Below w.heap.size w w' := by
 have hu30 := Try.underlying30; have HR0_2 := Aside0.mk hr0_2; have HC0_2 := Aside0.mk hc0_2; clear hr0_2 hc0_2; have HR1_2 := Aside0.mk hr1_2; have HC1_2 := Aside0.mk hc1_2; clear hr1_2 hc1_2; have HB := Aside0.mk (Below.refl w.heap.size w); have H : (rillmeterref11_Merge.l0 k ([] : List (List Int)) 0 a0_0 a0_1 l0_2 a1_0 a1_1 l1_2) = some (r1, r2, r3) := h; clear h; have H' := Aside0.mk H; clear H
 go_enter Try.func24, Try.ntmps24
 go_wp2_with (first | ((with_reducible refine gate_dst (N := 2) rfl ?_); refine box_event ?hg (N := 2) ?hd (cs := #[.int .u64 a0_0, .int .i64 a0_1, .slice A0_2 l0_2.length c0_2]) (t := 30) ?hr ?_; (case hd => rfl); (case hg => rfl); (case hr => first | (go_simp; done) | (go_simp; rfl)); intro gb232 hg w3 hbox hb; have n0_ := Aside0.mk (below_step (bl_ HB) hb); have n1_ := Aside0.mk (hbox); have n2_ := Aside0.mk (gl_ hg HB); have n3_ := Aside0.mk (gl_ hg HB); clear HB; have HB := n0_; have BK232 := n1_; have GW232 := n2_; have GE232 := n3_; clear n0_ n1_ n2_ n3_; clear hb hbox hg) | ((with_reducible refine gate_dst (N := 3) rfl ?_); refine box_event ?hg (N := 3) ?hd (cs := #[.int .u64 a1_0, .int .i64 a1_1, .slice A1_2 l1_2.length c1_2]) (t := 30) ?hr ?_; (case hd => rfl); (case hg => rfl); (case hr => first | (go_simp; done) | (go_simp; rfl)); intro gb233 hg w4 hbox hb; have n0_ := Aside0.mk (blk_below (bk_ BK232) hb); have n1_ := Aside0.mk (below_step (bl_ HB) hb); have n2_ := Aside0.mk (hbox); have n3_ := Aside0.mk (gl_ hg HB); have n4_ := Aside0.mk (gl_ hg HB); have n5_ := Aside0.mk (nl_ hg BK232); have n6_ := Aside0.mk (ng_ hg BK232); clear BK232; clear HB; have BK232 := n0_; have HB := n1_; have BK233 := n2_; have GW233 := n3_; have GE233 := n4_; have NB232_233 := n5_; have NB233_232 := n6_; clear n0_ n1_ n2_ n3_ n4_ n5_ n6_; clear hb hbox hg) | ((with_reducible refine gate_dst (N := 4) rfl ?_); refine box_event ?hg (N := 4) ?hd (cs := #[.int .u64 0, .int .i64 0, .slice none 0 0]) (t := 30) ?hr ?_; (case hd => rfl); (case hg => rfl); (case hr => first | (go_simp; done) | (go_simp; rfl)); intro gb234 hg w5 hbox hb; have n0_ := Aside0.mk (blk_below (bk_ BK232) hb); have n1_ := Aside0.mk (blk_below (bk_ BK233) hb); have n2_ := Aside0.mk (below_step (bl_ HB) hb); have n3_ := Aside0.mk (hbox); have n4_ := Aside0.mk (gl_ hg HB); have n5_ := Aside0.mk (gl_ hg HB); have n6_ := Aside0.mk (nl_ hg BK232); have n7_ := Aside0.mk (ng_ hg BK232); have n8_ := Aside0.mk (nl_ hg BK233); have n9_ := Aside0.mk (ng_ hg BK233); clear BK232; clear BK233; clear HB; have BK232 := n0_; have BK233 := n1_; have HB := n2_; have BK234 := n3_; have GW234 := n4_; have GE234 := n5_; have NB232_234 := n6_; have NB234_232 := n7_; have NB233_234 := n8_; have NB234_233 := n9_; clear n0_ n1_ n2_ n3_ n4_ n5_ n6_ n7_ n8_ n9_; clear hb hbox hg))
 go_loopg [5, 6] k (fun kq v5 v6 w' => ∃ (x5_1 : List (List Int)) (x6_1 : Int), v6 = .int .i64 x6_1 ∧ Aside0 (rillmeterref11_Merge.l0 kq x5_1 x6_1 a0_0 a0_1 l0_2 a1_0 a1_1 l1_2 = some (r1, r2, r3)) ∧ Aside0 (kq ≤ k) ∧ Aside0 (Kd.S (Kd.slice 3 (Kd.int .i64)) 33 w' w.heap.size (fun _ => True) v5 x5_1) ∧ Aside0 (w'.heap[gb232]? = some (.cells #[.int .u64 a0_0, .int .i64 a0_1, (.slice A0_2 l0_2.length c0_2)] 30 (0, 0))) ∧ Aside0 (w'.heap[gb233]? = some (.cells #[.int .u64 a1_0, .int .i64 a1_1, (.slice A1_2 l1_2.length c1_2)] 30 (0, 0))) ∧ Aside0 (w'.heap[gb234]? = some (.cells #[.int .u64 0, .int .i64 0, (.slice none 0 0)] 30 (0, 0))) ∧ Aside0 (Below w.heap.size w w'))
 case atStart => exact ⟨(([] : List (List Int))), (0), (by first | rfl | (simp; done) | (simp [*]; done)), H', ⟨Nat.le_refl _⟩, ⟨by first | exact Kd.S_nil _ _ _ _ _ | exact Kd.N_nil _ _ _ _ _ | exact Kd.V_nil _ _ _ _ _ | exact Kd.Q_nil _ _ _ _ _ | exact Kd.R_nil _ _ _ _ _⟩, ⟨bk_ BK232⟩, ⟨bk_ BK233⟩, ⟨bk_ BK234⟩, ⟨bl_ HB⟩⟩
 case round =>
  clear H'; (try clear c1); (try clear c2); (try clear p2); obtain ⟨x5_1, x6_1, rfl, HA, HK1, HO_5, BK232, BK233, BK234, HB⟩ := hrel
  cases gk with
  | zero => exact absurd HA.out (by simp [rillmeterref11_Merge.l0])
  | succ k1 =>
   have H := HA.out; clear HA; simp only [rillmeterref11_Merge.l0] at H
   by_cases c6 : x6_1 < (l0_2.length : Int)
   ·rw [if_pos c6] at H; have c6b0 : decide (x6_1 < (l0_2.length : Int)) = true := decide_eq_true c6; clear c6; have H' := Aside0.mk H; clear H; have hnb7 := NB232_233.out; have hnc7 := NB233_232.out; have hnb8 := NB232_234.out; have hnc8 := NB234_232.out; have hcz9_0 : wr.cell? ⟨gb232, 0, none⟩ = some (.int .u64 a0_0) := (blk_cell BK232.out 0).trans rfl; have hcz9_1 : wr.cell? ⟨gb232, 1, none⟩ = some (.int .i64 a0_1) := (blk_cell BK232.out 1).trans rfl; have hcz9_2 : wr.cell? ⟨gb232, 2, none⟩ = some (.slice A0_2 l0_2.length c0_2) := (blk_cell BK232.out 2).trans rfl; have hfz9_0 := blk_frozen BK232.out 0; have hfz9_1 := blk_frozen BK232.out 1; have hfz9_2 := blk_frozen BK232.out 2
    go_wp2
    go_loopg [7, 8] k1 (fun kq v7 v8 w' => ∃ (x7_2 : List Int) (x8_2 : Int), v8 = .int .i64 x8_2 ∧ Aside0 (rillmeterref11_Merge.l1 kq x5_1 x6_1 x7_2 x8_2 a0_0 a0_1 l0_2 a1_0 a1_1 l1_2 = some (r1, r2, r3)) ∧ Aside0 (kq ≤ k1) ∧ Aside0 (Kd.S (Kd.slice 3 (Kd.int .i64)) 33 w' w.heap.size (fun k_ => some k_ ≠ (v7 : Value).ownBlock) u5 x5_1) ∧ Aside0 (Kd.R (Kd.int .i64) 3 w' w.heap.size (fun _ => True) v7 x7_2) ∧ Aside0 (w'.heap[gb232]? = some (.cells #[.int .u64 a0_0, .int .i64 a0_1, (.slice A0_2 l0_2.length c0_2)] 30 (0, 0))) ∧ Aside0 (w'.heap[gb233]? = some (.cells #[.int .u64 a1_0, .int .i64 a1_1, (.slice A1_2 l1_2.length c1_2)] 30 (0, 0))) ∧ Aside0 (w'.heap[gb234]? = some (.cells #[.int .u64 0, .int .i64 0, (.slice none 0 0)] 30 (0, 0))) ∧ Aside0 (Below w.heap.size w w'))
    case atStart => exact ⟨(([] : List Int)), (0), (by first | rfl | (simp; done) | (simp [*]; done)), H', ⟨Nat.le_refl _⟩, ⟨by (with_reducible repeat (first | apply Kd.S_alloc | apply Kd.S_drewN | apply Kd.S_drew)); exact Kd.S_mono HO_5.out (fun _ hk => (by simp [Value.ownBlock]))⟩, ⟨by first | exact Kd.R_nil _ _ _ _ _ | exact Kd.N_nil _ _ _ _ _ | exact Kd.V_nil _ _ _ _ _ | exact Kd.Q_nil _ _ _ _ _ | exact Kd.S_nil _ _ _ _ _⟩, ⟨bk_ BK232⟩, ⟨bk_ BK233⟩, ⟨bk_ BK234⟩, ⟨bl_ HB⟩⟩
    case round =>
     clear H'; (try clear c1); (try clear c2); (try clear p2); (try clear c6); (try clear c6b0); (try clear c7); (try clear c8); (try clear hcz9_0); (try clear hcz9_1); (try clear hcz9_2); (try clear hfz9_0); (try clear hfz9_1); (try clear hfz9_2); (try clear p2); obtain ⟨x7_2, x8_2, rfl, HA, HK2, HO_5, HO_7, BK232, BK233, BK234, HB⟩ := hrel
     cases gk with
     | zero => exact absurd HA.out (by simp [rillmeterref11_Merge.l1])
     | succ k2 =>
      have H := HA.out; clear HA; simp only [rillmeterref11_Merge.l1] at H
      by_cases c10 : 0 ≤ x6_1
      ·rw [if_pos c10] at H; have c10b0 : decide (0 ≤ x6_1) = true := decide_eq_true c10; clear c10
       by_cases c11 : x6_1 < (l0_2.length : Int)
       ·rw [if_pos c11] at H; have c11b0 : decide (x6_1 < (l0_2.length : Int)) = true := decide_eq_true c11; clear c11
        by_cases c12 : x8_2 < ((rd_L1 l0_2 x6_1).length : Int)
        ·rw [if_pos c12] at H; have c12b0 : decide (x8_2 < ((rd_L1 l0_2 x6_1).length : Int)) = true := decide_eq_true c12; clear c12
         by_cases c13 : 0 ≤ x8_2
         ·rw [if_pos c13] at H; have c13b0 : decide (0 ≤ x8_2) = true := decide_eq_true c13; clear c13
          by_cases c14 : x6_1 < (l1_2.length : Int)
          ·rw [if_pos c14] at H; have c14b0 : decide (x6_1 < (l1_2.length : Int)) = true := decide_eq_true c14; clear c14
           by_cases c15 : x8_2 < ((rd_L1 l1_2 x6_1).length : Int)
           ·rw [if_pos c15] at H; have c15b0 : decide (x8_2 < ((rd_L1 l1_2 x6_1).length : Int)) = true := decide_eq_true c15; clear c15; replace H := Option.bind_eq_some_iff.mp H; obtain ⟨t240, A160, H⟩ := H; replace H : (if x7_2.length < 17592186044416 then (rillmeterref11_Merge.l1 k2 x5_1 x6_1 (x7_2 ++ [t240]) (wrap64 (x8_2 + 1)) a0_0 a0_1 l0_2 a1_0 a1_1 l1_2) else (none)) = some (r1, r2, r3) := H; have A16 := Aside0.mk A160; clear A160
            by_cases c17 : x7_2.length < 17592186044416
            ·rw [if_pos c17] at H; have LMc17 := Aside0.mk c17; clear c17; obtain ⟨y241, hy241⟩ : ∃ y_ : List Int, y_ = (x7_2 ++ [t240]) := ⟨_, rfl⟩
             replace H : (rillmeterref11_Merge.l1 k2 x5_1 x6_1 y241 (wrap64 (x8_2 + 1)) a0_0 a0_1 l0_2 a1_0 a1_1 l1_2) = some (r1, r2, r3) := by first | (rw [hy241]; with_reducible exact H) | (have H2_ := (Option.bind_some _ _).symm.trans H; rw [hy241]; with_reducible exact H2_) | (have H2_ := (Option.bind_some _ _).symm.trans H; with_reducible exact H2_) | with_reducible exact H | (rw [hy241]; exact H) | exact H
             have Ny241 := Aside0.mk hy241; clear hy241; have H' := Aside0.mk H; clear H; have hnb18 := NB232_233.out; have hnc18 := NB233_232.out; have hnb19 := NB232_234.out; have hnc19 := NB234_232.out; have hcz20_0 : wr.cell? ⟨gb232, 0, none⟩ = some (.int .u64 a0_0) := (blk_cell BK232.out 0).trans rfl; have hcz20_1 : wr.cell? ⟨gb232, 1, none⟩ = some (.int .i64 a0_1) := (blk_cell BK232.out 1).trans rfl; have hcz20_2 : wr.cell? ⟨gb232, 2, none⟩ = some (.slice A0_2 l0_2.length c0_2) := (blk_cell BK232.out 2).trans rfl; have hfz20_0 := blk_frozen BK232.out 0; have hfz20_1 := blk_frozen BK232.out 1; have hfz20_2 := blk_frozen BK232.out 2; have p235 : 0 ≤ (x6_1 : Int) := of_decide_eq_true (by first | (with_reducible assumption) | assumption); have q235 : x6_1 < (l0_2.length : Int) := of_decide_eq_true (by first | (with_reducible assumption) | assumption); obtain ⟨ad235, A235_0, c235_0, e235, hx235_0, hl235_0, hi235_0⟩ := at_L1 HR0_2.out x6_1 p235 q235
             cases e235; replace hx235_0 := (HB.out.cell (World.block_lt_of_cell? w _ hx235_0)).trans hx235_0; have HR235_0 := Aside0.mk hi235_0; have HC235_0 := Aside0.mk hl235_0; clear hi235_0 hl235_0; replace p235 := eq_true p235; replace q235 := eq_true q235
             try go_wp2
             replace HO_5 := Aside0.mk (Kd.S_drew HO_5.out); replace HO_7 := Aside0.mk (Kd.R_drew HO_7.out); replace BK232 := Aside0.mk (blk_drew BK232.out); replace BK233 := Aside0.mk (blk_drew BK233.out); replace BK234 := Aside0.mk (blk_drew BK234.out); replace HB := Aside0.mk (below_drew1 HB.out); have p236 : 0 ≤ (x6_1 : Int) := of_decide_eq_true (by first | (with_reducible assumption) | assumption); have q236 : x6_1 < (l0_2.length : Int) := of_decide_eq_true (by first | (with_reducible assumption) | assumption); obtain ⟨ad236, A236_0, c236_0, e236, hx236_0, hl236_0, hi236_0⟩ := at_L1 HR0_2.out x6_1 p236 q236; have hw236_0 := hx236_0; obtain rfl : ad235 = ad236 := (by injection e236); replace hx236_0 := (HB.out.cell (World.block_lt_of_cell? w _ hx236_0)).trans hx236_0; have HR236_0 := Aside0.mk hi236_0; have HC236_0 := Aside0.mk hl236_0; clear hi236_0 hl236_0; replace p236 := eq_true p236; replace q236 := eq_true q236; have p237 : 0 ≤ (x8_2 : Int) := of_decide_eq_true (by first | (with_reducible assumption) | assumption); have q237 : x8_2 < ((rd_L1 l0_2 x6_1).length : Int) := of_decide_eq_true (by first | (with_reducible assumption) | assumption); obtain ⟨ad237, e237, hx237_0⟩ := Kd.at_int HR236_0.out x8_2 p237 q237; have hw237_0 := hx237_0
             cases e237; replace hx237_0 := (HB.out.cell (World.block_lt_of_cell? w _ hx237_0)).trans hx237_0; replace p237 := eq_true p237; replace q237 := eq_true q237; have p238 : 0 ≤ (x6_1 : Int) := of_decide_eq_true (by first | (with_reducible assumption) | assumption); have q238 : x6_1 < (l1_2.length : Int) := of_decide_eq_true (by first | (with_reducible assumption) | assumption); obtain ⟨ad238, A238_0, c238_0, e238, hx238_0, hl238_0, hi238_0⟩ := at_L1 HR1_2.out x6_1 p238 q238; have hw238_0 := hx238_0
             cases e238; replace hx238_0 := (HB.out.cell (World.block_lt_of_cell? w _ hx238_0)).trans hx238_0; have HR238_0 := Aside0.mk hi238_0; have HC238_0 := Aside0.mk hl238_0; clear hi238_0 hl238_0; replace p238 := eq_true p238; replace q238 := eq_true q238; have p239 : 0 ≤ (x8_2 : Int) := of_decide_eq_true (by first | (with_reducible assumption) | assumption); have q239 : x8_2 < ((rd_L1 l1_2 x6_1).length : Int) := of_decide_eq_true (by first | (with_reducible assumption) | assumption); obtain ⟨ad239, e239, hx239_0⟩ := Kd.at_int HR238_0.out x8_2 p239 q239; have hw239_0 := hx239_0
             cases e239; replace hx239_0 := (HB.out.cell (World.block_lt_of_cell? w _ hx239_0)).trans hx239_0; replace p239 := eq_true p239; replace q239 := eq_true q239
             refine start_ (n := 24) (S := fun w' => w'.cell? ⟨gb232, 0, none⟩ = some (.int .u64 a0_0) ∧ w'.cell? ⟨gb232, 1, none⟩ = some (.int .i64 a0_1) ∧ w'.cell? ⟨gb232, 2, none⟩ = some (.slice (some ad235) l0_2.length c0_2) ∧ w'.cell? ⟨gb233, 0, none⟩ = some (.int .u64 a1_0) ∧ w'.cell? ⟨gb233, 1, none⟩ = some (.int .i64 a1_1) ∧ w'.cell? ⟨gb233, 2, none⟩ = some (.slice (some ad238) l1_2.length c1_2) ∧ w'.cell? (ad235.add (x6_1).toNat) = some (.slice (some ad237) (rd_L1 l0_2 x6_1).length c236_0) ∧ w'.cell? (ad237.add (x8_2).toNat) = some (.int .i64 (rd (rd_L1 l0_2 x6_1) x8_2)) ∧ w'.cell? (ad238.add (x6_1).toNat) = some (.slice (some ad239) (rd_L1 l1_2 x6_1).length c238_0) ∧ w'.cell? (ad239.add (x8_2).toNat) = some (.int .i64 (rd (rd_L1 l1_2 x6_1) x8_2))) (ds := []) (mB 24 0) (by kernel_rfl) rfl rfl ⟨(blk_cell BK232.out 0).trans rfl, (blk_cell BK232.out 1).trans rfl, (blk_cell BK232.out 2).trans rfl, (blk_cell BK233.out 0).trans rfl, (blk_cell BK233.out 1).trans rfl, (blk_cell BK233.out 2).trans rfl, ((HB.out.cell (World.block_lt_of_cell? w _ hw236_0)).trans hw236_0), ((HB.out.cell (World.block_lt_of_cell? w _ hw237_0)).trans hw237_0), ((HB.out.cell (World.block_lt_of_cell? w _ hw238_0)).trans hw238_0), ((HB.out.cell (World.block_lt_of_cell? w _ hw239_0)).trans hw239_0)⟩ (fun hHeld => ?_); refine with_tabW rillmeterref11_Merge.tab9 rillmeterref11_Merge.bits9 (fun HT_ HW_ => ?_)
             generalize wr.drew = w21 at HO_5 HO_7 BK232 BK233 BK234 HB HR236_0 HR238_0 hx236_0 hx237_0 hx238_0 hx239_0 hHeld ⊢; refine pw_ 0 26 (v := ?_) (a' := ?_) (mB 24 1) rfl rfl HT_ (by kernel_rfl) (fun _ _ _ h => h) ?_ ?_ ?_; rotate_left
             ·intro w'; go_simp; with_reducible rfl
             rotate_left
             ·simp only [Act.put, sa_, sb_, sc_, i64_w, i32_w]; rfl
             refine pw_ 1 27 (v := ?_) (a' := ?_) (mB 24 3) rfl rfl HT_ (by kernel_rfl) (fun _ _ _ h => h) ?_ ?_ ?_; rotate_left
             ·intro w'; go_simp; with_reducible rfl
             rotate_left
             ·simp only [Act.put, sa_, sb_, sc_, i64_w, i32_w]; rfl
             refine pw_ 3 29 (v := ?_) (a' := ?_) (mB 24 11) rfl rfl HT_ (by kernel_rfl) (fun _ _ _ h => h) ?_ ?_ ?_; rotate_left
             ·intro w'; go_simp; with_reducible rfl
             rotate_left
             ·simp only [Act.put, sa_, sb_, sc_, i64_w, i32_w]; rfl
             refine pw_ 6 32 (v := ?_) (a' := ?_) (mB 24 75) rfl rfl HT_ (by kernel_rfl) (fun _ _ _ h => h) ?_ ?_ ?_; rotate_left
             ·intro w'; go_simp; with_reducible rfl
             rotate_left
             ·simp only [Act.put, sa_, sb_, sc_, i64_w, i32_w]; rfl
             refine pw_ 9 35 (v := ?_) (a' := ?_) (mB 24 587) rfl rfl HT_ (by kernel_rfl) (fun _ _ _ h => h) ?_ ?_ ?_; rotate_left
             ·intro w'; go_simp; with_reducible rfl
             rotate_left
             ·simp only [Act.put, sa_, sb_, sc_, i64_w, i32_w]; rfl
             refine pw_ 11 37 (v := ?_) (a' := ?_) (mB 24 2635) rfl rfl HT_ (by kernel_rfl) (fun _ _ _ h => h) ?_ ?_ ?_; rotate_left
             ·intro w'; go_simp; with_reducible rfl
             rotate_left
             ·simp only [Act.put, sa_, sb_, sc_, i64_w, i32_w]; rfl
             refine pw_ 14 40 (v := ?_) (a' := ?_) (mB 24 19019) rfl rfl HT_ (by kernel_rfl) (fun _ _ _ h => h) ?_ ?_ ?_; rotate_left
             ·intro w'; go_simp; with_reducible rfl
             rotate_left
             ·simp only [Act.put, sa_, sb_, sc_, i64_w, i32_w]; rfl
             refine pw_ 18 44 (v := ?_) (a' := ?_) (mB 24 281163) rfl rfl HT_ (by kernel_rfl) (fun _ _ _ h => h) ?_ ?_ ?_; rotate_left
             ·intro w'; go_simp; with_reducible rfl
             rotate_left
             ·simp only [Act.put, sa_, sb_, sc_, i64_w, i32_w]; rfl
             refine take_ (i := 2) (N := some 28) (v := ?_) (a' := ?_) (mB 24 281167) rfl rfl (take_ofW HT_.out HW_.out (by kernel_rfl)) (fun _ _ _ h => h) (Or.inl ⟨by rfl, ?_⟩) hHeld ?_ ?_; rotate_left
             ·rintro w' ⟨s0, s1, s2, s3, s4, s5, s6, s7, s8, s9⟩; go_simp; with_reducible rfl
             rotate_left
             ·simp only [Act.put, sa_, sb_, sc_, i64_w, i32_w]; rfl
             refine pw_ 4 30 (v := ?_) (a' := ?_) (mB 24 281183) rfl rfl HT_ (by kernel_rfl) (fun _ _ _ h => h) ?_ ?_ ?_; rotate_left
             ·intro w'; go_simp; with_reducible rfl
             rotate_left
             ·simp only [Act.put, sa_, sb_, sc_, i64_w, i32_w]; rfl
             refine take_ (i := 5) (N := some 31) (v := ?_) (a' := ?_) (mB 24 281215) rfl rfl (take_ofW HT_.out HW_.out (by kernel_rfl)) (fun _ _ _ h => h) (Or.inl ⟨by rfl, ?_⟩) hHeld ?_ ?_; rotate_left
             ·rintro w' ⟨s0, s1, s2, s3, s4, s5, s6, s7, s8, s9⟩; go_simp; with_reducible rfl
             rotate_left
             ·simp only [Act.put, sa_, sb_, sc_, i64_w, i32_w]; rfl
             refine pw_ 7 33 (v := ?_) (a' := ?_) (mB 24 281343) rfl rfl HT_ (by kernel_rfl) (fun _ _ _ h => h) ?_ ?_ ?_; rotate_left
             ·intro w'; go_simp; with_reducible rfl
             rotate_left
             ·simp only [Act.put, sa_, sb_, sc_, i64_w, i32_w]; rfl
             refine take_ (i := 8) (N := some 34) (v := ?_) (a' := ?_) (mB 24 281599) rfl rfl (take_ofW HT_.out HW_.out (by kernel_rfl)) (fun _ _ _ h => h) (Or.inl ⟨by rfl, ?_⟩) hHeld ?_ ?_; rotate_left
             ·rintro w' ⟨s0, s1, s2, s3, s4, s5, s6, s7, s8, s9⟩; go_simp; with_reducible rfl
             rotate_left
             ·simp only [Act.put, sa_, sb_, sc_, i64_w, i32_w]; rfl
             refine take_ (i := 10) (N := some 36) (v := ?_) (a' := ?_) (mB 24 282623) rfl rfl (take_ofW HT_.out HW_.out (by kernel_rfl)) (fun _ _ _ h => h) (Or.inl ⟨by rfl, ?_⟩) hHeld ?_ ?_; rotate_left
             ·rintro w' ⟨s0, s1, s2, s3, s4, s5, s6, s7, s8, s9⟩; go_simp; with_reducible rfl
             rotate_left
             ·simp only [Act.put, sa_, sb_, sc_, i64_w, i32_w]; rfl
             refine pw_ 12 38 (v := ?_) (a' := ?_) (mB 24 286719) rfl rfl HT_ (by kernel_rfl) (fun _ _ _ h => h) ?_ ?_ ?_; rotate_left
             ·intro w'; go_simp; with_reducible rfl
             rotate_left
             ·simp only [Act.put, sa_, sb_, sc_, i64_w, i32_w]; rfl
             refine take_ (i := 13) (N := some 39) (v := ?_) (a' := ?_) (mB 24 294911) rfl rfl (take_ofW HT_.out HW_.out (by kernel_rfl)) (fun _ _ _ h => h) (Or.inl ⟨by rfl, ?_⟩) hHeld ?_ ?_; rotate_left
             ·rintro w' ⟨s0, s1, s2, s3, s4, s5, s6, s7, s8, s9⟩; go_simp; with_reducible rfl
             rotate_left
             ·simp only [Act.put, sa_, sb_, sc_, i64_w, i32_w]; rfl
             refine pw_ 15 41 (v := ?_) (a' := ?_) (mB 24 327679) rfl rfl HT_ (by kernel_rfl) (fun _ _ _ h => h) ?_ ?_ ?_; rotate_left
             ·intro w'; go_simp; with_reducible rfl
             rotate_left
             ·simp only [Act.put, sa_, sb_, sc_, i64_w, i32_w]; rfl
             refine take_ (i := 16) (N := some 42) (v := ?_) (a' := ?_) (mB 24 393215) rfl rfl (take_ofW HT_.out HW_.out (by kernel_rfl)) (fun _ _ _ h => h) (Or.inl ⟨by rfl, ?_⟩) hHeld ?_ ?_; rotate_left
             ·rintro w' ⟨s0, s1, s2, s3, s4, s5, s6, s7, s8, s9⟩; go_simp; with_reducible rfl
             rotate_left
             ·simp only [Act.put, sa_, sb_, sc_, i64_w, i32_w]; rfl
             refine pw_ 17 43 (v := ?_) (a' := ?_) (mB 24 524287) rfl rfl HT_ (by kernel_rfl) (fun _ _ _ h => h) ?_ ?_ ?_; rotate_left
             ·intro w'; go_simp; with_reducible rfl
             rotate_left
             ·simp only [Act.put, sa_, sb_, sc_, i64_w, i32_w]; rfl
             refine take_ (i := 19) (N := some 45) (v := ?_) (a' := ?_) (mB 24 1048575) rfl rfl (take_ofW HT_.out HW_.out (by kernel_rfl)) (fun _ _ _ h => h) (Or.inl ⟨by rfl, ?_⟩) hHeld ?_ ?_; rotate_left
             ·rintro w' ⟨s0, s1, s2, s3, s4, s5, s6, s7, s8, s9⟩; go_simp; with_reducible rfl
             rotate_left
             ·simp only [Act.put, sa_, sb_, sc_, i64_w, i32_w]; rfl
             refine one_ (i := 20) (N := some 46) (mB 24 2097151) rfl rfl (one_of HT_.out (by kernel_rfl)) (by decide) (fun K hK => ?_); refine goes_ Try.func31 (by kernel_rfl) rfl #[.int .i64 (wrap64 ((rd (rd_L1 l0_2 x6_1) x8_2) + (rd (rd_L1 l1_2 x6_1) x8_2))), .int .i64 a0_1] (by rfl) rfl rfl (by (try simp only [List.map_toArray, List.map_cons, List.map_nil]); first | done | rfl | (simp only [List.length_drop, List.length_take]; rfl)) ?_; with_reducible refine (rillmeterref11_capped.calls (wrap64 ((rd (rd_L1 l0_2 x6_1) x8_2) + (rd (rd_L1 l1_2 x6_1) x8_2))) a0_1 t240 _ A16.out).mono ?_; rintro e w' ⟨rfl, ⟨nd, rfl⟩⟩; (try replace BK232 := Aside0.mk (blk_drewN BK232.out nd)); (try replace BK233 := Aside0.mk (blk_drewN BK233.out nd)); (try replace HB := Aside0.mk (pw_below_drewN HB.out nd))
             (first | replace HO_7 := Aside0.mk (Kd.R_drewN HO_7.out nd) | replace HO_7 := Aside0.mk (Kd.S_drewN HO_7.out nd) | replace HO_7 := Aside0.mk (Kd.V_drewN HO_7.out nd) | skip)
             (first | replace HO_5 := Aside0.mk (Kd.R_drewN HO_5.out nd) | replace HO_5 := Aside0.mk (Kd.S_drewN HO_5.out nd) | replace HO_5 := Aside0.mk (Kd.V_drewN HO_5.out nd) | skip)
             (try replace BK234 := Aside0.mk (blk_drewN BK234.out nd))
             (first | replace HO243 := Aside0.mk (Kd.R_drewN HO243.out nd) | replace HO243 := Aside0.mk (Kd.S_drewN HO243.out nd) | replace HO243 := Aside0.mk (Kd.V_drewN HO243.out nd) | skip)
             refine ⟨_, rfl, ?_⟩; refine hK.out _ _ ⟨(blk_cell BK232.out 0).trans rfl, (blk_cell BK232.out 1).trans rfl, (blk_cell BK232.out 2).trans rfl, (blk_cell BK233.out 0).trans rfl, (blk_cell BK233.out 1).trans rfl, (blk_cell BK233.out 2).trans rfl, ((HB.out.cell (World.block_lt_of_cell? w _ hw236_0)).trans hw236_0), ((HB.out.cell (World.block_lt_of_cell? w _ hw237_0)).trans hw237_0), ((HB.out.cell (World.block_lt_of_cell? w _ hw238_0)).trans hw238_0), ((HB.out.cell (World.block_lt_of_cell? w _ hw239_0)).trans hw239_0)⟩ (fun hHeld => ?_); clear hK K; refine norm_ (a' := ?_) ?_ ?_; rotate_left
             ·show Act.put _ (some 46) _ = _
              simp only [Act.put, sa_, sb_, sc_, i64_w, i32_w]; rfl
             refine one_ (i := 21) (N := some 47) (mB 24 4194303) rfl rfl (one_of HT_.out (by kernel_rfl)) (by decide) (fun K hK => ?_); refine value_ (w1 := ?_) (v := ?_) (by rfl) rfl ?_ ?_; rotate_left 2
             ·go_simp
              constructor
              ·rfl
              ·rfl
             refine hK.out _ _ ⟨(blk_cell (blk_alloc BK232.out _) 0).trans rfl, (blk_cell (blk_alloc BK232.out _) 1).trans rfl, (blk_cell (blk_alloc BK232.out _) 2).trans rfl, (blk_cell (blk_alloc BK233.out _) 0).trans rfl, (blk_cell (blk_alloc BK233.out _) 1).trans rfl, (blk_cell (blk_alloc BK233.out _) 2).trans rfl, (World.cell?_alloc_lt _ _ _ (World.block_lt_of_cell? _ _ (((HB.out.cell (World.block_lt_of_cell? w _ hw236_0)).trans hw236_0)))).trans (((HB.out.cell (World.block_lt_of_cell? w _ hw236_0)).trans hw236_0)), (World.cell?_alloc_lt _ _ _ (World.block_lt_of_cell? _ _ (((HB.out.cell (World.block_lt_of_cell? w _ hw237_0)).trans hw237_0)))).trans (((HB.out.cell (World.block_lt_of_cell? w _ hw237_0)).trans hw237_0)), (World.cell?_alloc_lt _ _ _ (World.block_lt_of_cell? _ _ (((HB.out.cell (World.block_lt_of_cell? w _ hw238_0)).trans hw238_0)))).trans (((HB.out.cell (World.block_lt_of_cell? w _ hw238_0)).trans hw238_0)), (World.cell?_alloc_lt _ _ _ (World.block_lt_of_cell? _ _ (((HB.out.cell (World.block_lt_of_cell? w _ hw239_0)).trans hw239_0)))).trans (((HB.out.cell (World.block_lt_of_cell? w _ hw239_0)).trans hw239_0))⟩ (fun hHeld => ?_); clear hK K; refine norm_ (a' := ?_) ?_ ?_; rotate_left
             ·show Act.put _ (some 47) _ = _
              simp only [Act.put, sa_, sb_, sc_, i64_w, i32_w]; rfl
             refine one_ (i := 22) (N := some 48) (mB 24 8388607) rfl rfl (one_of HT_.out (by kernel_rfl)) (by decide) (fun K hK => ?_); refine Kd.R_append_step (Kd.int .i64) (w0 := w) w.heap.size (by rfl) (.tmp 26) (.tmp 47) 33 3 (.int .i64 0) 8 rfl Try.underlying33 info3 rfl (by decide) (by omega) u7 x7_2 t240 [.int .i64 t240] (fun _ => True) (fun _ => False) rfl rfl ?aP (fun _ hk => hk.elim) ?aF ?aO ?aB ?aS ?aL ?_; (case aP => exact rfl); (case aB => exact (bl_ HB)); (case aF => exact (fun _ _ => trivial)); (case aO => exact (by (with_reducible repeat (first | apply Kd.R_alloc | apply Kd.R_drewN | apply Kd.R_drew)); exact HO_7.out)); (case aS => exact (below_size (bl_ HB))); (case aL => have := LMc17.out; omega); intro v242 w22 ho hb hg hat; rw [← Ny241.out] at ho; replace HO_5 := Aside0.mk (Kd.S_after (ok := (fun _ => True)) (by (with_reducible repeat (first | apply Kd.S_alloc | apply Kd.S_drewN | apply Kd.S_drew)); exact Kd.S_mono HO_5.out (fun _ hk => ⟨trivial, hk⟩)) hg hat); replace BK232 := Aside0.mk (blk_grown (g := gb232) (o := .cells #[.int .u64 a0_0, .int .i64 a0_1, .slice (some ad235) l0_2.length c0_2] 30 (0, 0)) (bk_ BK232) hg (Kd.R_ne HO_7.out BK232.out (by decide))); replace BK233 := Aside0.mk (blk_grown (g := gb233) (o := .cells #[.int .u64 a1_0, .int .i64 a1_1, .slice (some ad238) l1_2.length c1_2] 30 (0, 0)) (bk_ BK233) hg (Kd.R_ne HO_7.out BK233.out (by decide)))
             replace BK234 := Aside0.mk (blk_grown (g := gb234) (o := .cells #[.int .u64 0, .int .i64 0, .slice none 0 0] 30 (0, 0)) (bk_ BK234) hg (Kd.R_ne HO_7.out BK234.out (by decide))); replace HB := Aside0.mk (hb); have HO243 := Aside0.mk (ho); clear HO_7; clear ho hb hg hat; refine hK.out _ _ ⟨(blk_cell BK232.out 0).trans rfl, (blk_cell BK232.out 1).trans rfl, (blk_cell BK232.out 2).trans rfl, (blk_cell BK233.out 0).trans rfl, (blk_cell BK233.out 1).trans rfl, (blk_cell BK233.out 2).trans rfl, ((HB.out.cell (World.block_lt_of_cell? w _ hw236_0)).trans hw236_0), ((HB.out.cell (World.block_lt_of_cell? w _ hw237_0)).trans hw237_0), ((HB.out.cell (World.block_lt_of_cell? w _ hw238_0)).trans hw238_0), ((HB.out.cell (World.block_lt_of_cell? w _ hw239_0)).trans hw239_0)⟩ (fun hHeld => ?_); clear hK K; refine norm_ (a' := ?_) ?_ ?_; rotate_left
             ·show Act.put _ (some 48) _ = _
              simp only [Act.put, sa_, sb_, sc_, i64_w, i32_w]; rfl
             refine pw_ 23 7 (v := ?_) (a' := ?_) (mB 24 16777215) rfl rfl HT_ (by kernel_rfl) (fun _ _ _ h => h) ?_ ?_ ?_; rotate_left
             ·intro w'; go_simp; with_reducible rfl
             rotate_left
             ·simp only [Act.put, sa_, sb_, sc_, i64_w, i32_w]; rfl
             refine done_ (done_of HT_.out (by kernel_rfl)) ?_
             try go_wp2
             go_roundg k2
             case measure => have := HK1.out; have := HK2.out; omega
             case rel => exact ⟨(y241), (wrap64 (x8_2 + 1)), (by first | rfl | (simp; done) | (simp [*]; done)), H', ⟨by have := HK1.out; have := HK2.out; omega⟩, ⟨by (with_reducible repeat (first | apply Kd.S_alloc | apply Kd.S_drewN | apply Kd.S_drew)); exact Kd.S_mono HO_5.out (fun _ hk => hk.2)⟩, ⟨by (with_reducible repeat (first | apply Kd.R_alloc | apply Kd.R_drewN | apply Kd.R_drew)); exact HO243.out⟩, ⟨bk_ BK232⟩, ⟨bk_ BK233⟩, ⟨bk_ BK234⟩, ⟨bl_ HB⟩⟩
            ·rw [if_neg c17] at H; exact absurd H (by simp)
           ·rw [if_neg c15] at H; exact absurd H (by simp)
          ·rw [if_neg c14] at H; exact absurd H (by simp)
         ·rw [if_neg c13] at H; exact absurd H (by simp)
        ·rw [if_neg c12] at H; have c12b0 : decide (x8_2 < ((rd_L1 l0_2 x6_1).length : Int)) = false := decide_eq_false c12; clear c12
         by_cases c23 : x5_1.length < 5864062014805
         ·rw [if_pos c23] at H; have LMc23 := Aside0.mk c23; clear c23; obtain ⟨y244, hy244⟩ : ∃ y_ : List (List Int), y_ = (x5_1 ++ [x7_2]) := ⟨_, rfl⟩
          replace H : (rillmeterref11_Merge.l0 k2 y244 (wrap64 (x6_1 + 1)) a0_0 a0_1 l0_2 a1_0 a1_1 l1_2) = some (r1, r2, r3) := by first | (rw [hy244]; with_reducible exact H) | (have H2_ := (Option.bind_some _ _).symm.trans H; rw [hy244]; with_reducible exact H2_) | (have H2_ := (Option.bind_some _ _).symm.trans H; with_reducible exact H2_) | with_reducible exact H | (rw [hy244]; exact H) | exact H
          have Ny244 := Aside0.mk hy244; clear hy244; have H' := Aside0.mk H; clear H; have hnb24 := NB232_233.out; have hnc24 := NB233_232.out; have hnb25 := NB232_234.out; have hnc25 := NB234_232.out; have hcz26_0 : wr.cell? ⟨gb232, 0, none⟩ = some (.int .u64 a0_0) := (blk_cell BK232.out 0).trans rfl; have hcz26_1 : wr.cell? ⟨gb232, 1, none⟩ = some (.int .i64 a0_1) := (blk_cell BK232.out 1).trans rfl; have hcz26_2 : wr.cell? ⟨gb232, 2, none⟩ = some (.slice A0_2 l0_2.length c0_2) := (blk_cell BK232.out 2).trans rfl; have hfz26_0 := blk_frozen BK232.out 0; have hfz26_1 := blk_frozen BK232.out 1; have hfz26_2 := blk_frozen BK232.out 2; have p235 : 0 ≤ (x6_1 : Int) := of_decide_eq_true (by first | (with_reducible assumption) | assumption); have q235 : x6_1 < (l0_2.length : Int) := of_decide_eq_true (by first | (with_reducible assumption) | assumption); obtain ⟨ad235, A235_0, c235_0, e235, hx235_0, hl235_0, hi235_0⟩ := at_L1 HR0_2.out x6_1 p235 q235
          cases e235; replace hx235_0 := (HB.out.cell (World.block_lt_of_cell? w _ hx235_0)).trans hx235_0; have HR235_0 := Aside0.mk hi235_0; have HC235_0 := Aside0.mk hl235_0; clear hi235_0 hl235_0; replace p235 := eq_true p235; replace q235 := eq_true q235; obtain ⟨Ao28, co28, eo28⟩ := Kd.R_slice HO_7.out; subst eo28
          go_wp2_with (first | ((with_reducible refine gate_builtin (b := .append) (xs := #[.tmp 49, .tmp 51]) rfl ?_); at_builtin; refine Kd.S_append (Kd.slice 3 (Kd.int .i64)) (w0 := w) w.heap.size rfl (.tmp 49) (.tmp 51) 23 33 (.slice none 0 0) 24 rfl Try.underlying23 info33 rfl (by decide) (by omega) u5 x5_1 x7_2 [.slice Ao28 x7_2.length co28] (fun _ => True) (fun k_ => some k_ = (.slice Ao28 x7_2.length co28 : Value).ownBlock) rfl rfl ?aP (fun k_ hk_ => ((Kd.R_mono (ok' := fun k_ => ((fun _ => True)) k_ ∧ some k_ ≠ (u5 : Value).ownBlock) (Kd.R_apart' (HO_7.out) (Kd.S_typed HO_5.out) (by decide)) (fun k_ hk => ⟨trivial, hk.2⟩))).1 k_ hk_.symm) ?aF ?aO ?aB ?aS ?aL ?_; (case aP => exact Kd.M_row (Kd.R_mono (Kd.R_tight rfl (Kd.R_mono (ok' := fun k_ => ((fun _ => True)) k_ ∧ some k_ ≠ (u5 : Value).ownBlock) (Kd.R_apart' (HO_7.out) (Kd.S_typed HO_5.out) (by decide)) (fun k_ hk => ⟨trivial, hk.2⟩))) (fun _ h_ => h_))); (case aB => exact (bl_ HB)); (case aF => exact (fun _ _ => trivial)); (case aO => exact (by (with_reducible repeat (first | apply Kd.S_alloc | apply Kd.S_drewN | apply Kd.S_drew)); exact Kd.S_mono HO_5.out (fun k_ hk => ⟨trivial, fun e_ => hk e_⟩))); (case aS => exact (below_size (bl_ HB))); (case aL => have := LMc23.out; omega); intro v245 w27 ho hb hg hat; rw [← Ny244.out] at ho; have n0_ := Aside0.mk (blk_grown (g := gb232) (o := .cells #[.int .u64 a0_0, .int .i64 a0_1, .slice (some ad235) l0_2.length c0_2] 30 (0, 0)) (bk_ BK232) hg (Kd.S_ne HO_5.out BK232.out (by decide))); have n1_ := Aside0.mk (blk_grown (g := gb233) (o := .cells #[.int .u64 a1_0, .int .i64 a1_1, .slice A1_2 l1_2.length c1_2] 30 (0, 0)) (bk_ BK233) hg (Kd.S_ne HO_5.out BK233.out (by decide))); have n2_ := Aside0.mk (blk_grown (g := gb234) (o := .cells #[.int .u64 0, .int .i64 0, .slice none 0 0] 30 (0, 0)) (bk_ BK234) hg (Kd.S_ne HO_5.out BK234.out (by decide))); have n3_ := Aside0.mk (hb); have n4_ := Aside0.mk (ho); clear BK232; clear BK233; clear BK234; clear HB; clear HO_5; clear HO_7; have BK232 := n0_; have BK233 := n1_; have BK234 := n2_; have HB := n3_; have HO246 := n4_; clear n0_ n1_ n2_ n3_ n4_; clear ho hb hg hat))
          go_roundg k2
          case measure => have := HK1.out; have := HK2.out; omega
          case rel => exact ⟨(y244), (wrap64 (x6_1 + 1)), (by first | rfl | (simp; done) | (simp [*]; done)), H', ⟨by have := HK1.out; have := HK2.out; omega⟩, ⟨by (with_reducible repeat (first | apply Kd.S_alloc | apply Kd.S_drewN | apply Kd.S_drew)); exact HO246.out⟩, ⟨bk_ BK232⟩, ⟨bk_ BK233⟩, ⟨bk_ BK234⟩, ⟨bl_ HB⟩⟩
         ·rw [if_neg c23] at H; exact absurd H (by simp)
       ·rw [if_neg c11] at H; exact absurd H (by simp)
      ·rw [if_neg c10] at H; exact absurd H (by simp)
   ·rw [if_neg c6] at H; have c6b0 : decide (x6_1 < (l0_2.length : Int)) = false := decide_eq_false c6; clear c6; simp only [Option.some.injEq, Prod.mk.injEq] at H; obtain ⟨rfl, rfl, rfl⟩ := H; have hnb29 := NB232_233.out; have hnc29 := NB233_232.out; have hnb30 := NB232_234.out; have hnc30 := NB234_232.out; have hcz31_0 : wr.cell? ⟨gb232, 0, none⟩ = some (.int .u64 a0_0) := (blk_cell BK232.out 0).trans rfl; have hcz31_1 : wr.cell? ⟨gb232, 1, none⟩ = some (.int .i64 a0_1) := (blk_cell BK232.out 1).trans rfl; have hcz31_2 : wr.cell? ⟨gb232, 2, none⟩ = some (.slice A0_2 l0_2.length c0_2) := (blk_cell BK232.out 2).trans rfl; have hfz31_0 := blk_frozen BK232.out 0; have hfz31_1 := blk_frozen BK232.out 1; have hfz31_2 := blk_frozen BK232.out 2; obtain ⟨Ao32, co32, eo32⟩ := Kd.S_slice HO_5.out; subst eo32; have hnb33 := NB234_233.out; have hnc33 := NB233_234.out; have hcz34_0 : wr.cell? ⟨gb234, 0, none⟩ = some (.int .u64 0) := (blk_cell BK234.out 0).trans rfl; have hcz34_1 : wr.cell? ⟨gb234, 1, none⟩ = some (.int .i64 0) := (blk_cell BK234.out 1).trans rfl; have hcz34_2 : wr.cell? ⟨gb234, 2, none⟩ = some (.slice none 0 0) := (blk_cell BK234.out 2).trans rfl; have hfz34_0 := blk_frozen BK234.out 0; have hfz34_1 := blk_frozen BK234.out 1; have hfz34_2 := blk_frozen BK234.out 2
    go_wp2
    refine bodyPost_ret (results_cell_row rfl _ _ gb234 30 #[.int .u64 a0_0, .int .i64 a0_1, .slice Ao32 x5_1.length co32] (0, 0) _ rfl (by (with_reducible repeat (first | refine blk_drewN ?_ _ | refine blk_drew ?_ | refine blk_alloc ?_ _)); refine blk_put (cs := #[.int .u64 a0_0, .int .i64 a0_1, .slice none 0 0]) ?_ 2 _ rfl; (with_reducible repeat (first | refine blk_drewN ?_ _ | refine blk_drew ?_ | refine blk_alloc ?_ _)); refine blk_put (cs := #[.int .u64 a0_0, .int .i64 0, .slice none 0 0]) ?_ 1 _ rfl; (with_reducible repeat (first | refine blk_drewN ?_ _ | refine blk_drew ?_ | refine blk_alloc ?_ _)); refine blk_put (cs := #[.int .u64 0, .int .i64 0, .slice none 0 0]) ?_ 0 _ rfl; (with_reducible repeat (first | refine blk_drewN ?_ _ | refine blk_drew ?_ | refine blk_alloc ?_ _)); refine blk_far ?_ NB234_232.out _; (with_reducible repeat (first | refine blk_drewN ?_ _ | refine blk_drew ?_ | refine blk_alloc ?_ _)); exact BK234.out) Try.underlying30 rfl (by kernel_rfl)) rfl ?_
    exact ⟨_, by first | rfl | (simp [errW_none, errW_some] <;> rfl) | (simp [*, errW_none, errW_some] <;> rfl), by (with_reducible repeat (first | apply Kd.S_alloc | apply Kd.S_drewN | apply Kd.S_drew)); exact Kd.S_mono (Kd.S_far (p := ⟨gb234, 2, none⟩) (Kd.S_far (p := ⟨gb234, 1, none⟩) (Kd.S_far (p := ⟨gb234, 0, none⟩) (Kd.S_far (p := ⟨gb232, 2, none⟩) (Kd.S_types (Kd.S_types HO_5.out BK232.out (by decide)) BK234.out (by decide)) (fun _ hk => hk.1.2) (.slice Ao32 x5_1.length co32)) (fun _ hk => hk.2) (.int .u64 a0_0)) (fun _ hk => hk.2) (.int .i64 a0_1)) (fun _ hk => hk.2) (.slice Ao32 x5_1.length co32)) (fun _ hk => trivial), bl_ HB⟩

end Go.Proofs.Yteendbdmkijpkaa.PLeastMerges
