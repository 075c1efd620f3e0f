/- The functions that a law uses, each as a plain function, with the proof that a call of the Go function comes to its answer. Condition of each: the arguments read as the data that it names, and the plain function has an answer. Written by a program of this session (standin.py). -/
import Derived.Test.YtljmjjeghebdpaaPElasticSeenx0
import Derived.Test.YtljmjjeghebdpaaPElasticSeenx9
import Derived.Test.YtljmjjeghebdpaaPElasticSeenx11
import Derived.Test.YtljmjjeghebdpaaShort
import Derived.Lib.SliceRun
import Derived.Test.YtljmjjeghebdpaaFuns
import Derived.Test.YtljmjjeghebdpaaPressMore
namespace Go.Proofs.Ytljmjjeghebdpaa.PElasticSeen
open Go.RowKit Go.Proofs.YtljmjjeghebdpaaW.PrintWords Go.Proofs.YtljmjjeghebdpaaW.PrintLast Go.Proofs.YtljmjjeghebdpaaW.PrintMore Go.Proofs.Ytljmjjeghebdpaa.Short Go.Proofs.Ytljmjjeghebdpaa.Press Go.Proofs.Ytljmjjeghebdpaa.PressMore
attribute [local go_sem] max2_int min2_int max_two min_two max_three min_three max_four min_four   -- for this text's walks alone
set_option linter.unusedVariables false
set_option linter.unusedSimpArgs false

/-! ### heavy_Item_77: function 77 -/
mutual
def heavy_Item_77.l0 : Nat → List (S68) → Int → Int → Int → Option ((List (S68)))
  | 0, _, _, _, _ => none
  | k + 1, x0, x1, x10, x11 => if x10 < x11 then (if 0 ≤ (wrap64 ((IntKind.u64.wrap (wrap64 (x10 + x11))) / 2)) then (if (wrap64 ((IntKind.u64.wrap (wrap64 (x10 + x11))) / 2)) < (x0.length : Int) then (if 0 ≤ x1 then (if x1 < (x0.length : Int) then ((elastic_List_1.f k ((rd_T68 x0 (wrap64 ((IntKind.u64.wrap (wrap64 (x10 + x11))) / 2))).f0) ((rd_T68 x0 (wrap64 ((IntKind.u64.wrap (wrap64 (x10 + x11))) / 2))).f1) ((rd_T68 x0 x1).f0) ((rd_T68 x0 x1).f1)).bind fun t296 => (if t296 < 0 then (heavy_Item_77.l0 k x0 x1 (wrap64 ((wrap64 ((IntKind.u64.wrap (wrap64 (x10 + x11))) / 2)) + 1)) x11) else (heavy_Item_77.l0 k x0 x1 x10 (wrap64 ((IntKind.u64.wrap (wrap64 (x10 + x11))) / 2))))) else (none)) else (none)) else (none)) else (none)) else (heavy_Item_77.l1 k x0 x10 x1)
def heavy_Item_77.l1 : Nat → List (S68) → Int → Int → Option ((List (S68)))
  | 0, _, _, _ => none
  | k + 1, x0, x10, x13 => if x13 < (wrap64 (x10 - 1)) then (if 0 ≤ (wrap64 (x13 + 1)) then (if (wrap64 (x13 + 1)) < (x0.length : Int) then (if 0 ≤ x13 then (if x13 < (x0.length : Int) then (heavy_Item_77.l1 k ((x0.set (x13 : Int).toNat (⟨(rd_T68 x0 (wrap64 (x13 + 1))).f0, (rd_T68 x0 (wrap64 (x13 + 1))).f1⟩ : S68)).set ((wrap64 (x13 + 1)) : Int).toNat (⟨(rd_T68 x0 x13).f0, (rd_T68 x0 x13).f1⟩ : S68)) x10 (wrap64 (x13 + 1))) else (none)) else (none)) else (none)) else (none)) else (some x0)
def heavy_Item_77.l2 : Nat → List (S68) → Int → Int → Int → Option ((List (S68)))
  | 0, _, _, _, _ => none
  | k + 1, x0, x2, x14, x15 => if x14 < x15 then (if 0 ≤ x2 then (if x2 < (x0.length : Int) then (if 0 ≤ (wrap64 ((IntKind.u64.wrap (wrap64 (x14 + x15))) / 2)) then (if (wrap64 ((IntKind.u64.wrap (wrap64 (x14 + x15))) / 2)) < (x0.length : Int) then ((elastic_List_1.f k ((rd_T68 x0 x2).f0) ((rd_T68 x0 x2).f1) ((rd_T68 x0 (wrap64 ((IntKind.u64.wrap (wrap64 (x14 + x15))) / 2))).f0) ((rd_T68 x0 (wrap64 ((IntKind.u64.wrap (wrap64 (x14 + x15))) / 2))).f1)).bind fun t303 => (if t303 < 0 then (heavy_Item_77.l2 k x0 x2 x14 (wrap64 ((IntKind.u64.wrap (wrap64 (x14 + x15))) / 2))) else (heavy_Item_77.l2 k x0 x2 (wrap64 ((wrap64 ((IntKind.u64.wrap (wrap64 (x14 + x15))) / 2)) + 1)) x15))) else (none)) else (none)) else (none)) else (none)) else (heavy_Item_77.l3 k x0 x14 x2)
def heavy_Item_77.l3 : Nat → List (S68) → Int → Int → Option ((List (S68)))
  | 0, _, _, _ => none
  | k + 1, x0, x14, x17 => if x17 > x14 then (if 0 ≤ (wrap64 (x17 - 1)) then (if (wrap64 (x17 - 1)) < (x0.length : Int) then (if 0 ≤ x17 then (if x17 < (x0.length : Int) then (heavy_Item_77.l3 k ((x0.set (x17 : Int).toNat (⟨(rd_T68 x0 (wrap64 (x17 - 1))).f0, (rd_T68 x0 (wrap64 (x17 - 1))).f1⟩ : S68)).set ((wrap64 (x17 - 1)) : Int).toNat (⟨(rd_T68 x0 x17).f0, (rd_T68 x0 x17).f1⟩ : S68)) x14 (wrap64 (x17 - 1))) else (none)) else (none)) else (none)) else (none)) else (some x0)
def heavy_Item_77.j4 : Nat → List (S68) → Int → Int → Int → Int → Int → Int → Int → Option ((List (S68)))
  | 0, _, _, _, _, _, _, _, _ => none
  | k + 1, x0, x1, x2, x3, x18, x19, x20, x21 => heavy_Item_77.l4 k x0 x1 x2 x3 x18 x19 x20 x21 (wrap64 (x19 - 1))
def heavy_Item_77.l4 : Nat → List (S68) → Int → Int → Int → Int → Int → Int → Int → Int → Option ((List (S68)))
  | 0, _, _, _, _, _, _, _, _, _ => none
  | k + 1, x0, x1, x2, x3, x18, x19, x20, x21, x22 => if x20 < x21 then (if 0 ≤ (wrap64 (x22 - (wrap64 ((IntKind.u64.wrap (wrap64 (x20 + x21))) / 2)))) then (if (wrap64 (x22 - (wrap64 ((IntKind.u64.wrap (wrap64 (x20 + x21))) / 2)))) < (x0.length : Int) then (if 0 ≤ (wrap64 ((IntKind.u64.wrap (wrap64 (x20 + x21))) / 2)) then (if (wrap64 ((IntKind.u64.wrap (wrap64 (x20 + x21))) / 2)) < (x0.length : Int) then ((elastic_List_1.f k ((rd_T68 x0 (wrap64 (x22 - (wrap64 ((IntKind.u64.wrap (wrap64 (x20 + x21))) / 2))))).f0) ((rd_T68 x0 (wrap64 (x22 - (wrap64 ((IntKind.u64.wrap (wrap64 (x20 + x21))) / 2))))).f1) ((rd_T68 x0 (wrap64 ((IntKind.u64.wrap (wrap64 (x20 + x21))) / 2))).f0) ((rd_T68 x0 (wrap64 ((IntKind.u64.wrap (wrap64 (x20 + x21))) / 2))).f1)).bind fun t310 => (if t310 < 0 then (heavy_Item_77.l4 k x0 x1 x2 x3 x18 x19 x20 (wrap64 ((IntKind.u64.wrap (wrap64 (x20 + x21))) / 2)) x22) else (heavy_Item_77.l4 k x0 x1 x2 x3 x18 x19 (wrap64 ((wrap64 ((IntKind.u64.wrap (wrap64 (x20 + x21))) / 2)) + 1)) x21 x22))) else (none)) else (none)) else (none)) else (none)) else (if x20 < x2 then (heavy_Item_77.j6 k x0 x1 x2 x3 x18 x20 (wrap64 (x19 - x20)) (decide (x2 < (wrap64 (x19 - x20))))) else (heavy_Item_77.j6 k x0 x1 x2 x3 x18 x20 (wrap64 (x19 - x20)) false))
def heavy_Item_77.j6 : Nat → List (S68) → Int → Int → Int → Int → Int → Int → Bool → Option ((List (S68)))
  | 0, _, _, _, _, _, _, _, _ => none
  | k + 1, x0, x1, x2, x3, x18, x20, x24, x185 => if x185 = true then ((heavy_Item_85.f k x0 x20 x2 x24).bind fun t311 => (heavy_Item_77.j7 k t311 x1 x3 x18 x20 x24)) else (heavy_Item_77.j7 k x0 x1 x3 x18 x20 x24)
def heavy_Item_77.j7 : Nat → List (S68) → Int → Int → Int → Int → Int → Option ((List (S68)))
  | 0, _, _, _, _, _, _ => none
  | k + 1, x0, x1, x3, x18, x20, x24 => if x1 < x20 then (heavy_Item_77.j8 k x0 x1 x3 x18 x20 x24 (decide (x20 < x18))) else (heavy_Item_77.j8 k x0 x1 x3 x18 x20 x24 false)
def heavy_Item_77.j8 : Nat → List (S68) → Int → Int → Int → Int → Int → Bool → Option ((List (S68)))
  | 0, _, _, _, _, _, _, _ => none
  | k + 1, x0, x1, x3, x18, x20, x24, x199 => if x199 = true then ((heavy_Item_77.f k x0 x1 x20 x18).bind fun t312 => (if x18 < x24 then (if x24 < x3 then ((heavy_Item_77.f k t312 x18 x24 x3).bind fun t313 => (some t313)) else (some t312)) else (some t312))) else (if x18 < x24 then (if x24 < x3 then ((heavy_Item_77.f k x0 x18 x24 x3).bind fun t314 => (some t314)) else (some x0)) else (some x0))
def heavy_Item_77.f : Nat → List (S68) → Int → Int → Int → Option ((List (S68)))
  | 0, _, _, _, _ => none
  | k + 1, l0, a1, a2, a3 => if (wrap64 (a2 - a1)) = 1 then (heavy_Item_77.l0 k l0 a1 a2 a3) else (if (wrap64 (a3 - a2)) = 1 then (heavy_Item_77.l2 k l0 a2 a1 a2) else (if a2 > (wrap64 ((IntKind.u64.wrap (wrap64 (a1 + a3))) / 2)) then (heavy_Item_77.j4 k l0 a1 a2 a3 (wrap64 ((IntKind.u64.wrap (wrap64 (a1 + a3))) / 2)) (wrap64 ((wrap64 ((IntKind.u64.wrap (wrap64 (a1 + a3))) / 2)) + a2)) (wrap64 ((wrap64 ((wrap64 ((IntKind.u64.wrap (wrap64 (a1 + a3))) / 2)) + a2)) - a3)) (wrap64 ((IntKind.u64.wrap (wrap64 (a1 + a3))) / 2))) else (heavy_Item_77.j4 k l0 a1 a2 a3 (wrap64 ((IntKind.u64.wrap (wrap64 (a1 + a3))) / 2)) (wrap64 ((wrap64 ((IntKind.u64.wrap (wrap64 (a1 + a3))) / 2)) + a2)) a1 a2)))
end
theorem heavy_Item_77.mono_l : ∀ k, (∀ y0 y1 y2 y3, LeO (heavy_Item_77.f k y0 y1 y2 y3) (heavy_Item_77.f (k + 1) y0 y1 y2 y3)) ∧ (∀ y0 y1 y2 y3, LeO (heavy_Item_77.l0 k y0 y1 y2 y3) (heavy_Item_77.l0 (k + 1) y0 y1 y2 y3)) ∧ (∀ y0 y1 y2, LeO (heavy_Item_77.l1 k y0 y1 y2) (heavy_Item_77.l1 (k + 1) y0 y1 y2)) ∧ (∀ y0 y1 y2 y3, LeO (heavy_Item_77.l2 k y0 y1 y2 y3) (heavy_Item_77.l2 (k + 1) y0 y1 y2 y3)) ∧ (∀ y0 y1 y2, LeO (heavy_Item_77.l3 k y0 y1 y2) (heavy_Item_77.l3 (k + 1) y0 y1 y2)) ∧ (∀ y0 y1 y2 y3 y4 y5 y6 y7, LeO (heavy_Item_77.j4 k y0 y1 y2 y3 y4 y5 y6 y7) (heavy_Item_77.j4 (k + 1) y0 y1 y2 y3 y4 y5 y6 y7)) ∧ (∀ y0 y1 y2 y3 y4 y5 y6 y7 y8, LeO (heavy_Item_77.l4 k y0 y1 y2 y3 y4 y5 y6 y7 y8) (heavy_Item_77.l4 (k + 1) y0 y1 y2 y3 y4 y5 y6 y7 y8)) ∧ (∀ y0 y1 y2 y3 y4 y5 y6 y7, LeO (heavy_Item_77.j6 k y0 y1 y2 y3 y4 y5 y6 y7) (heavy_Item_77.j6 (k + 1) y0 y1 y2 y3 y4 y5 y6 y7)) ∧ (∀ y0 y1 y2 y3 y4 y5, LeO (heavy_Item_77.j7 k y0 y1 y2 y3 y4 y5) (heavy_Item_77.j7 (k + 1) y0 y1 y2 y3 y4 y5)) ∧ (∀ y0 y1 y2 y3 y4 y5 y6, LeO (heavy_Item_77.j8 k y0 y1 y2 y3 y4 y5 y6) (heavy_Item_77.j8 (k + 1) y0 y1 y2 y3 y4 y5 y6))
  | 0 => ⟨fun _ _ _ _ r h => by simp [heavy_Item_77.f] at h, fun _ _ _ _ r h => by simp [heavy_Item_77.l0] at h, fun _ _ _ r h => by simp [heavy_Item_77.l1] at h, fun _ _ _ _ r h => by simp [heavy_Item_77.l2] at h, fun _ _ _ r h => by simp [heavy_Item_77.l3] at h, fun _ _ _ _ _ _ _ _ r h => by simp [heavy_Item_77.j4] at h, fun _ _ _ _ _ _ _ _ _ r h => by simp [heavy_Item_77.l4] at h, fun _ _ _ _ _ _ _ _ r h => by simp [heavy_Item_77.j6] at h, fun _ _ _ _ _ _ r h => by simp [heavy_Item_77.j7] at h, fun _ _ _ _ _ _ _ r h => by simp [heavy_Item_77.j8] at h⟩
  | k + 1 => by
    obtain ⟨ih0, ih1, ih2, ih3, ih4, ih5, ih6, ih7, ih8, ih9⟩ := heavy_Item_77.mono_l k
    refine ⟨?_, ?_, ?_, ?_, ?_, ?_, ?_, ?_, ?_, ?_⟩ <;> intros
    all_goals first | unfold heavy_Item_77.f | unfold heavy_Item_77.l0 | unfold heavy_Item_77.l1 | unfold heavy_Item_77.l2 | unfold heavy_Item_77.l3 | unfold heavy_Item_77.j4 | unfold heavy_Item_77.l4 | unfold heavy_Item_77.j6 | unfold heavy_Item_77.j7 | unfold heavy_Item_77.j8
    all_goals repeat' first | (with_reducible first | exact ih0 _ _ _ _ | exact ih1 _ _ _ _ | exact ih2 _ _ _ | exact ih3 _ _ _ _ | exact ih4 _ _ _ | exact ih5 _ _ _ _ _ _ _ _ | exact ih6 _ _ _ _ _ _ _ _ _ | exact ih7 _ _ _ _ _ _ _ _ | exact ih8 _ _ _ _ _ _ | exact ih9 _ _ _ _ _ _ _ | exact elastic_List_1.mono _ _ _ _ _ | exact heavy_Item_85.mono _ _ _ _ _ | exact LeO.refl _ | exact LeO.none _ | refine LeO.ite ?_ ?_ | refine LeO.bind ?_ (fun _ => ?_)) | exact ih0 _ _ _ _ | exact ih1 _ _ _ _ | exact ih2 _ _ _ | exact ih3 _ _ _ _ | exact ih4 _ _ _ | exact ih5 _ _ _ _ _ _ _ _ | exact ih6 _ _ _ _ _ _ _ _ _ | exact ih7 _ _ _ _ _ _ _ _ | exact ih8 _ _ _ _ _ _ | exact ih9 _ _ _ _ _ _ _ | exact elastic_List_1.mono _ _ _ _ _ | exact heavy_Item_85.mono _ _ _ _ _ | exact LeO.none _ | refine LeO.ite ?_ ?_ | refine LeO.bind ?_ (fun _ => ?_)
theorem heavy_Item_77.mono : ∀ a0 a1 a2 a3 k, LeO (heavy_Item_77.f k a0 a1 a2 a3) (heavy_Item_77.f (k + 1) a0 a1 a2 a3) := by
  intro a0 a1 a2 a3 k
  obtain ⟨ih0, ih1, ih2, ih3, ih4, ih5, ih6, ih7, ih8, ih9⟩ := heavy_Item_77.mono_l k
  exact ih0 a0 a1 a2 a3
def heavy_Item_77.T5 : Bool × List (List Nat × List Nat) := (true, [([], []), ([], []), ([], []), ([1, 2], [1, 2]), ([3], [3]), ([], []), ([], []), ([5, 6], [5, 6]), ([7], [7]), ([0, 4, 8], [0, 4, 8]), ([9], [9])])
def heavy_Item_77.B5 : List Nat := [0, 0, 0, 6, 14, 0, 0, 96, 224, 511, 1023]
theorem heavy_Item_77.tab5 : rtab .any (opsOf Try.f77 5) = heavy_Item_77.T5 := by kernel_rfl
theorem heavy_Item_77.bits5 : waitsOk heavy_Item_77.T5.2 heavy_Item_77.B5 = true := by kernel_rfl
def heavy_Item_77.T11 : Bool × List (List Nat × List Nat) := (true, [([], []), ([], []), ([], []), ([], []), ([3], [3]), ([], []), ([], []), ([6], [6]), ([5, 7], [5, 7]), ([8], [8]), ([], []), ([], []), ([10, 11], [10, 11]), ([12], [12]), ([0, 1, 0, 1, 5, 6, 7, 8, 9, 13], [0, 1]), ([14, 9, 0, 1, 5, 6, 7, 8, 9, 13], [9, 14]), ([2, 4, 0, 1, 2, 3, 4, 5, 6, 7, 8, 9, 10, 11, 12, 13, 14, 15], [2, 4]), ([16, 13, 15, 0, 1, 2, 3, 4, 5, 6, 7, 8, 9, 10, 11, 12, 13, 14, 15], [13, 16])])
def heavy_Item_77.B11 : List Nat := [0, 0, 0, 0, 8, 0, 0, 64, 224, 480, 0, 0, 3072, 7168, 16355, 32739, 65535, 131071]
theorem heavy_Item_77.tab11 : rtab .any (opsOf Try.f77 11) = heavy_Item_77.T11 := by kernel_rfl
theorem heavy_Item_77.bits11 : waitsOk heavy_Item_77.T11.2 heavy_Item_77.B11 = true := by kernel_rfl
def heavy_Item_77.T17 : Bool × List (List Nat × List Nat) := (true, [([], []), ([], []), ([], []), ([1, 2], [1, 2]), ([3], [3]), ([], []), ([], []), ([5, 6], [5, 6]), ([7], [7]), ([0, 4, 8], [0, 4, 8]), ([9], [9]), ([10], [10])])
def heavy_Item_77.B17 : List Nat := [0, 0, 0, 6, 14, 0, 0, 96, 224, 511, 1023, 2047]
theorem heavy_Item_77.tab17 : rtab .any (opsOf Try.f77 17) = heavy_Item_77.T17 := by kernel_rfl
theorem heavy_Item_77.bits17 : waitsOk heavy_Item_77.T17.2 heavy_Item_77.B17 = true := by kernel_rfl
def heavy_Item_77.T23 : Bool × List (List Nat × List Nat) := (true, [([], []), ([], []), ([], []), ([], []), ([3], [3]), ([], []), ([], []), ([6], [6]), ([5, 7], [5, 7]), ([8], [8]), ([], []), ([], []), ([10, 11], [10, 11]), ([12], [12]), ([0, 1, 0, 1, 5, 6, 7, 8, 9, 13], [0, 1]), ([14, 9, 0, 1, 5, 6, 7, 8, 9, 13], [9, 14]), ([2, 4, 0, 1, 2, 3, 4, 5, 6, 7, 8, 9, 10, 11, 12, 13, 14, 15], [2, 4]), ([16, 13, 15, 0, 1, 2, 3, 4, 5, 6, 7, 8, 9, 10, 11, 12, 13, 14, 15], [13, 16])])
def heavy_Item_77.B23 : List Nat := [0, 0, 0, 0, 8, 0, 0, 64, 224, 480, 0, 0, 3072, 7168, 16355, 32739, 65535, 131071]
theorem heavy_Item_77.tab23 : rtab .any (opsOf Try.f77 23) = heavy_Item_77.T23 := by kernel_rfl
theorem heavy_Item_77.bits23 : waitsOk heavy_Item_77.T23.2 heavy_Item_77.B23 = true := by kernel_rfl
def heavy_Item_77.T35 : Bool × List (List Nat × List Nat) := (true, [([], []), ([], []), ([], []), ([], []), ([2, 3], [2, 3]), ([1, 4], [1, 4]), ([5], [5]), ([], []), ([], []), ([7, 8], [7, 8]), ([9], [9]), ([0, 6, 10], [0, 6, 10]), ([11], [11]), ([12], [12])])
def heavy_Item_77.B35 : List Nat := [0, 0, 0, 0, 12, 30, 62, 0, 0, 384, 896, 2047, 4095, 8191]
theorem heavy_Item_77.tab35 : rtab .any (opsOf Try.f77 35) = heavy_Item_77.T35 := by kernel_rfl
theorem heavy_Item_77.bits35 : waitsOk heavy_Item_77.T35.2 heavy_Item_77.B35 = true := by kernel_rfl
set_option maxHeartbeats 80000000 in
set_option maxRecDepth 100000 in
theorem heavy_Item_77.calls (k : Nat) : ∀ (P0_ : Nat → Prop) (u9000_ : Value) (l0 : List (S68)) (a1 : Int) (a2 : Int) (a3 : Int) (r : List (S68)) (w0 w : World) (hB : Below w0.heap.size w0 w) (ho0 : Kd.R k68 68 w w0.heap.size P0_ u9000_ l0) (h : heavy_Item_77.f k l0 a1 a2 a3 = some r),
    Calls Try.prog 77 #[u9000_, .int .i64 a1, .int .i64 a2, .int .i64 a3, .func (.func 35) #[] #[]] w fun e w' => e = .returned (.tuple #[]) ∧ Kd.R k68 68 w' w0.heap.size (fun k_ => (P0_ k_ ∨ w.heap.size ≤ k_)) u9000_ r ∧ Below w0.heap.size w0 w' ∧ Kept w w' (fun k_ => P0_ k_) := by
 induction k using Nat.strongRecOn with
 | _ k ih =>
 intro P0_ u9000_ l0 a1 a2 a3 r w0 w hB ho0 h
 cases k with
 | zero => exact absurd h (by simp [heavy_Item_77.f])
 | succ k =>
 simp only [heavy_Item_77.f] at h; have hu68 := Try.underlying68; have gW := mk_ (show Kd.R k68 68 w w0.heap.size (fun k_ => (P0_ k_ ∨ w.heap.size ≤ k_)) u9000_ l0 from Kd.R_mono ho0 (fun k_ hk => (.inl hk))); have HK := mk_ (Kept.refl w (fun k_ => P0_ k_)); have HW0 := mk_ hB.size; have HB := mk_ hB; clear hB; have H : (if (wrap64 (a2 - a1)) = 1 then (heavy_Item_77.l0 k l0 a1 a2 a3) else (if (wrap64 (a3 - a2)) = 1 then (heavy_Item_77.l2 k l0 a2 a1 a2) else (if a2 > (wrap64 ((IntKind.u64.wrap (wrap64 (a1 + a3))) / 2)) then (heavy_Item_77.j4 k l0 a1 a2 a3 (wrap64 ((IntKind.u64.wrap (wrap64 (a1 + a3))) / 2)) (wrap64 ((wrap64 ((IntKind.u64.wrap (wrap64 (a1 + a3))) / 2)) + a2)) (wrap64 ((wrap64 ((wrap64 ((IntKind.u64.wrap (wrap64 (a1 + a3))) / 2)) + a2)) - a3)) (wrap64 ((IntKind.u64.wrap (wrap64 (a1 + a3))) / 2))) else (heavy_Item_77.j4 k l0 a1 a2 a3 (wrap64 ((IntKind.u64.wrap (wrap64 (a1 + a3))) / 2)) (wrap64 ((wrap64 ((IntKind.u64.wrap (wrap64 (a1 + a3))) / 2)) + a2)) a1 a2)))) = some r := h; clear h
 by_cases c5 : (wrap64 (a2 - a1)) = 1
 ·as_aux_lemma =>
  rw [if_pos c5] at H; have cF : ((wrap64 (a2 - a1)) == 1) = true := beq_iff_eq.mpr c5; have cG : ((wrap64 (a2 - a1)) != 1) = false := bne_eq_false_iff_eq.mpr c5; clear c5; have H' := mk_ H; clear H
  go_enter Try.func77, Try.ntmps77
  go_wp2
  go_loopg [10, 11] k (fun kq iR iS w' => ∃ (aH : Int) (bR : Int), iR = .int .i64 aH ∧ iS = .int .i64 bR ∧ Aside0 (heavy_Item_77.l0 kq l0 a1 aH bR = some r) ∧ Aside0 (kq ≤ k) ∧ Aside0 (Kd.R k68 68 w' w0.heap.size (fun k_ => (P0_ k_ ∨ w.heap.size ≤ k_)) u9000_ l0) ∧ Aside0 (Kept w w' (fun k_ => P0_ k_)) ∧ Aside0 (Below w0.heap.size w0 w'))
  case atStart => exact ⟨(a2), (a3), (by first | rfl | (simp; done) | (simp [*]; done)), (by first | rfl | (simp; done) | (simp [*]; done)), H', ⟨Nat.le_refl _⟩, ⟨by (with_reducible repeat (first | apply Kd.R_alloc | apply Kd.R_drewN | apply Kd.R_drew)); exact gW.out⟩, ⟨kp_ HK⟩, ⟨bl_ HB⟩⟩
  case round =>
   as_aux_lemma =>
   clear H'; (try clear c5); (try clear cF); (try clear cG); obtain ⟨aH, bR, rfl, rfl, HA, HK1, aA, HK, HB⟩ := hrel
   cases gk with
   | zero => exact absurd HA.out (by simp [heavy_Item_77.l0])
   | succ k1 =>
    have H := HA.out; clear HA; simp only [heavy_Item_77.l0] at H
    by_cases c6 : aH < bR
    ·as_aux_lemma =>
     rw [if_pos c6] at H; have dD : decide (aH < bR) = true := decide_eq_true c6; clear c6; obtain ⟨ji7, hji7⟩ : ∃ j_ : Int, (wrap64 ((IntKind.u64.wrap (wrap64 (aH + bR))) / 2)) = j_ := ⟨_, rfl⟩
     replace H : (if 0 ≤ (ji7) then (if (ji7) < (l0.length : Int) then (if 0 ≤ a1 then (if a1 < (l0.length : Int) then ((elastic_List_1.f k1 ((rd_T68 l0 (ji7)).f0) ((rd_T68 l0 (ji7)).f1) ((rd_T68 l0 a1).f0) ((rd_T68 l0 a1).f1)).bind fun dN => (if dN < 0 then (heavy_Item_77.l0 k1 l0 a1 (wrap64 ((ji7) + 1)) bR) else (heavy_Item_77.l0 k1 l0 a1 aH ji7))) else (none)) else (none)) else (none)) else (none)) = some r := by first | (rw [hji7] at H; exact H) | (simp only [hji7] at H ⊢; exact H)
     have hji7w : (IntKind.i64.wrap ((IntKind.u64.wrap (wrap64 (aH + bR))) / 2)) = ji7 := (i64_w _).trans hji7
     by_cases c8 : 0 ≤ (ji7)
     ·rw [if_pos c8] at H; have dO : decide (0 ≤ (ji7)) = true := decide_eq_true c8; clear c8
      by_cases c9 : (ji7) < (l0.length : Int)
      ·rw [if_pos c9] at H; have dP : decide ((ji7) < (l0.length : Int)) = true := decide_eq_true c9; clear c9
       by_cases bJ : 0 ≤ a1
       ·rw [if_pos bJ] at H; have dQ : decide (0 ≤ a1) = true := decide_eq_true bJ; clear bJ
        by_cases bK : a1 < (l0.length : Int)
        ·rw [if_pos bK] at H; have dR : decide (a1 < (l0.length : Int)) = true := decide_eq_true bK; clear bK; replace H := Option.bind_eq_some_iff.mp H; obtain ⟨dN, iE, H⟩ := H; replace H : (if dN < 0 then (heavy_Item_77.l0 k1 l0 a1 (wrap64 ((ji7) + 1)) bR) else (heavy_Item_77.l0 k1 l0 a1 aH ji7)) = some r := H; have iF := mk_ iE; clear iE
         by_cases aU : dN < 0
         ·rw [if_pos aU] at H; have dE : decide (dN < 0) = true := decide_eq_true aU; clear aU; have H' := mk_ H; clear H
          try go_wp2
          replace aA := mk_ (Kd.R_drew aA.out); replace HK := mk_ (Kept.drew HK.out); replace HB := mk_ (below_drew1 HB.out); obtain ⟨jP, jQ, eo15⟩ := Kd.R_slice aA.out
          (first | subst eo15 | (injection eo15 with f1_ f2_ f3_; have f4_ := f1_.symm; have f5_ := f3_.symm; clear f1_ f2_ f3_; subst f4_; subst f5_))
          have aN : 0 ≤ ((ji7) : Int) := od_; have aO : (ji7) < (l0.length : Int) := od_; obtain ⟨aP, e294, aW, aX⟩ := at_T68 (Kd.R_reads' aA.out).2.2 (ji7) aN aO
          cases e294; replace aN := eq_true aN; replace aO := eq_true aO; have aQ : 0 ≤ (a1 : Int) := od_; have aR : a1 < (l0.length : Int) := od_; obtain ⟨hM, e295, aY, aZ⟩ := at_T68 (Kd.R_reads' aA.out).2.2 a1 aQ aR; obtain rfl : aP = hM := (by injection e295); replace aQ := eq_true aQ; replace aR := eq_true aR; refine start_ (n := 11) (S := fun w' => w'.cell? (aP.add (((ji7)).toNat * 2)) = some (.string ((rd_T68 l0 (ji7)).f0)) ∧ w'.cell? ⟨(aP.add (((ji7)).toNat * 2)).block, (aP.add (((ji7)).toNat * 2)).off + 1, none⟩ = some (.int .i64 ((rd_T68 l0 (ji7)).f1)) ∧ w'.cell? (aP.add ((a1).toNat * 2)) = some (.string ((rd_T68 l0 a1).f0)) ∧ w'.cell? ⟨(aP.add ((a1).toNat * 2)).block, (aP.add ((a1).toNat * 2)).off + 1, none⟩ = some (.int .i64 ((rd_T68 l0 a1).f1))) (ds := []) (mB 11 0) (by kernel_rfl) rfl rfl ⟨aW, aX, aY, aZ⟩ (fun hHeld => ?_); refine with_tabW heavy_Item_77.tab5 heavy_Item_77.bits5 (fun HT_ HW_ => ?_); generalize wr.drew = jR at aA HK HB aW aX aY aZ hHeld ⊢; refine pq_ 0 40 11 1 HT_ ?_
          refine pq_ 1 41 11 3 HT_ ?_
          refine pq_ 2 42 11 7 HT_ ?_
          refine pq_ 3 43 11 15 HT_ ?_
          refine pq_ 5 45 11 47 HT_ ?_
          refine pq_ 6 46 11 111 HT_ ?_
          refine pq_ 7 47 11 239 HT_ ?_
          refine tq_ 4 44 11 255 HT_ HW_ hHeld ?_
          refine tq_ 8 48 11 511 HT_ HW_ hHeld ?_
          refine one_ (i := 9) (N := some 49) (mB 11 1023) rfl rfl (one_of HT_.out (by kernel_rfl)) (by decide) (fun K hK => ?_); refine Funs.goesv_ (c := .tmp 40) Try.func35 (by kernel_rfl) rfl #[.agg #[.string ((rd_T68 l0 (ji7)).f0), .int .i64 ((rd_T68 l0 (ji7)).f1)], .agg #[.string ((rd_T68 l0 a1).f0), .int .i64 ((rd_T68 l0 a1).f1)]] (by rfl) rfl rfl (by rfl) (by (try simp only [List.map_toArray, List.map_cons, List.map_nil]); first | done | (simp only [hji7]; rfl) | rfl | (simp only [List.length_drop, List.length_take]; rfl)) ?_; with_reducible refine (elastic_List_1.calls k1 ((rd_T68 l0 (ji7)).f0) ((rd_T68 l0 (ji7)).f1) ((rd_T68 l0 a1).f0) ((rd_T68 l0 a1).f1) dN _ iF.out).mono ?_
          rintro e jS ⟨rfl, hb⟩; have HS0_ := (hb.cell (World.block_lt_of_cell? _ _ (hHeld.1))).trans (hHeld.1); have HS1_ := (hb.cell (World.block_lt_of_cell? _ _ (hHeld.2.1))).trans (hHeld.2.1); have HS2_ := (hb.cell (World.block_lt_of_cell? _ _ (hHeld.2.2.1))).trans (hHeld.2.2.1); have HS3_ := (hb.cell (World.block_lt_of_cell? _ _ (hHeld.2.2.2))).trans (hHeld.2.2.2); refine ⟨_, rfl, ?_⟩; replace aA := mk_ (Kd.R_below (rk_ aA) hb); replace HK := mk_ (Kept.below (S := (fun k_ => P0_ k_)) (kp_ HK) hb); replace HB := bs_ HB hb; (try clear hb); refine hK.out _ _ ⟨HS0_, HS1_, HS2_, HS3_⟩ (fun hHeld => ?_); clear hK K; refine norm_ (a' := ?_) ?_ ?_; rotate_left
          ·show Act.put _ (some 49) _ = _
           simp only [Act.put, sa_, sb_, sc_, i64_w, i32_w]; rfl
          refine pq_ 10 50 11 2047 HT_ ?_
          refine done_ (done_of HT_.out (by kernel_rfl)) ?_
          try go_wp2
          go_roundg k1
          case measure => have := HK1.out; omega
          case rel => exact ⟨(wrap64 ((ji7) + 1)), (bR), (by first | rfl | (simp; done) | (simp only [← hji7] <;> (first | rfl | simp)) | (simp [*]; done)), (by first | rfl | (simp; done) | (simp [*]; done)), H', ⟨by have := HK1.out; omega⟩, ⟨by (with_reducible repeat (first | apply Kd.R_alloc | apply Kd.R_drewN | apply Kd.R_drew)); exact aA.out⟩, ⟨kp_ HK⟩, ⟨bl_ HB⟩⟩
         ·rw [if_neg aU] at H; have dE : decide (dN < 0) = false := decide_eq_false aU; clear aU; have H' := mk_ H; clear H
          try go_wp2
          replace aA := mk_ (Kd.R_drew aA.out); replace HK := mk_ (Kept.drew HK.out); replace HB := mk_ (below_drew1 HB.out); obtain ⟨jT, jU, eo18⟩ := Kd.R_slice aA.out
          (first | subst eo18 | (injection eo18 with f1_ f2_ f3_; have f4_ := f1_.symm; have f5_ := f3_.symm; clear f1_ f2_ f3_; subst f4_; subst f5_))
          have aN : 0 ≤ ((ji7) : Int) := od_; have aO : (ji7) < (l0.length : Int) := od_; obtain ⟨aP, e294, aW, aX⟩ := at_T68 (Kd.R_reads' aA.out).2.2 (ji7) aN aO
          cases e294; replace aN := eq_true aN; replace aO := eq_true aO; have aQ : 0 ≤ (a1 : Int) := od_; have aR : a1 < (l0.length : Int) := od_; obtain ⟨hM, e295, aY, aZ⟩ := at_T68 (Kd.R_reads' aA.out).2.2 a1 aQ aR; obtain rfl : aP = hM := (by injection e295); replace aQ := eq_true aQ; replace aR := eq_true aR; refine start_ (n := 11) (S := fun w' => w'.cell? (aP.add (((ji7)).toNat * 2)) = some (.string ((rd_T68 l0 (ji7)).f0)) ∧ w'.cell? ⟨(aP.add (((ji7)).toNat * 2)).block, (aP.add (((ji7)).toNat * 2)).off + 1, none⟩ = some (.int .i64 ((rd_T68 l0 (ji7)).f1)) ∧ w'.cell? (aP.add ((a1).toNat * 2)) = some (.string ((rd_T68 l0 a1).f0)) ∧ w'.cell? ⟨(aP.add ((a1).toNat * 2)).block, (aP.add ((a1).toNat * 2)).off + 1, none⟩ = some (.int .i64 ((rd_T68 l0 a1).f1))) (ds := []) (mB 11 0) (by kernel_rfl) rfl rfl ⟨aW, aX, aY, aZ⟩ (fun hHeld => ?_); refine with_tabW heavy_Item_77.tab5 heavy_Item_77.bits5 (fun HT_ HW_ => ?_); generalize wr.drew = jV at aA HK HB aW aX aY aZ hHeld ⊢; refine pq_ 0 40 11 1 HT_ ?_
          refine pq_ 1 41 11 3 HT_ ?_
          refine pq_ 2 42 11 7 HT_ ?_
          refine pq_ 3 43 11 15 HT_ ?_
          refine pq_ 5 45 11 47 HT_ ?_
          refine pq_ 6 46 11 111 HT_ ?_
          refine pq_ 7 47 11 239 HT_ ?_
          refine tq_ 4 44 11 255 HT_ HW_ hHeld ?_
          refine tq_ 8 48 11 511 HT_ HW_ hHeld ?_
          refine one_ (i := 9) (N := some 49) (mB 11 1023) rfl rfl (one_of HT_.out (by kernel_rfl)) (by decide) (fun K hK => ?_); refine Funs.goesv_ (c := .tmp 40) Try.func35 (by kernel_rfl) rfl #[.agg #[.string ((rd_T68 l0 (ji7)).f0), .int .i64 ((rd_T68 l0 (ji7)).f1)], .agg #[.string ((rd_T68 l0 a1).f0), .int .i64 ((rd_T68 l0 a1).f1)]] (by rfl) rfl rfl (by rfl) (by (try simp only [List.map_toArray, List.map_cons, List.map_nil]); first | done | (simp only [hji7]; rfl) | rfl | (simp only [List.length_drop, List.length_take]; rfl)) ?_; with_reducible refine (elastic_List_1.calls k1 ((rd_T68 l0 (ji7)).f0) ((rd_T68 l0 (ji7)).f1) ((rd_T68 l0 a1).f0) ((rd_T68 l0 a1).f1) dN _ iF.out).mono ?_
          rintro e jW ⟨rfl, hb⟩; have HS0_ := (hb.cell (World.block_lt_of_cell? _ _ (hHeld.1))).trans (hHeld.1); have HS1_ := (hb.cell (World.block_lt_of_cell? _ _ (hHeld.2.1))).trans (hHeld.2.1); have HS2_ := (hb.cell (World.block_lt_of_cell? _ _ (hHeld.2.2.1))).trans (hHeld.2.2.1); have HS3_ := (hb.cell (World.block_lt_of_cell? _ _ (hHeld.2.2.2))).trans (hHeld.2.2.2); refine ⟨_, rfl, ?_⟩; replace aA := mk_ (Kd.R_below (rk_ aA) hb); replace HK := mk_ (Kept.below (S := (fun k_ => P0_ k_)) (kp_ HK) hb); replace HB := bs_ HB hb; (try clear hb); refine hK.out _ _ ⟨HS0_, HS1_, HS2_, HS3_⟩ (fun hHeld => ?_); clear hK K; refine norm_ (a' := ?_) ?_ ?_; rotate_left
          ·show Act.put _ (some 49) _ = _
           simp only [Act.put, sa_, sb_, sc_, i64_w, i32_w]; rfl
          refine pq_ 10 50 11 2047 HT_ ?_
          refine done_ (done_of HT_.out (by kernel_rfl)) ?_
          try go_wp2
          go_roundg k1
          case measure => have := HK1.out; omega
          case rel => exact ⟨(aH), (ji7), (by first | rfl | (simp; done) | (simp [*]; done)), (by first | rfl | (simp; done) | (simp only [← hji7] <;> (first | rfl | simp)) | (simp [*]; done)), H', ⟨by have := HK1.out; omega⟩, ⟨by (with_reducible repeat (first | apply Kd.R_alloc | apply Kd.R_drewN | apply Kd.R_drew)); exact aA.out⟩, ⟨kp_ HK⟩, ⟨bl_ HB⟩⟩
        ·rw [if_neg bK] at H; exact absurd H (by simp)
       ·rw [if_neg bJ] at H; exact absurd H (by simp)
      ·rw [if_neg c9] at H; exact absurd H (by simp)
     ·rw [if_neg c8] at H; exact absurd H (by simp)
    ·as_aux_lemma =>
     rw [if_neg c6] at H; have dD : decide (aH < bR) = false := decide_eq_false c6; clear c6; have H' := mk_ H; clear H
     go_wp2
     go_loopg [13] k1 (fun kq iT w' => ∃ (aB : List (S68)) (aD : Int), iT = .int .i64 aD ∧ Aside0 (heavy_Item_77.l1 kq aB aH aD = some r) ∧ Aside0 (kq ≤ k1) ∧ Aside0 (Kd.R k68 68 w' w0.heap.size (fun k_ => (P0_ k_ ∨ w.heap.size ≤ k_)) u9000_ aB) ∧ Aside0 (Kept w w' (fun k_ => P0_ k_)) ∧ Aside0 (Below w0.heap.size w0 w'))
     case atStart => exact ⟨(l0), (a1), (by first | rfl | (simp; done) | (simp [*]; done)), H', ⟨Nat.le_refl _⟩, ⟨by (with_reducible repeat (first | apply Kd.R_alloc | apply Kd.R_drewN | apply Kd.R_drew)); exact aA.out⟩, ⟨kp_ HK⟩, ⟨bl_ HB⟩⟩
     case round =>
      as_aux_lemma =>
      clear H'; (try clear c5); (try clear cF); (try clear cG); (try clear c6); (try clear dD); (try clear c8); (try clear dO); (try clear c9); (try clear dP); (try clear bJ); (try clear dQ); (try clear bK); (try clear dR); (try clear aU); (try clear dE); (try clear aW); (try clear aX); (try clear aY); (try clear aZ); (try clear aN); (try clear aQ); (try clear aO); (try clear aR); obtain ⟨aB, aD, rfl, HA, HK2, aA, HK, HB⟩ := hrel
      cases gk with
      | zero => exact absurd HA.out (by simp [heavy_Item_77.l1])
      | succ k2 =>
       have H := HA.out; clear HA; simp only [heavy_Item_77.l1] at H
       by_cases bA : aD < (wrap64 (aH - 1))
       ·rw [if_pos bA] at H; have dS : decide (aD < (wrap64 (aH - 1))) = true := decide_eq_true bA; clear bA; obtain ⟨ji21, hji21⟩ : ∃ j_ : Int, (wrap64 (aD + 1)) = j_ := ⟨_, rfl⟩
        replace H : (if 0 ≤ (ji21) then (if (ji21) < (aB.length : Int) then (if 0 ≤ aD then (if aD < (aB.length : Int) then (heavy_Item_77.l1 k2 ((aB.set (aD : Int).toNat (⟨(rd_T68 aB (ji21)).f0, (rd_T68 aB (ji21)).f1⟩ : S68)).set ((ji21) : Int).toNat (⟨(rd_T68 aB aD).f0, (rd_T68 aB aD).f1⟩ : S68)) aH ji21) else (none)) else (none)) else (none)) else (none)) = some r := by first | (rw [hji21] at H; exact H) | (simp only [hji21] at H ⊢; exact H)
        have hji21w : (IntKind.i64.wrap (aD + 1)) = ji21 := (i64_w _).trans hji21; (try simp only [hji21] at hji7); (try simp only [hji21] at hji7w)
        by_cases bS : 0 ≤ (ji21)
        ·rw [if_pos bS] at H; have fL : decide (0 ≤ (ji21)) = true := decide_eq_true bS; clear bS
         by_cases bT : (ji21) < (aB.length : Int)
         ·rw [if_pos bT] at H; have fM : decide ((ji21) < (aB.length : Int)) = true := decide_eq_true bT; clear bT
          by_cases bU : 0 ≤ aD
          ·rw [if_pos bU] at H; have fN : decide (0 ≤ aD) = true := decide_eq_true bU; clear bU
           by_cases bV : aD < (aB.length : Int)
           ·rw [if_pos bV] at H; have fO : decide (aD < (aB.length : Int)) = true := decide_eq_true bV; clear bV; obtain ⟨y299, hy299⟩ : ∃ y_ : List (S68), y_ = (aB.set (aD : Int).toNat (⟨(rd_T68 aB (ji21)).f0, (rd_T68 aB (ji21)).f1⟩ : S68)) := ⟨_, rfl⟩
            replace H : (heavy_Item_77.l1 k2 (y299.set ((ji21) : Int).toNat (⟨(rd_T68 aB aD).f0, (rd_T68 aB aD).f1⟩ : S68)) aH ji21) = some r := by first | (rw [hy299]; with_reducible exact H) | (have H2_ := (Option.bind_some _ _).symm.trans H; rw [hy299]; with_reducible exact H2_) | (have H2_ := (Option.bind_some _ _).symm.trans H; with_reducible exact H2_) | with_reducible exact H | (rw [hy299]; exact H) | exact H
            have iU := mk_ hy299; clear hy299; obtain ⟨y300, hy300⟩ : ∃ y_ : List (S68), y_ = (y299.set ((ji21) : Int).toNat (⟨(rd_T68 aB aD).f0, (rd_T68 aB aD).f1⟩ : S68)) := ⟨_, rfl⟩
            replace H : (heavy_Item_77.l1 k2 y300 aH ji21) = some r := by first | (rw [hy300]; with_reducible exact H) | (have H2_ := (Option.bind_some _ _).symm.trans H; rw [hy300]; with_reducible exact H2_) | (have H2_ := (Option.bind_some _ _).symm.trans H; with_reducible exact H2_) | with_reducible exact H | (rw [hy300]; exact H) | exact H
            have iV := mk_ hy300; clear hy300; have H' := mk_ H; clear H
            try go_wp2
            replace aA := mk_ (Kd.R_drew aA.out); replace HK := mk_ (Kept.drew HK.out); replace HB := mk_ (below_drew1 HB.out); obtain ⟨jX, jY, eo29⟩ := Kd.R_slice aA.out
            (first | subst eo29 | (injection eo29 with f1_ f2_ f3_; have f4_ := f1_.symm; have f5_ := f3_.symm; clear f1_ f2_ f3_; subst f4_; subst f5_))
            have cH : 0 ≤ ((ji21) : Int) := od_; have cI : (ji21) < (aB.length : Int) := od_; obtain ⟨iW, e297, cJ, cK⟩ := at_T68 (Kd.R_reads' aA.out).2.2 (ji21) cH cI
            cases e297; replace cH := eq_true cH; replace cI := eq_true cI; have cL : 0 ≤ (aD : Int) := od_; have cM : aD < (aB.length : Int) := od_; obtain ⟨iX, e298, cN, cO⟩ := at_T68 (Kd.R_reads' aA.out).2.2 aD cL cM; obtain rfl : iW = iX := (by injection e298); replace cL := eq_true cL; replace cM := eq_true cM; have aJ : 0 ≤ (aD : Int) := od_; have aK : (aD : Int) < ((aB.length : Int) : Int) := od_; obtain ⟨go26, jZ, eo26, iG, gl26, cl26, HG26⟩ := Kd.R_form aA.out (by omega)
            (first | cases eo26 | (injection eo26 with ea_ en_ ec_; (first | subst ea_ | (injection ea_ with ea_; subst ea_)); subst ec_; clear en_))
            have GB26 := mk_ iG; have GG26 := mk_ HG26; clear iG gl26 HG26; have HMgo26 := mk_ (show (P0_ go26 ∨ w.heap.size ≤ go26) from (aA.out.1 _ rfl))
            (first | simp only [add_plain] at cJ | skip)
            (first | simp only [add_plain] at cK | skip)
            (first | simp only [add_plain] at cN | skip)
            (first | simp only [add_plain] at cO | skip)
            obtain ⟨ce26, hcl26, hM26, hcc26, hfr26⟩ := Kd.R_elem aA.out z68 (aD : Int) aJ aK; obtain rfl := k68_openM hM26; have dT : World.cell? _ ⟨go26, (aD : Int).toNat * 2, none⟩ = some (.string ((rd_T68 aB aD).f0)) := hcc26 0 _ rfl; have dU : World.cell? _ ⟨go26, (aD : Int).toNat * 2 + 1, none⟩ = some (.int .i64 ((rd_T68 aB aD).f1)) := hcc26 1 _ rfl; have hf26_0 : World.frozen? _ ⟨go26, (aD : Int).toNat * 2, none⟩ = false := hfr26 0; have hf26_1 : World.frozen? _ ⟨go26, (aD : Int).toNat * 2 + 1, none⟩ = false := hfr26 1; clear hcl26 hcc26 hfr26; (try clear hM26); replace aJ := eq_true aJ; replace aK := eq_true aK; obtain ⟨ce30, hcl30, hM30, hcc30, hfr30⟩ := Kd.R_elem aA.out z68 (aD : Int) od_ (by have h_ : (aD : Int) < ((aB.length : Int) : Int) := od_; first | exact h_ | (have e_ := (Kd.R_reads' aA.out).1; omega) | simpa using h_); obtain rfl := k68_openM hM30
            have HP30 := (Kd.R_seg aA.out (aD : Int) od_ (by have h_ : (aD : Int) < ((aB.length : Int) : Int) := od_; first | exact h_ | (have e_ := (Kd.R_reads' aA.out).1; omega) | simpa using h_) (seg := [.string ((rd_T68 aB (ji21)).f0), .int .i64 ((rd_T68 aB (ji21)).f1)]) (j := 0) hcl30 hcc30 (show 2 ≤ 2 from by decide) (x' := (⟨(rd_T68 aB (ji21)).f0, (rd_T68 aB (ji21)).f1⟩ : S68)) (k68_mkM _ _ _ (⟨(rd_T68 aB (ji21)).f0, (rd_T68 aB (ji21)).f1⟩ : S68) ) (fun _ hk => hk)).1; rw [← iU.out] at HP30; have HQ30 := mk_ HP30; clear hcl30 hcc30 hfr30 hM30 HP30; have aL : 0 ≤ ((ji21) : Int) := od_; have aM : ((ji21) : Int) < ((aB.length : Int) : Int) := od_; obtain ⟨ce27, hcl27, hM27, hcc27, hfr27⟩ := Kd.R_elem HQ30.out z68 ((ji21) : Int) aL aM; obtain rfl := k68_openM hM27; have bL : World.cell? _ ⟨go26, ((ji21) : Int).toNat * 2, none⟩ = some (.string ((rd_T68 y299 (ji21)).f0)) := hcc27 0 _ rfl; have bM : World.cell? _ ⟨go26, ((ji21) : Int).toNat * 2 + 1, none⟩ = some (.int .i64 ((rd_T68 y299 (ji21)).f1)) := hcc27 1 _ rfl; have hf27_0 : World.frozen? _ ⟨go26, ((ji21) : Int).toNat * 2, none⟩ = false := hfr27 0
            have hf27_1 : World.frozen? _ ⟨go26, ((ji21) : Int).toNat * 2 + 1, none⟩ = false := hfr27 1; clear hcl27 hcc27 hfr27; (try clear hM27); replace aL := eq_true aL; replace aM := eq_true aM; obtain ⟨ce31, hcl31, hM31, hcc31, hfr31⟩ := Kd.R_elem HQ30.out z68 ((ji21) : Int) od_ (by have h_ : ((ji21) : Int) < ((aB.length : Int) : Int) := od_; first | exact h_ | (have e_ := (Kd.R_reads' aA.out).1; omega) | simpa using h_); obtain rfl := k68_openM hM31; have HP31 := (Kd.R_seg HQ30.out ((ji21) : Int) od_ (by have h_ : ((ji21) : Int) < ((aB.length : Int) : Int) := od_; first | exact h_ | (have e_ := (Kd.R_reads' aA.out).1; omega) | simpa using h_) (seg := [.string ((rd_T68 aB aD).f0), .int .i64 ((rd_T68 aB aD).f1)]) (j := 0) hcl31 hcc31 (show 2 ≤ 2 from by decide) (x' := (⟨(rd_T68 aB aD).f0, (rd_T68 aB aD).f1⟩ : S68)) (k68_mkM _ _ _ (⟨(rd_T68 aB aD).f0, (rd_T68 aB aD).f1⟩ : S68) ) (fun _ hk => hk)).1; rw [← iV.out] at HP31; have HQ31 := mk_ HP31; clear hcl31 hcc31 hfr31 hM31 HP31
            refine start_ (n := 18) (S := fun w' => w'.cell? ⟨go26, (((ji21)).toNat * 2), none⟩ = some (.string ((rd_T68 aB (ji21)).f0)) ∧ w'.cell? ⟨go26, (((ji21)).toNat * 2) + 1, none⟩ = some (.int .i64 ((rd_T68 aB (ji21)).f1)) ∧ w'.cell? ⟨go26, ((aD).toNat * 2), none⟩ = some (.string ((rd_T68 aB aD).f0)) ∧ w'.cell? ⟨go26, ((aD).toNat * 2) + 1, none⟩ = some (.int .i64 ((rd_T68 aB aD).f1))) (ds := [15, 17]) (mB 18 0) (by kernel_rfl) rfl rfl ⟨cJ, cK, cN, cO⟩ (fun hHeld => ?_); refine with_tabW heavy_Item_77.tab11 heavy_Item_77.bits11 (fun HT_ HW_ => ?_); generalize wr.drew = lA at aA HK HB GG26 HQ30 HQ31 hf26_0 hf26_1 hf27_0 hf27_1 dT dU bL bM cJ cK cN cO hHeld ⊢; refine pq_ 0 61 18 1 HT_ ?_
            refine pq_ 1 62 18 3 HT_ ?_
            refine pq_ 2 63 18 7 HT_ ?_
            refine pq_ 3 64 18 15 HT_ ?_
            refine pq_ 4 65 18 31 HT_ ?_
            refine pq_ 5 66 18 63 HT_ ?_
            refine pq_ 6 67 18 127 HT_ ?_
            refine pq_ 7 68 18 255 HT_ ?_
            refine pq_ 8 69 18 511 HT_ ?_
            refine pq_ 10 71 18 1535 HT_ ?_
            refine pq_ 11 72 18 3583 HT_ ?_
            refine pq_ 12 73 18 7679 HT_ ?_
            refine tq_ 9 70 18 8191 HT_ HW_ hHeld ?_
            refine tq_ 13 74 18 16383 HT_ HW_ hHeld ?_
            refine pq_ 14 75 18 32767 HT_ ?_
            refine last_ (i := 15) (N := none) (mB 18 65535) rfl rfl (one_of HT_.out (by kernel_rfl)) (by decide) (fun K hK => ?_); refine skip_ (w1 := ?_) (by rfl) rfl ?_ ?_; rotate_left
            ·(try have hs_0 := bL); (try have hs_1 := bM); (try have hs_0 := cP); (try have hs_1 := cQ); (try have hg_0 := hf27_0); (try have hg_1 := hf27_1); (try have hg_0 := hf54_0); (try have hg_1 := hf54_1); (try simp only [World.setCells, show k68.sz = 2 from rfl, Nat.add_zero] at hs_0 hs_1 hg_0 hg_1); (try rw [World.cell?_setCell_other _ _ _ _ (by intro h; simp only [Addr.mk.injEq] at h; omega)] at hs_0); (try simp only [World.frozen?_setCell] at hg_0 hg_1); go_simp; rfl
            refine hK.out _ _ ?_; clear hK K; refine pq_ 16 76 18 131071 HT_ ?_
            refine last_ (i := 17) (N := none) (mB 18 262143) rfl rfl (one_of HT_.out (by kernel_rfl)) (by decide) (fun K hK => ?_); refine skip_ (w1 := ?_) (by rfl) rfl ?_ ?_; rotate_left
            ·(try have hs_0 := bL); (try have hs_1 := bM); (try have hs_0 := cP); (try have hs_1 := cQ); (try have hg_0 := hf27_0); (try have hg_1 := hf27_1); (try have hg_0 := hf54_0); (try have hg_1 := hf54_1); (try simp only [World.setCells, show k68.sz = 2 from rfl, Nat.add_zero] at hs_0 hs_1 hg_0 hg_1); (try rw [World.cell?_setCell_other _ _ _ _ (by intro h; simp only [Addr.mk.injEq] at h; omega)] at hs_0); (try simp only [World.frozen?_setCell] at hg_0 hg_1); go_simp; rfl
            refine hK.out _ _ ?_; clear hK K; refine done_ (done_of HT_.out (by kernel_rfl)) ?_
            try go_wp2
            go_roundg k2
            case measure => have := HK1.out; have := HK2.out; omega
            case rel => exact ⟨(y300), (ji21), (by first | rfl | (simp; done) | (simp only [← hji21] <;> (first | rfl | simp)) | (simp [*]; done)), H', ⟨by have := HK1.out; have := HK2.out; omega⟩, ⟨by (with_reducible repeat (first | apply Kd.R_alloc | apply Kd.R_drewN | apply Kd.R_drew)); exact HQ31.out⟩, ⟨by repeat (first | (with_reducible first | exact HK.out | apply Kept.alloc | apply Kept.drewN | apply Kept.drew | refine Kept.setCell ?_ HMgo26.out _ | refine Kept.setCell ?_ HMgo26.out _ | refine Kept.setCell ?_ HMgo26.out _ | refine Kept.setCell ?_ HMgo26.out _) | exact HK.out)⟩, ⟨bl_ HB⟩⟩
           ·rw [if_neg bV] at H; exact absurd H (by simp)
          ·rw [if_neg bU] at H; exact absurd H (by simp)
         ·rw [if_neg bT] at H; exact absurd H (by simp)
        ·rw [if_neg bS] at H; exact absurd H (by simp)
       ·rw [if_neg bA] at H; have dS : decide (aD < (wrap64 (aH - 1))) = false := decide_eq_false bA; clear bA; obtain rfl := Option.some.inj H
        go_wp2
        first | go_end0 | ((try simp only [Exit.inBlock, Exit.then]); refine bodyPost_ret (results_none rfl _ _ _) rfl ?_)
        exact ⟨by first | rfl | (simp [*] <;> rfl), by (with_reducible repeat (first | apply Kd.R_alloc | apply Kd.R_drewN | apply Kd.R_drew)); exact aA.out, bl_ HB, by repeat (first | (with_reducible first | exact HK.out | apply Kept.alloc | apply Kept.drewN | apply Kept.drew) | exact HK.out)⟩
 ·as_aux_lemma =>
  rw [if_neg c5] at H; have cF : ((wrap64 (a2 - a1)) == 1) = false := beq_eq_false_iff_ne.mpr c5; have cG : ((wrap64 (a2 - a1)) != 1) = true := bne_iff_ne.mpr c5
  by_cases aV : (wrap64 (a3 - a2)) = 1
  ·as_aux_lemma =>
   rw [if_pos aV] at H; have dV : ((wrap64 (a3 - a2)) == 1) = true := beq_iff_eq.mpr aV; have dW : ((wrap64 (a3 - a2)) != 1) = false := bne_eq_false_iff_eq.mpr aV; clear aV; have H' := mk_ H; clear H
   go_enter Try.func77, Try.ntmps77
   go_wp2
   go_loopg [14, 15] k (fun kq iY iZ w' => ∃ (aI : Int) (bW : Int), iY = .int .i64 aI ∧ iZ = .int .i64 bW ∧ Aside0 (heavy_Item_77.l2 kq l0 a2 aI bW = some r) ∧ Aside0 (kq ≤ k) ∧ Aside0 (Kd.R k68 68 w' w0.heap.size (fun k_ => (P0_ k_ ∨ w.heap.size ≤ k_)) u9000_ l0) ∧ Aside0 (Kept w w' (fun k_ => P0_ k_)) ∧ Aside0 (Below w0.heap.size w0 w'))
   case atStart => exact ⟨(a1), (a2), (by first | rfl | (simp; done) | (simp [*]; done)), (by first | rfl | (simp; done) | (simp [*]; done)), H', ⟨Nat.le_refl _⟩, ⟨by (with_reducible repeat (first | apply Kd.R_alloc | apply Kd.R_drewN | apply Kd.R_drew)); exact gW.out⟩, ⟨kp_ HK⟩, ⟨bl_ HB⟩⟩
   case round =>
    as_aux_lemma =>
    clear H'; (try clear c5); (try clear cF); (try clear cG); (try clear c6); (try clear dD); (try clear c8); (try clear dO); (try clear c9); (try clear dP); (try clear bJ); (try clear dQ); (try clear bK); (try clear dR); (try clear aU); (try clear dE); (try clear bA); (try clear dS); (try clear bS); (try clear fL); (try clear bT); (try clear fM); (try clear bU); (try clear fN); (try clear bV); (try clear fO); (try clear aJ); (try clear aK); (try clear aL); (try clear aM); (try clear aV); (try clear dV); (try clear dW); (try clear dT); (try clear dU); (try clear bL); (try clear bM); (try clear aW); (try clear aX); (try clear aY); (try clear aZ); (try clear cJ); (try clear cK); (try clear cN); (try clear cO); (try clear aJ); (try clear aL); (try clear aN); (try clear aQ); (try clear cH); (try clear cL); (try clear aK); (try clear aM); (try clear aO); (try clear aR); (try clear cI); (try clear cM); obtain ⟨aI, bW, rfl, rfl, HA, HK1, aA, HK, HB⟩ := hrel
    cases gk with
    | zero => exact absurd HA.out (by simp [heavy_Item_77.l2])
    | succ k1 =>
     have H := HA.out; clear HA; simp only [heavy_Item_77.l2] at H
     by_cases bP : aI < bW
     ·as_aux_lemma =>
      rw [if_pos bP] at H; have fP : decide (aI < bW) = true := decide_eq_true bP; clear bP
      by_cases cR : 0 ≤ a2
      ·as_aux_lemma =>
       rw [if_pos cR] at H; have gA : decide (0 ≤ a2) = true := decide_eq_true cR; clear cR
       by_cases cS : a2 < (l0.length : Int)
       ·as_aux_lemma =>
        rw [if_pos cS] at H; have gB : decide (a2 < (l0.length : Int)) = true := decide_eq_true cS; clear cS; obtain ⟨ji36, hji36⟩ : ∃ j_ : Int, (wrap64 ((IntKind.u64.wrap (wrap64 (aI + bW))) / 2)) = j_ := ⟨_, rfl⟩
        replace H : (if 0 ≤ (ji36) then (if (ji36) < (l0.length : Int) then ((elastic_List_1.f k1 ((rd_T68 l0 a2).f0) ((rd_T68 l0 a2).f1) ((rd_T68 l0 (ji36)).f0) ((rd_T68 l0 (ji36)).f1)).bind fun dX => (if dX < 0 then (heavy_Item_77.l2 k1 l0 a2 aI ji36) else (heavy_Item_77.l2 k1 l0 a2 (wrap64 ((ji36) + 1)) bW))) else (none)) else (none)) = some r := by first | (rw [hji36] at H; exact H) | (simp only [hji36] at H ⊢; exact H)
        have hji36w : (IntKind.i64.wrap ((IntKind.u64.wrap (wrap64 (aI + bW))) / 2)) = ji36 := (i64_w _).trans hji36; (try simp only [hji36] at hji7); (try simp only [hji36] at hji7w); (try simp only [hji36] at hji21); (try simp only [hji36] at hji21w)
        by_cases cT : 0 ≤ (ji36)
        ·rw [if_pos cT] at H; have gC : decide (0 ≤ (ji36)) = true := decide_eq_true cT; clear cT
         by_cases cU : (ji36) < (l0.length : Int)
         ·rw [if_pos cU] at H; have gD : decide ((ji36) < (l0.length : Int)) = true := decide_eq_true cU; clear cU; replace H := Option.bind_eq_some_iff.mp H; obtain ⟨dX, iH, H⟩ := H; replace H : (if dX < 0 then (heavy_Item_77.l2 k1 l0 a2 aI ji36) else (heavy_Item_77.l2 k1 l0 a2 (wrap64 ((ji36) + 1)) bW)) = some r := H; have iI := mk_ iH; clear iH
          by_cases bQ : dX < 0
          ·rw [if_pos bQ] at H; have fQ : decide (dX < 0) = true := decide_eq_true bQ; clear bQ; have H' := mk_ H; clear H
           try go_wp2
           replace aA := mk_ (Kd.R_drew aA.out); replace HK := mk_ (Kept.drew HK.out); replace HB := mk_ (below_drew1 HB.out); obtain ⟨lB, lC, eo42⟩ := Kd.R_slice aA.out
           (first | subst eo42 | (injection eo42 with f1_ f2_ f3_; have f4_ := f1_.symm; have f5_ := f3_.symm; clear f1_ f2_ f3_; subst f4_; subst f5_))
           have bB : 0 ≤ (a2 : Int) := od_; have bC : a2 < (l0.length : Int) := od_; obtain ⟨aS, e301, bX, bY⟩ := at_T68 (Kd.R_reads' aA.out).2.2 a2 bB bC
           cases e301; replace bB := eq_true bB; replace bC := eq_true bC; have bD : 0 ≤ ((ji36) : Int) := od_; have bE : (ji36) < (l0.length : Int) := od_; obtain ⟨hN, e302, bZ, cA⟩ := at_T68 (Kd.R_reads' aA.out).2.2 (ji36) bD bE; obtain rfl : aS = hN := (by injection e302); replace bD := eq_true bD; replace bE := eq_true bE; refine start_ (n := 12) (S := fun w' => w'.cell? (aS.add ((a2).toNat * 2)) = some (.string ((rd_T68 l0 a2).f0)) ∧ w'.cell? ⟨(aS.add ((a2).toNat * 2)).block, (aS.add ((a2).toNat * 2)).off + 1, none⟩ = some (.int .i64 ((rd_T68 l0 a2).f1)) ∧ w'.cell? (aS.add (((ji36)).toNat * 2)) = some (.string ((rd_T68 l0 (ji36)).f0)) ∧ w'.cell? ⟨(aS.add (((ji36)).toNat * 2)).block, (aS.add (((ji36)).toNat * 2)).off + 1, none⟩ = some (.int .i64 ((rd_T68 l0 (ji36)).f1))) (ds := []) (mB 12 0) (by kernel_rfl) rfl rfl ⟨bX, bY, bZ, cA⟩ (fun hHeld => ?_); refine with_tabW heavy_Item_77.tab17 heavy_Item_77.bits17 (fun HT_ HW_ => ?_); generalize wr.drew = lD at aA HK HB bX bY bZ cA hHeld ⊢; refine pq_ 0 92 12 1 HT_ ?_
           refine pq_ 1 93 12 3 HT_ ?_
           refine pq_ 2 94 12 7 HT_ ?_
           refine pq_ 3 95 12 15 HT_ ?_
           refine pq_ 5 97 12 47 HT_ ?_
           refine pq_ 6 98 12 111 HT_ ?_
           refine pq_ 7 99 12 239 HT_ ?_
           refine tq_ 4 96 12 255 HT_ HW_ hHeld ?_
           refine tq_ 8 100 12 511 HT_ HW_ hHeld ?_
           refine one_ (i := 9) (N := some 101) (mB 12 1023) rfl rfl (one_of HT_.out (by kernel_rfl)) (by decide) (fun K hK => ?_); refine Funs.goesv_ (c := .tmp 92) Try.func35 (by kernel_rfl) rfl #[.agg #[.string ((rd_T68 l0 a2).f0), .int .i64 ((rd_T68 l0 a2).f1)], .agg #[.string ((rd_T68 l0 (ji36)).f0), .int .i64 ((rd_T68 l0 (ji36)).f1)]] (by rfl) rfl rfl (by rfl) (by (try simp only [List.map_toArray, List.map_cons, List.map_nil]); first | done | (simp only [hji36]; rfl) | rfl | (simp only [List.length_drop, List.length_take]; rfl)) ?_; with_reducible refine (elastic_List_1.calls k1 ((rd_T68 l0 a2).f0) ((rd_T68 l0 a2).f1) ((rd_T68 l0 (ji36)).f0) ((rd_T68 l0 (ji36)).f1) dX _ iI.out).mono ?_
           rintro e lE ⟨rfl, hb⟩; have HS0_ := (hb.cell (World.block_lt_of_cell? _ _ (hHeld.1))).trans (hHeld.1); have HS1_ := (hb.cell (World.block_lt_of_cell? _ _ (hHeld.2.1))).trans (hHeld.2.1); have HS2_ := (hb.cell (World.block_lt_of_cell? _ _ (hHeld.2.2.1))).trans (hHeld.2.2.1); have HS3_ := (hb.cell (World.block_lt_of_cell? _ _ (hHeld.2.2.2))).trans (hHeld.2.2.2); refine ⟨_, rfl, ?_⟩; replace aA := mk_ (Kd.R_below (rk_ aA) hb); replace HK := mk_ (Kept.below (S := (fun k_ => P0_ k_)) (kp_ HK) hb); replace HB := bs_ HB hb; (try clear hb); refine hK.out _ _ ⟨HS0_, HS1_, HS2_, HS3_⟩ (fun hHeld => ?_); clear hK K; refine norm_ (a' := ?_) ?_ ?_; rotate_left
           ·show Act.put _ (some 101) _ = _
            simp only [Act.put, sa_, sb_, sc_, i64_w, i32_w]; rfl
           refine pq_ 10 102 12 2047 HT_ ?_
           refine pq_ 11 103 12 4095 HT_ ?_
           refine done_ (done_of HT_.out (by kernel_rfl)) ?_
           try go_wp2
           go_roundg k1
           case measure => have := HK1.out; omega
           case rel => exact ⟨(aI), (ji36), (by first | rfl | (simp; done) | (simp [*]; done)), (by first | rfl | (simp; done) | (simp only [← hji36] <;> (first | rfl | simp)) | (simp [*]; done)), H', ⟨by have := HK1.out; omega⟩, ⟨by (with_reducible repeat (first | apply Kd.R_alloc | apply Kd.R_drewN | apply Kd.R_drew)); exact aA.out⟩, ⟨kp_ HK⟩, ⟨bl_ HB⟩⟩
          ·rw [if_neg bQ] at H; have fQ : decide (dX < 0) = false := decide_eq_false bQ; clear bQ; have H' := mk_ H; clear H
           try go_wp2
           replace aA := mk_ (Kd.R_drew aA.out); replace HK := mk_ (Kept.drew HK.out); replace HB := mk_ (below_drew1 HB.out); obtain ⟨lF, lG, eo45⟩ := Kd.R_slice aA.out
           (first | subst eo45 | (injection eo45 with f1_ f2_ f3_; have f4_ := f1_.symm; have f5_ := f3_.symm; clear f1_ f2_ f3_; subst f4_; subst f5_))
           have bB : 0 ≤ (a2 : Int) := od_; have bC : a2 < (l0.length : Int) := od_; obtain ⟨aS, e301, bX, bY⟩ := at_T68 (Kd.R_reads' aA.out).2.2 a2 bB bC
           cases e301; replace bB := eq_true bB; replace bC := eq_true bC; have bD : 0 ≤ ((ji36) : Int) := od_; have bE : (ji36) < (l0.length : Int) := od_; obtain ⟨hN, e302, bZ, cA⟩ := at_T68 (Kd.R_reads' aA.out).2.2 (ji36) bD bE; obtain rfl : aS = hN := (by injection e302); replace bD := eq_true bD; replace bE := eq_true bE; refine start_ (n := 12) (S := fun w' => w'.cell? (aS.add ((a2).toNat * 2)) = some (.string ((rd_T68 l0 a2).f0)) ∧ w'.cell? ⟨(aS.add ((a2).toNat * 2)).block, (aS.add ((a2).toNat * 2)).off + 1, none⟩ = some (.int .i64 ((rd_T68 l0 a2).f1)) ∧ w'.cell? (aS.add (((ji36)).toNat * 2)) = some (.string ((rd_T68 l0 (ji36)).f0)) ∧ w'.cell? ⟨(aS.add (((ji36)).toNat * 2)).block, (aS.add (((ji36)).toNat * 2)).off + 1, none⟩ = some (.int .i64 ((rd_T68 l0 (ji36)).f1))) (ds := []) (mB 12 0) (by kernel_rfl) rfl rfl ⟨bX, bY, bZ, cA⟩ (fun hHeld => ?_); refine with_tabW heavy_Item_77.tab17 heavy_Item_77.bits17 (fun HT_ HW_ => ?_); generalize wr.drew = lH at aA HK HB bX bY bZ cA hHeld ⊢; refine pq_ 0 92 12 1 HT_ ?_
           refine pq_ 1 93 12 3 HT_ ?_
           refine pq_ 2 94 12 7 HT_ ?_
           refine pq_ 3 95 12 15 HT_ ?_
           refine pq_ 5 97 12 47 HT_ ?_
           refine pq_ 6 98 12 111 HT_ ?_
           refine pq_ 7 99 12 239 HT_ ?_
           refine tq_ 4 96 12 255 HT_ HW_ hHeld ?_
           refine tq_ 8 100 12 511 HT_ HW_ hHeld ?_
           refine one_ (i := 9) (N := some 101) (mB 12 1023) rfl rfl (one_of HT_.out (by kernel_rfl)) (by decide) (fun K hK => ?_); refine Funs.goesv_ (c := .tmp 92) Try.func35 (by kernel_rfl) rfl #[.agg #[.string ((rd_T68 l0 a2).f0), .int .i64 ((rd_T68 l0 a2).f1)], .agg #[.string ((rd_T68 l0 (ji36)).f0), .int .i64 ((rd_T68 l0 (ji36)).f1)]] (by rfl) rfl rfl (by rfl) (by (try simp only [List.map_toArray, List.map_cons, List.map_nil]); first | done | (simp only [hji36]; rfl) | rfl | (simp only [List.length_drop, List.length_take]; rfl)) ?_; with_reducible refine (elastic_List_1.calls k1 ((rd_T68 l0 a2).f0) ((rd_T68 l0 a2).f1) ((rd_T68 l0 (ji36)).f0) ((rd_T68 l0 (ji36)).f1) dX _ iI.out).mono ?_
           rintro e lI ⟨rfl, hb⟩; have HS0_ := (hb.cell (World.block_lt_of_cell? _ _ (hHeld.1))).trans (hHeld.1); have HS1_ := (hb.cell (World.block_lt_of_cell? _ _ (hHeld.2.1))).trans (hHeld.2.1); have HS2_ := (hb.cell (World.block_lt_of_cell? _ _ (hHeld.2.2.1))).trans (hHeld.2.2.1); have HS3_ := (hb.cell (World.block_lt_of_cell? _ _ (hHeld.2.2.2))).trans (hHeld.2.2.2); refine ⟨_, rfl, ?_⟩; replace aA := mk_ (Kd.R_below (rk_ aA) hb); replace HK := mk_ (Kept.below (S := (fun k_ => P0_ k_)) (kp_ HK) hb); replace HB := bs_ HB hb; (try clear hb); refine hK.out _ _ ⟨HS0_, HS1_, HS2_, HS3_⟩ (fun hHeld => ?_); clear hK K; refine norm_ (a' := ?_) ?_ ?_; rotate_left
           ·show Act.put _ (some 101) _ = _
            simp only [Act.put, sa_, sb_, sc_, i64_w, i32_w]; rfl
           refine pq_ 10 102 12 2047 HT_ ?_
           refine pq_ 11 103 12 4095 HT_ ?_
           refine done_ (done_of HT_.out (by kernel_rfl)) ?_
           try go_wp2
           go_roundg k1
           case measure => have := HK1.out; omega
           case rel => exact ⟨(wrap64 ((ji36) + 1)), (bW), (by first | rfl | (simp; done) | (simp only [← hji36] <;> (first | rfl | simp)) | (simp [*]; done)), (by first | rfl | (simp; done) | (simp [*]; done)), H', ⟨by have := HK1.out; omega⟩, ⟨by (with_reducible repeat (first | apply Kd.R_alloc | apply Kd.R_drewN | apply Kd.R_drew)); exact aA.out⟩, ⟨kp_ HK⟩, ⟨bl_ HB⟩⟩
         ·rw [if_neg cU] at H; exact absurd H (by simp)
        ·rw [if_neg cT] at H; exact absurd H (by simp)
       ·rw [if_neg cS] at H; exact absurd H (by simp)
      ·rw [if_neg cR] at H; exact absurd H (by simp)
     ·as_aux_lemma =>
      rw [if_neg bP] at H; have fP : decide (aI < bW) = false := decide_eq_false bP; clear bP; have H' := mk_ H; clear H
      go_wp2
      go_loopg [17] k1 (fun kq jA w' => ∃ (aB : List (S68)) (aE : Int), jA = .int .i64 aE ∧ Aside0 (heavy_Item_77.l3 kq aB aI aE = some r) ∧ Aside0 (kq ≤ k1) ∧ Aside0 (Kd.R k68 68 w' w0.heap.size (fun k_ => (P0_ k_ ∨ w.heap.size ≤ k_)) u9000_ aB) ∧ Aside0 (Kept w w' (fun k_ => P0_ k_)) ∧ Aside0 (Below w0.heap.size w0 w'))
      case atStart => exact ⟨(l0), (a2), (by first | rfl | (simp; done) | (simp [*]; done)), H', ⟨Nat.le_refl _⟩, ⟨by (with_reducible repeat (first | apply Kd.R_alloc | apply Kd.R_drewN | apply Kd.R_drew)); exact aA.out⟩, ⟨kp_ HK⟩, ⟨bl_ HB⟩⟩
      case round =>
       as_aux_lemma =>
       clear H'; (try clear c5); (try clear cF); (try clear cG); (try clear c6); (try clear dD); (try clear c8); (try clear dO); (try clear c9); (try clear dP); (try clear bJ); (try clear dQ); (try clear bK); (try clear dR); (try clear aU); (try clear dE); (try clear bA); (try clear dS); (try clear bS); (try clear fL); (try clear bT); (try clear fM); (try clear bU); (try clear fN); (try clear bV); (try clear fO); (try clear aJ); (try clear aK); (try clear aL); (try clear aM); (try clear aV); (try clear dV); (try clear dW); (try clear bP); (try clear fP); (try clear cR); (try clear gA); (try clear cS); (try clear gB); (try clear cT); (try clear gC); (try clear cU); (try clear gD); (try clear bQ); (try clear fQ); (try clear dT); (try clear dU); (try clear bL); (try clear bM); (try clear aW); (try clear aX); (try clear aY); (try clear aZ); (try clear cJ); (try clear cK); (try clear cN); (try clear cO)
       (try clear bX); (try clear bY); (try clear bZ); (try clear cA); (try clear aJ); (try clear aL); (try clear aN); (try clear aQ); (try clear cH); (try clear cL); (try clear bB); (try clear bD); (try clear aK); (try clear aM); (try clear aO); (try clear aR); (try clear cI); (try clear cM); (try clear bC); (try clear bE); obtain ⟨aB, aE, rfl, HA, HK2, aA, HK, HB⟩ := hrel
       cases gk with
       | zero => exact absurd HA.out (by simp [heavy_Item_77.l3])
       | succ k2 =>
        have H := HA.out; clear HA; simp only [heavy_Item_77.l3] at H
        by_cases cB : aE > aI
        ·rw [if_pos cB] at H; have gE : decide (aI < aE) = true := decide_eq_true cB; clear cB; obtain ⟨ji48, hji48⟩ : ∃ j_ : Int, (wrap64 (aE - 1)) = j_ := ⟨_, rfl⟩
         replace H : (if 0 ≤ (ji48) then (if (ji48) < (aB.length : Int) then (if 0 ≤ aE then (if aE < (aB.length : Int) then (heavy_Item_77.l3 k2 ((aB.set (aE : Int).toNat (⟨(rd_T68 aB (ji48)).f0, (rd_T68 aB (ji48)).f1⟩ : S68)).set ((ji48) : Int).toNat (⟨(rd_T68 aB aE).f0, (rd_T68 aB aE).f1⟩ : S68)) aI ji48) else (none)) else (none)) else (none)) else (none)) = some r := by first | (rw [hji48] at H; exact H) | (simp only [hji48] at H ⊢; exact H)
         have hji48w : (IntKind.i64.wrap (aE - 1)) = ji48 := (i64_w _).trans hji48; (try simp only [hji48] at hji7); (try simp only [hji48] at hji7w); (try simp only [hji48] at hji21); (try simp only [hji48] at hji21w); (try simp only [hji48] at hji36); (try simp only [hji48] at hji36w)
         by_cases dF : 0 ≤ (ji48)
         ·rw [if_pos dF] at H; have gR : decide (0 ≤ (ji48)) = true := decide_eq_true dF; clear dF
          by_cases dG : (ji48) < (aB.length : Int)
          ·rw [if_pos dG] at H; have gS : decide ((ji48) < (aB.length : Int)) = true := decide_eq_true dG; clear dG
           by_cases dH : 0 ≤ aE
           ·rw [if_pos dH] at H; have gT : decide (0 ≤ aE) = true := decide_eq_true dH; clear dH
            by_cases dI : aE < (aB.length : Int)
            ·rw [if_pos dI] at H; have gU : decide (aE < (aB.length : Int)) = true := decide_eq_true dI; clear dI; obtain ⟨y306, hy306⟩ : ∃ y_ : List (S68), y_ = (aB.set (aE : Int).toNat (⟨(rd_T68 aB (ji48)).f0, (rd_T68 aB (ji48)).f1⟩ : S68)) := ⟨_, rfl⟩
             replace H : (heavy_Item_77.l3 k2 (y306.set ((ji48) : Int).toNat (⟨(rd_T68 aB aE).f0, (rd_T68 aB aE).f1⟩ : S68)) aI ji48) = some r := by first | (rw [hy306]; with_reducible exact H) | (have H2_ := (Option.bind_some _ _).symm.trans H; rw [hy306]; with_reducible exact H2_) | (have H2_ := (Option.bind_some _ _).symm.trans H; with_reducible exact H2_) | with_reducible exact H | (rw [hy306]; exact H) | exact H
             have jB := mk_ hy306; clear hy306; obtain ⟨y307, hy307⟩ : ∃ y_ : List (S68), y_ = (y306.set ((ji48) : Int).toNat (⟨(rd_T68 aB aE).f0, (rd_T68 aB aE).f1⟩ : S68)) := ⟨_, rfl⟩
             replace H : (heavy_Item_77.l3 k2 y307 aI ji48) = some r := by first | (rw [hy307]; with_reducible exact H) | (have H2_ := (Option.bind_some _ _).symm.trans H; rw [hy307]; with_reducible exact H2_) | (have H2_ := (Option.bind_some _ _).symm.trans H; with_reducible exact H2_) | with_reducible exact H | (rw [hy307]; exact H) | exact H
             have jC := mk_ hy307; clear hy307; have H' := mk_ H; clear H
             try go_wp2
             replace aA := mk_ (Kd.R_drew aA.out); replace HK := mk_ (Kept.drew HK.out); replace HB := mk_ (below_drew1 HB.out); obtain ⟨lJ, lK, eo56⟩ := Kd.R_slice aA.out
             (first | subst eo56 | (injection eo56 with f1_ f2_ f3_; have f4_ := f1_.symm; have f5_ := f3_.symm; clear f1_ f2_ f3_; subst f4_; subst f5_))
             have dY : 0 ≤ ((ji48) : Int) := od_; have dZ : (ji48) < (aB.length : Int) := od_; obtain ⟨jD, e304, fA, fB⟩ := at_T68 (Kd.R_reads' aA.out).2.2 (ji48) dY dZ
             cases e304; replace dY := eq_true dY; replace dZ := eq_true dZ; have fC : 0 ≤ (aE : Int) := od_; have fD : aE < (aB.length : Int) := od_; obtain ⟨jE, e305, fE, fF⟩ := at_T68 (Kd.R_reads' aA.out).2.2 aE fC fD; obtain rfl : jD = jE := (by injection e305); replace fC := eq_true fC; replace fD := eq_true fD; have bF : 0 ≤ (aE : Int) := od_; have bG : (aE : Int) < ((aB.length : Int) : Int) := od_; obtain ⟨go53, lL, eo53, iJ, gl53, cl53, HG53⟩ := Kd.R_form aA.out (by omega)
             (first | cases eo53 | (injection eo53 with ea_ en_ ec_; (first | subst ea_ | (injection ea_ with ea_; subst ea_)); subst ec_; clear en_))
             have GB53 := mk_ iJ; have GG53 := mk_ HG53; clear iJ gl53 HG53; have HMgo53 := mk_ (show (P0_ go53 ∨ w.heap.size ≤ go53) from (aA.out.1 _ rfl))
             (first | simp only [add_plain] at fA | skip)
             (first | simp only [add_plain] at fB | skip)
             (first | simp only [add_plain] at fE | skip)
             (first | simp only [add_plain] at fF | skip)
             obtain ⟨ce53, hcl53, hM53, hcc53, hfr53⟩ := Kd.R_elem aA.out z68 (aE : Int) bF bG; obtain rfl := k68_openM hM53; have gF : World.cell? _ ⟨go53, (aE : Int).toNat * 2, none⟩ = some (.string ((rd_T68 aB aE).f0)) := hcc53 0 _ rfl; have gG : World.cell? _ ⟨go53, (aE : Int).toNat * 2 + 1, none⟩ = some (.int .i64 ((rd_T68 aB aE).f1)) := hcc53 1 _ rfl; have hf53_0 : World.frozen? _ ⟨go53, (aE : Int).toNat * 2, none⟩ = false := hfr53 0; have hf53_1 : World.frozen? _ ⟨go53, (aE : Int).toNat * 2 + 1, none⟩ = false := hfr53 1; clear hcl53 hcc53 hfr53; (try clear hM53); replace bF := eq_true bF; replace bG := eq_true bG; obtain ⟨ce57, hcl57, hM57, hcc57, hfr57⟩ := Kd.R_elem aA.out z68 (aE : Int) od_ (by have h_ : (aE : Int) < ((aB.length : Int) : Int) := od_; first | exact h_ | (have e_ := (Kd.R_reads' aA.out).1; omega) | simpa using h_); obtain rfl := k68_openM hM57
             have HP57 := (Kd.R_seg aA.out (aE : Int) od_ (by have h_ : (aE : Int) < ((aB.length : Int) : Int) := od_; first | exact h_ | (have e_ := (Kd.R_reads' aA.out).1; omega) | simpa using h_) (seg := [.string ((rd_T68 aB (ji48)).f0), .int .i64 ((rd_T68 aB (ji48)).f1)]) (j := 0) hcl57 hcc57 (show 2 ≤ 2 from by decide) (x' := (⟨(rd_T68 aB (ji48)).f0, (rd_T68 aB (ji48)).f1⟩ : S68)) (k68_mkM _ _ _ (⟨(rd_T68 aB (ji48)).f0, (rd_T68 aB (ji48)).f1⟩ : S68) ) (fun _ hk => hk)).1; rw [← jB.out] at HP57; have HQ57 := mk_ HP57; clear hcl57 hcc57 hfr57 hM57 HP57; have bH : 0 ≤ ((ji48) : Int) := od_; have bI : ((ji48) : Int) < ((aB.length : Int) : Int) := od_; obtain ⟨ce54, hcl54, hM54, hcc54, hfr54⟩ := Kd.R_elem HQ57.out z68 ((ji48) : Int) bH bI; obtain rfl := k68_openM hM54; have cP : World.cell? _ ⟨go53, ((ji48) : Int).toNat * 2, none⟩ = some (.string ((rd_T68 y306 (ji48)).f0)) := hcc54 0 _ rfl; have cQ : World.cell? _ ⟨go53, ((ji48) : Int).toNat * 2 + 1, none⟩ = some (.int .i64 ((rd_T68 y306 (ji48)).f1)) := hcc54 1 _ rfl; have hf54_0 : World.frozen? _ ⟨go53, ((ji48) : Int).toNat * 2, none⟩ = false := hfr54 0
             have hf54_1 : World.frozen? _ ⟨go53, ((ji48) : Int).toNat * 2 + 1, none⟩ = false := hfr54 1; clear hcl54 hcc54 hfr54; (try clear hM54); replace bH := eq_true bH; replace bI := eq_true bI; obtain ⟨ce58, hcl58, hM58, hcc58, hfr58⟩ := Kd.R_elem HQ57.out z68 ((ji48) : Int) od_ (by have h_ : ((ji48) : Int) < ((aB.length : Int) : Int) := od_; first | exact h_ | (have e_ := (Kd.R_reads' aA.out).1; omega) | simpa using h_); obtain rfl := k68_openM hM58; have HP58 := (Kd.R_seg HQ57.out ((ji48) : Int) od_ (by have h_ : ((ji48) : Int) < ((aB.length : Int) : Int) := od_; first | exact h_ | (have e_ := (Kd.R_reads' aA.out).1; omega) | simpa using h_) (seg := [.string ((rd_T68 aB aE).f0), .int .i64 ((rd_T68 aB aE).f1)]) (j := 0) hcl58 hcc58 (show 2 ≤ 2 from by decide) (x' := (⟨(rd_T68 aB aE).f0, (rd_T68 aB aE).f1⟩ : S68)) (k68_mkM _ _ _ (⟨(rd_T68 aB aE).f0, (rd_T68 aB aE).f1⟩ : S68) ) (fun _ hk => hk)).1; rw [← jC.out] at HP58; have HQ58 := mk_ HP58; clear hcl58 hcc58 hfr58 hM58 HP58
             refine start_ (n := 18) (S := fun w' => w'.cell? ⟨go53, (((ji48)).toNat * 2), none⟩ = some (.string ((rd_T68 aB (ji48)).f0)) ∧ w'.cell? ⟨go53, (((ji48)).toNat * 2) + 1, none⟩ = some (.int .i64 ((rd_T68 aB (ji48)).f1)) ∧ w'.cell? ⟨go53, ((aE).toNat * 2), none⟩ = some (.string ((rd_T68 aB aE).f0)) ∧ w'.cell? ⟨go53, ((aE).toNat * 2) + 1, none⟩ = some (.int .i64 ((rd_T68 aB aE).f1))) (ds := [15, 17]) (mB 18 0) (by kernel_rfl) rfl rfl ⟨fA, fB, fE, fF⟩ (fun hHeld => ?_); refine with_tabW heavy_Item_77.tab23 heavy_Item_77.bits23 (fun HT_ HW_ => ?_); generalize wr.drew = lM at aA HK HB GG53 HQ57 HQ58 hf53_0 hf53_1 hf54_0 hf54_1 fA fB fE fF gF gG cP cQ hHeld ⊢; refine pq_ 0 113 18 1 HT_ ?_
             refine pq_ 1 114 18 3 HT_ ?_
             refine pq_ 2 115 18 7 HT_ ?_
             refine pq_ 3 116 18 15 HT_ ?_
             refine pq_ 4 117 18 31 HT_ ?_
             refine pq_ 5 118 18 63 HT_ ?_
             refine pq_ 6 119 18 127 HT_ ?_
             refine pq_ 7 120 18 255 HT_ ?_
             refine pq_ 8 121 18 511 HT_ ?_
             refine pq_ 10 123 18 1535 HT_ ?_
             refine pq_ 11 124 18 3583 HT_ ?_
             refine pq_ 12 125 18 7679 HT_ ?_
             refine tq_ 9 122 18 8191 HT_ HW_ hHeld ?_
             refine tq_ 13 126 18 16383 HT_ HW_ hHeld ?_
             refine pq_ 14 127 18 32767 HT_ ?_
             refine last_ (i := 15) (N := none) (mB 18 65535) rfl rfl (one_of HT_.out (by kernel_rfl)) (by decide) (fun K hK => ?_); refine skip_ (w1 := ?_) (by rfl) rfl ?_ ?_; rotate_left
             ·(try have hs_0 := bL); (try have hs_1 := bM); (try have hs_0 := cP); (try have hs_1 := cQ); (try have hg_0 := hf27_0); (try have hg_1 := hf27_1); (try have hg_0 := hf54_0); (try have hg_1 := hf54_1); (try simp only [World.setCells, show k68.sz = 2 from rfl, Nat.add_zero] at hs_0 hs_1 hg_0 hg_1); (try rw [World.cell?_setCell_other _ _ _ _ (by intro h; simp only [Addr.mk.injEq] at h; omega)] at hs_0); (try simp only [World.frozen?_setCell] at hg_0 hg_1); go_simp; rfl
             refine hK.out _ _ ?_; clear hK K; refine pq_ 16 128 18 131071 HT_ ?_
             refine last_ (i := 17) (N := none) (mB 18 262143) rfl rfl (one_of HT_.out (by kernel_rfl)) (by decide) (fun K hK => ?_); refine skip_ (w1 := ?_) (by rfl) rfl ?_ ?_; rotate_left
             ·(try have hs_0 := bL); (try have hs_1 := bM); (try have hs_0 := cP); (try have hs_1 := cQ); (try have hg_0 := hf27_0); (try have hg_1 := hf27_1); (try have hg_0 := hf54_0); (try have hg_1 := hf54_1); (try simp only [World.setCells, show k68.sz = 2 from rfl, Nat.add_zero] at hs_0 hs_1 hg_0 hg_1); (try rw [World.cell?_setCell_other _ _ _ _ (by intro h; simp only [Addr.mk.injEq] at h; omega)] at hs_0); (try simp only [World.frozen?_setCell] at hg_0 hg_1); go_simp; rfl
             refine hK.out _ _ ?_; clear hK K; refine done_ (done_of HT_.out (by kernel_rfl)) ?_
             try go_wp2
             go_roundg k2
             case measure => have := HK1.out; have := HK2.out; omega
             case rel => exact ⟨(y307), (ji48), (by first | rfl | (simp; done) | (simp only [← hji48] <;> (first | rfl | simp)) | (simp [*]; done)), H', ⟨by have := HK1.out; have := HK2.out; omega⟩, ⟨by (with_reducible repeat (first | apply Kd.R_alloc | apply Kd.R_drewN | apply Kd.R_drew)); exact HQ58.out⟩, ⟨by repeat (first | (with_reducible first | exact HK.out | apply Kept.alloc | apply Kept.drewN | apply Kept.drew | refine Kept.setCell ?_ HMgo53.out _ | refine Kept.setCell ?_ HMgo53.out _ | refine Kept.setCell ?_ HMgo53.out _ | refine Kept.setCell ?_ HMgo53.out _) | exact HK.out)⟩, ⟨bl_ HB⟩⟩
            ·rw [if_neg dI] at H; exact absurd H (by simp)
           ·rw [if_neg dH] at H; exact absurd H (by simp)
          ·rw [if_neg dG] at H; exact absurd H (by simp)
         ·rw [if_neg dF] at H; exact absurd H (by simp)
        ·rw [if_neg cB] at H; have gE : decide (aI < aE) = false := decide_eq_false cB; clear cB; obtain rfl := Option.some.inj H
         go_wp2
         first | go_end0 | ((try simp only [Exit.inBlock, Exit.then]); refine bodyPost_ret (results_none rfl _ _ _) rfl ?_)
         exact ⟨by first | rfl | (simp [*] <;> rfl), by (with_reducible repeat (first | apply Kd.R_alloc | apply Kd.R_drewN | apply Kd.R_drew)); exact aA.out, bl_ HB, by repeat (first | (with_reducible first | exact HK.out | apply Kept.alloc | apply Kept.drewN | apply Kept.drew) | exact HK.out)⟩
  ·as_aux_lemma =>
   rw [if_neg aV] at H; have dV : ((wrap64 (a3 - a2)) == 1) = false := beq_eq_false_iff_ne.mpr aV; have dW : ((wrap64 (a3 - a2)) != 1) = true := bne_iff_ne.mpr aV; have HC59 := mk_ H; clear H
   go_enter Try.func77, Try.ntmps77
   go_upto_if 140 with (fail)
   go_cut [20, 21] (fun hO hP wc => ∃ (kq : Nat) (gX : Int) (gY : Int), hO = .int .i64 gX ∧ hP = .int .i64 gY ∧ Aside0 (heavy_Item_77.j4 kq l0 a1 a2 a3 (wrap64 ((IntKind.u64.wrap (wrap64 (a1 + a3))) / 2)) (wrap64 ((wrap64 ((IntKind.u64.wrap (wrap64 (a1 + a3))) / 2)) + a2)) gX gY = some r) ∧ Aside0 (kq ≤ k) ∧ Aside0 (Kd.R k68 68 wc w0.heap.size (fun k_ => (P0_ k_ ∨ w.heap.size ≤ k_)) u9000_ l0) ∧ Aside0 (Kept w wc (fun k_ => P0_ k_)) ∧ Aside0 (Below w0.heap.size w0 wc))
   case first =>
    have H := HC59.out; clear HC59
    by_cases cC : a2 > (wrap64 ((IntKind.u64.wrap (wrap64 (a1 + a3))) / 2))
    ·rw [if_pos cC] at H; have cX : decide ((wrap64 ((IntKind.u64.wrap (wrap64 (a1 + a3))) / 2)) < a2) = true := decide_eq_true cC; clear cC
     (first | rw [cX] | (simp only [i64_w, i32_w]; rw [cX]) | skip)
     have H' := mk_ H; clear H
     go_wp2
     go_meet
     case rel => exact ⟨_, (wrap64 ((wrap64 ((wrap64 ((IntKind.u64.wrap (wrap64 (a1 + a3))) / 2)) + a2)) - a3)), (wrap64 ((IntKind.u64.wrap (wrap64 (a1 + a3))) / 2)), (by first | rfl | (simp; done) | (simp [*]; done)), (by first | rfl | (simp; done) | (simp [*]; done)), H', ⟨by first | omega | exact Nat.le_refl _⟩, ⟨by (with_reducible repeat (first | apply Kd.R_alloc | apply Kd.R_drewN | apply Kd.R_drew)); exact gW.out⟩, ⟨kp_ HK⟩, ⟨bl_ HB⟩⟩
    ·rw [if_neg cC] at H; have cX : decide ((wrap64 ((IntKind.u64.wrap (wrap64 (a1 + a3))) / 2)) < a2) = false := decide_eq_false cC; clear cC
     (first | rw [cX] | (simp only [i64_w, i32_w]; rw [cX]) | skip)
     have H' := mk_ H; clear H
     go_wp2
     go_meet
     case rel => exact ⟨_, (a1), (a2), (by first | rfl | (simp; done) | (simp [*]; done)), (by first | rfl | (simp; done) | (simp [*]; done)), H', ⟨by first | omega | exact Nat.le_refl _⟩, ⟨by (with_reducible repeat (first | apply Kd.R_alloc | apply Kd.R_drewN | apply Kd.R_drew)); exact gW.out⟩, ⟨kp_ HK⟩, ⟨bl_ HB⟩⟩
   case rest =>
    as_aux_lemma =>
    clear HC59; (try clear c5); (try clear cF); (try clear cG); (try clear c6); (try clear dD); (try clear c8); (try clear dO); (try clear c9); (try clear dP); (try clear bJ); (try clear dQ); (try clear bK); (try clear dR); (try clear aU); (try clear dE); (try clear bA); (try clear dS); (try clear bS); (try clear fL); (try clear bT); (try clear fM); (try clear bU); (try clear fN); (try clear bV); (try clear fO); (try clear aJ); (try clear aK); (try clear aL); (try clear aM); (try clear aV); (try clear dV); (try clear dW); (try clear bP); (try clear fP); (try clear cR); (try clear gA); (try clear cS); (try clear gB); (try clear cT); (try clear gC); (try clear cU); (try clear gD); (try clear bQ); (try clear fQ); (try clear cB); (try clear gE); (try clear dF); (try clear gR); (try clear dG); (try clear gS); (try clear dH); (try clear gT); (try clear dI); (try clear gU)
    (try clear bF); (try clear bG); (try clear bH); (try clear bI); (try clear cC); (try clear cX); (try clear dT); (try clear dU); (try clear bL); (try clear bM); (try clear aW); (try clear aX); (try clear aY); (try clear aZ); (try clear cJ); (try clear cK); (try clear cN); (try clear cO); (try clear bX); (try clear bY); (try clear bZ); (try clear cA); (try clear fA); (try clear fB); (try clear fE); (try clear fF); (try clear gF); (try clear gG); (try clear cP); (try clear cQ); (try clear aJ); (try clear aL); (try clear aN); (try clear aQ); (try clear cH); (try clear cL); (try clear bB); (try clear bD); (try clear dY); (try clear fC); (try clear bF); (try clear bH); (try clear aK); (try clear aM); (try clear aO); (try clear aR); (try clear cI); (try clear cM); (try clear bC); (try clear bE); (try clear dZ); (try clear fD); (try clear bG); (try clear bI); obtain ⟨kq, gX, gY, rfl, rfl, HA, HJ58, aA, HK, HB⟩ := hcut
    cases kq with
    | zero => exact absurd HA.out (by simp [heavy_Item_77.j4])
    | succ iK =>
     have H := HA.out; clear HA; simp only [heavy_Item_77.j4] at H; have H' := mk_ H; clear H
     go_wp2
     go_loopg [20, 21] iK (fun kq hO hP w' => ∃ (aC : Int) (aG : Int), hO = .int .i64 aC ∧ hP = .int .i64 aG ∧ Aside0 (heavy_Item_77.l4 kq l0 a1 a2 a3 (wrap64 ((IntKind.u64.wrap (wrap64 (a1 + a3))) / 2)) (wrap64 ((wrap64 ((IntKind.u64.wrap (wrap64 (a1 + a3))) / 2)) + a2)) aC aG (wrap64 ((wrap64 ((wrap64 ((IntKind.u64.wrap (wrap64 (a1 + a3))) / 2)) + a2)) - 1)) = some r) ∧ Aside0 (kq ≤ iK) ∧ Aside0 (Kd.R k68 68 w' w0.heap.size (fun k_ => (P0_ k_ ∨ w.heap.size ≤ k_)) u9000_ l0) ∧ Aside0 (Kept w w' (fun k_ => P0_ k_)) ∧ Aside0 (Below w0.heap.size w0 w'))
     case atStart => exact ⟨(gX), (gY), (by first | rfl | (simp; done) | (simp [*]; done)), (by first | rfl | (simp; done) | (simp [*]; done)), H', ⟨Nat.le_refl _⟩, ⟨by (with_reducible repeat (first | apply Kd.R_alloc | apply Kd.R_drewN | apply Kd.R_drew)); exact aA.out⟩, ⟨kp_ HK⟩, ⟨bl_ HB⟩⟩
     case round =>
      as_aux_lemma =>
      clear H'; (try clear c5); (try clear cF); (try clear cG); (try clear c6); (try clear dD); (try clear c8); (try clear dO); (try clear c9); (try clear dP); (try clear bJ); (try clear dQ); (try clear bK); (try clear dR); (try clear aU); (try clear dE); (try clear bA); (try clear dS); (try clear bS); (try clear fL); (try clear bT); (try clear fM); (try clear bU); (try clear fN); (try clear bV); (try clear fO); (try clear aJ); (try clear aK); (try clear aL); (try clear aM); (try clear aV); (try clear dV); (try clear dW); (try clear bP); (try clear fP); (try clear cR); (try clear gA); (try clear cS); (try clear gB); (try clear cT); (try clear gC); (try clear cU); (try clear gD); (try clear bQ); (try clear fQ); (try clear cB); (try clear gE); (try clear dF); (try clear gR); (try clear dG); (try clear gS); (try clear dH); (try clear gT); (try clear dI); (try clear gU)
      (try clear bF); (try clear bG); (try clear bH); (try clear bI); (try clear cC); (try clear cX); (try clear dT); (try clear dU); (try clear bL); (try clear bM); (try clear aW); (try clear aX); (try clear aY); (try clear aZ); (try clear cJ); (try clear cK); (try clear cN); (try clear cO); (try clear bX); (try clear bY); (try clear bZ); (try clear cA); (try clear fA); (try clear fB); (try clear fE); (try clear fF); (try clear gF); (try clear gG); (try clear cP); (try clear cQ); (try clear aJ); (try clear aL); (try clear aN); (try clear aQ); (try clear cH); (try clear cL); (try clear bB); (try clear bD); (try clear dY); (try clear fC); (try clear bF); (try clear bH); (try clear aK); (try clear aM); (try clear aO); (try clear aR); (try clear cI); (try clear cM); (try clear bC); (try clear bE); (try clear dZ); (try clear fD); (try clear bG); (try clear bI); obtain ⟨aC, aG, rfl, rfl, HA, HK2, aA, HK, HB⟩ := hrel
      cases gk with
      | zero => exact absurd HA.out (by simp [heavy_Item_77.l4])
      | succ k2 =>
       have H := HA.out; clear HA; simp only [heavy_Item_77.l4] at H
       by_cases dJ : aC < aG
       ·as_aux_lemma =>
        rw [if_pos dJ] at H; have hE : decide (aC < aG) = true := decide_eq_true dJ; clear dJ; obtain ⟨ji62, hji62⟩ : ∃ j_ : Int, (wrap64 ((wrap64 ((wrap64 ((wrap64 ((IntKind.u64.wrap (wrap64 (a1 + a3))) / 2)) + a2)) - 1)) - (wrap64 ((IntKind.u64.wrap (wrap64 (aC + aG))) / 2)))) = j_ := ⟨_, rfl⟩
        replace H : (if 0 ≤ (ji62) then (if (ji62) < (l0.length : Int) then (if 0 ≤ (wrap64 ((IntKind.u64.wrap (wrap64 (aC + aG))) / 2)) then (if (wrap64 ((IntKind.u64.wrap (wrap64 (aC + aG))) / 2)) < (l0.length : Int) then ((elastic_List_1.f k2 ((rd_T68 l0 (ji62)).f0) ((rd_T68 l0 (ji62)).f1) ((rd_T68 l0 (wrap64 ((IntKind.u64.wrap (wrap64 (aC + aG))) / 2))).f0) ((rd_T68 l0 (wrap64 ((IntKind.u64.wrap (wrap64 (aC + aG))) / 2))).f1)).bind fun cY => (if cY < 0 then (heavy_Item_77.l4 k2 l0 a1 a2 a3 (wrap64 ((IntKind.u64.wrap (wrap64 (a1 + a3))) / 2)) (wrap64 ((wrap64 ((IntKind.u64.wrap (wrap64 (a1 + a3))) / 2)) + a2)) aC (wrap64 ((IntKind.u64.wrap (wrap64 (aC + aG))) / 2)) (wrap64 ((wrap64 ((wrap64 ((IntKind.u64.wrap (wrap64 (a1 + a3))) / 2)) + a2)) - 1))) else (heavy_Item_77.l4 k2 l0 a1 a2 a3 (wrap64 ((IntKind.u64.wrap (wrap64 (a1 + a3))) / 2)) (wrap64 ((wrap64 ((IntKind.u64.wrap (wrap64 (a1 + a3))) / 2)) + a2)) (wrap64 ((wrap64 ((IntKind.u64.wrap (wrap64 (aC + aG))) / 2)) + 1)) aG (wrap64 ((wrap64 ((wrap64 ((IntKind.u64.wrap (wrap64 (a1 + a3))) / 2)) + a2)) - 1))))) else (none)) else (none)) else (none)) else (none)) = some r := by first | (rw [hji62] at H; exact H) | (simp only [hji62] at H ⊢; exact H)
        have hji62w : (IntKind.i64.wrap ((wrap64 ((wrap64 ((wrap64 ((IntKind.u64.wrap (wrap64 (a1 + a3))) / 2)) + a2)) - 1)) - (wrap64 ((IntKind.u64.wrap (wrap64 (aC + aG))) / 2)))) = ji62 := (i64_w _).trans hji62; (try simp only [hji62] at hji7); (try simp only [hji62] at hji7w); (try simp only [hji62] at hji21); (try simp only [hji62] at hji21w); (try simp only [hji62] at hji36); (try simp only [hji62] at hji36w); (try simp only [hji62] at hji48); (try simp only [hji62] at hji48w)
        by_cases fR : 0 ≤ (ji62)
        ·as_aux_lemma =>
         rw [if_pos fR] at H; have hQ : decide (0 ≤ (ji62)) = true := decide_eq_true fR; clear fR
         by_cases fS : (ji62) < (l0.length : Int)
         ·as_aux_lemma =>
          rw [if_pos fS] at H; have hR : decide ((ji62) < (l0.length : Int)) = true := decide_eq_true fS; clear fS; obtain ⟨ji65, hji65⟩ : ∃ j_ : Int, (wrap64 ((IntKind.u64.wrap (wrap64 (aC + aG))) / 2)) = j_ := ⟨_, rfl⟩
          replace H : (if 0 ≤ (ji65) then (if (ji65) < (l0.length : Int) then ((elastic_List_1.f k2 ((rd_T68 l0 (ji62)).f0) ((rd_T68 l0 (ji62)).f1) ((rd_T68 l0 (ji65)).f0) ((rd_T68 l0 (ji65)).f1)).bind fun cY => (if cY < 0 then (heavy_Item_77.l4 k2 l0 a1 a2 a3 (wrap64 ((IntKind.u64.wrap (wrap64 (a1 + a3))) / 2)) (wrap64 ((wrap64 ((IntKind.u64.wrap (wrap64 (a1 + a3))) / 2)) + a2)) aC ji65 (wrap64 ((wrap64 ((wrap64 ((IntKind.u64.wrap (wrap64 (a1 + a3))) / 2)) + a2)) - 1))) else (heavy_Item_77.l4 k2 l0 a1 a2 a3 (wrap64 ((IntKind.u64.wrap (wrap64 (a1 + a3))) / 2)) (wrap64 ((wrap64 ((IntKind.u64.wrap (wrap64 (a1 + a3))) / 2)) + a2)) (wrap64 ((ji65) + 1)) aG (wrap64 ((wrap64 ((wrap64 ((IntKind.u64.wrap (wrap64 (a1 + a3))) / 2)) + a2)) - 1))))) else (none)) else (none)) = some r := by first | (rw [hji65] at H; exact H) | (simp only [hji65] at H ⊢; exact H)
          have hji65w : (IntKind.i64.wrap ((IntKind.u64.wrap (wrap64 (aC + aG))) / 2)) = ji65 := (i64_w _).trans hji65; (try simp only [hji65] at hji7); (try simp only [hji65] at hji7w); (try simp only [hji65] at hji21); (try simp only [hji65] at hji21w); (try simp only [hji65] at hji36); (try simp only [hji65] at hji36w); (try simp only [hji65] at hji48); (try simp only [hji65] at hji48w); (try simp only [hji65] at hji62); (try simp only [hji65] at hji62w)
          by_cases fT : 0 ≤ (ji65)
          ·rw [if_pos fT] at H; have hS : decide (0 ≤ (ji65)) = true := decide_eq_true fT; clear fT
           by_cases fU : (ji65) < (l0.length : Int)
           ·rw [if_pos fU] at H; have hT : decide ((ji65) < (l0.length : Int)) = true := decide_eq_true fU; clear fU; replace H := Option.bind_eq_some_iff.mp H; obtain ⟨cY, iL, H⟩ := H; replace H : (if cY < 0 then (heavy_Item_77.l4 k2 l0 a1 a2 a3 (wrap64 ((IntKind.u64.wrap (wrap64 (a1 + a3))) / 2)) (wrap64 ((wrap64 ((IntKind.u64.wrap (wrap64 (a1 + a3))) / 2)) + a2)) aC ji65 (wrap64 ((wrap64 ((wrap64 ((IntKind.u64.wrap (wrap64 (a1 + a3))) / 2)) + a2)) - 1))) else (heavy_Item_77.l4 k2 l0 a1 a2 a3 (wrap64 ((IntKind.u64.wrap (wrap64 (a1 + a3))) / 2)) (wrap64 ((wrap64 ((IntKind.u64.wrap (wrap64 (a1 + a3))) / 2)) + a2)) (wrap64 ((ji65) + 1)) aG (wrap64 ((wrap64 ((wrap64 ((IntKind.u64.wrap (wrap64 (a1 + a3))) / 2)) + a2)) - 1)))) = some r := H; have iM := mk_ iL; clear iL
            by_cases dK : cY < 0
            ·rw [if_pos dK] at H; have hF : decide (cY < 0) = true := decide_eq_true dK; clear dK; have H' := mk_ H; clear H
             try go_wp2
             replace aA := mk_ (Kd.R_drew aA.out); replace HK := mk_ (Kept.drew HK.out); replace HB := mk_ (below_drew1 HB.out); obtain ⟨lN, lO, eo71⟩ := Kd.R_slice aA.out
             (first | subst eo71 | (injection eo71 with f1_ f2_ f3_; have f4_ := f1_.symm; have f5_ := f3_.symm; clear f1_ f2_ f3_; subst f4_; subst f5_))
             have cZ : 0 ≤ ((ji62) : Int) := od_; have dA : (ji62) < (l0.length : Int) := od_; obtain ⟨aT, e308, fG, fH⟩ := at_T68 (Kd.R_reads' aA.out).2.2 (ji62) cZ dA
             cases e308; replace cZ := eq_true cZ; replace dA := eq_true dA; have dB : 0 ≤ ((ji65) : Int) := od_; have dC : (ji65) < (l0.length : Int) := od_; obtain ⟨hU, e309, fI, fJ⟩ := at_T68 (Kd.R_reads' aA.out).2.2 (ji65) dB dC; obtain rfl : aT = hU := (by injection e309); replace dB := eq_true dB; replace dC := eq_true dC; refine start_ (n := 14) (S := fun w' => w'.cell? (aT.add (((ji62)).toNat * 2)) = some (.string ((rd_T68 l0 (ji62)).f0)) ∧ w'.cell? ⟨(aT.add (((ji62)).toNat * 2)).block, (aT.add (((ji62)).toNat * 2)).off + 1, none⟩ = some (.int .i64 ((rd_T68 l0 (ji62)).f1)) ∧ w'.cell? (aT.add (((ji65)).toNat * 2)) = some (.string ((rd_T68 l0 (ji65)).f0)) ∧ w'.cell? ⟨(aT.add (((ji65)).toNat * 2)).block, (aT.add (((ji65)).toNat * 2)).off + 1, none⟩ = some (.int .i64 ((rd_T68 l0 (ji65)).f1))) (ds := []) (mB 14 0) (by kernel_rfl) rfl rfl ⟨fG, fH, fI, fJ⟩ (fun hHeld => ?_); refine with_tabW heavy_Item_77.tab35 heavy_Item_77.bits35 (fun HT_ HW_ => ?_); generalize wr.drew = lP at aA HK HB fG fH fI fJ hHeld ⊢; refine pq_ 0 158 14 1 HT_ ?_
             refine pq_ 1 159 14 3 HT_ ?_
             refine pq_ 2 160 14 7 HT_ ?_
             refine pq_ 3 161 14 15 HT_ ?_
             refine pq_ 4 162 14 31 HT_ ?_
             refine pq_ 5 163 14 63 HT_ ?_
             refine pq_ 7 165 14 191 HT_ ?_
             refine pq_ 8 166 14 447 HT_ ?_
             refine pq_ 9 167 14 959 HT_ ?_
             refine tq_ 6 164 14 1023 HT_ HW_ hHeld ?_
             refine tq_ 10 168 14 2047 HT_ HW_ hHeld ?_
             refine one_ (i := 11) (N := some 169) (mB 14 4095) rfl rfl (one_of HT_.out (by kernel_rfl)) (by decide) (fun K hK => ?_); refine Funs.goesv_ (c := .tmp 158) Try.func35 (by kernel_rfl) rfl #[.agg #[.string ((rd_T68 l0 (ji62)).f0), .int .i64 ((rd_T68 l0 (ji62)).f1)], .agg #[.string ((rd_T68 l0 (ji65)).f0), .int .i64 ((rd_T68 l0 (ji65)).f1)]] (by rfl) rfl rfl (by rfl) (by (try simp only [List.map_toArray, List.map_cons, List.map_nil]); first | done | (simp only [hji62, hji65]; rfl) | rfl | (simp only [List.length_drop, List.length_take]; rfl)) ?_; with_reducible refine (elastic_List_1.calls k2 ((rd_T68 l0 (ji62)).f0) ((rd_T68 l0 (ji62)).f1) ((rd_T68 l0 (ji65)).f0) ((rd_T68 l0 (ji65)).f1) cY _ iM.out).mono ?_
             rintro e lQ ⟨rfl, hb⟩; have HS0_ := (hb.cell (World.block_lt_of_cell? _ _ (hHeld.1))).trans (hHeld.1); have HS1_ := (hb.cell (World.block_lt_of_cell? _ _ (hHeld.2.1))).trans (hHeld.2.1); have HS2_ := (hb.cell (World.block_lt_of_cell? _ _ (hHeld.2.2.1))).trans (hHeld.2.2.1); have HS3_ := (hb.cell (World.block_lt_of_cell? _ _ (hHeld.2.2.2))).trans (hHeld.2.2.2); refine ⟨_, rfl, ?_⟩; replace aA := mk_ (Kd.R_below (rk_ aA) hb); replace HK := mk_ (Kept.below (S := (fun k_ => P0_ k_)) (kp_ HK) hb); replace HB := bs_ HB hb; (try clear hb); refine hK.out _ _ ⟨HS0_, HS1_, HS2_, HS3_⟩ (fun hHeld => ?_); clear hK K; refine norm_ (a' := ?_) ?_ ?_; rotate_left
             ·show Act.put _ (some 169) _ = _
              simp only [Act.put, sa_, sb_, sc_, i64_w, i32_w]; rfl
             refine pq_ 12 170 14 8191 HT_ ?_
             refine pq_ 13 171 14 16383 HT_ ?_
             refine done_ (done_of HT_.out (by kernel_rfl)) ?_
             try go_wp2
             go_roundg k2
             case measure => have := HJ58.out; have := HK2.out; omega
             case rel => exact ⟨(aC), (ji65), (by first | rfl | (simp; done) | (simp [*]; done)), (by first | rfl | (simp; done) | (simp only [← hji65] <;> (first | rfl | simp)) | (simp [*]; done)), H', ⟨by have := HJ58.out; have := HK2.out; omega⟩, ⟨by (with_reducible repeat (first | apply Kd.R_alloc | apply Kd.R_drewN | apply Kd.R_drew)); exact aA.out⟩, ⟨kp_ HK⟩, ⟨bl_ HB⟩⟩
            ·rw [if_neg dK] at H; have hF : decide (cY < 0) = false := decide_eq_false dK; clear dK; have H' := mk_ H; clear H
             try go_wp2
             replace aA := mk_ (Kd.R_drew aA.out); replace HK := mk_ (Kept.drew HK.out); replace HB := mk_ (below_drew1 HB.out); obtain ⟨lR, lS, eo74⟩ := Kd.R_slice aA.out
             (first | subst eo74 | (injection eo74 with f1_ f2_ f3_; have f4_ := f1_.symm; have f5_ := f3_.symm; clear f1_ f2_ f3_; subst f4_; subst f5_))
             have cZ : 0 ≤ ((ji62) : Int) := od_; have dA : (ji62) < (l0.length : Int) := od_; obtain ⟨aT, e308, fG, fH⟩ := at_T68 (Kd.R_reads' aA.out).2.2 (ji62) cZ dA
             cases e308; replace cZ := eq_true cZ; replace dA := eq_true dA; have dB : 0 ≤ ((ji65) : Int) := od_; have dC : (ji65) < (l0.length : Int) := od_; obtain ⟨hU, e309, fI, fJ⟩ := at_T68 (Kd.R_reads' aA.out).2.2 (ji65) dB dC; obtain rfl : aT = hU := (by injection e309); replace dB := eq_true dB; replace dC := eq_true dC; refine start_ (n := 14) (S := fun w' => w'.cell? (aT.add (((ji62)).toNat * 2)) = some (.string ((rd_T68 l0 (ji62)).f0)) ∧ w'.cell? ⟨(aT.add (((ji62)).toNat * 2)).block, (aT.add (((ji62)).toNat * 2)).off + 1, none⟩ = some (.int .i64 ((rd_T68 l0 (ji62)).f1)) ∧ w'.cell? (aT.add (((ji65)).toNat * 2)) = some (.string ((rd_T68 l0 (ji65)).f0)) ∧ w'.cell? ⟨(aT.add (((ji65)).toNat * 2)).block, (aT.add (((ji65)).toNat * 2)).off + 1, none⟩ = some (.int .i64 ((rd_T68 l0 (ji65)).f1))) (ds := []) (mB 14 0) (by kernel_rfl) rfl rfl ⟨fG, fH, fI, fJ⟩ (fun hHeld => ?_); refine with_tabW heavy_Item_77.tab35 heavy_Item_77.bits35 (fun HT_ HW_ => ?_); generalize wr.drew = lT at aA HK HB fG fH fI fJ hHeld ⊢; refine pq_ 0 158 14 1 HT_ ?_
             refine pq_ 1 159 14 3 HT_ ?_
             refine pq_ 2 160 14 7 HT_ ?_
             refine pq_ 3 161 14 15 HT_ ?_
             refine pq_ 4 162 14 31 HT_ ?_
             refine pq_ 5 163 14 63 HT_ ?_
             refine pq_ 7 165 14 191 HT_ ?_
             refine pq_ 8 166 14 447 HT_ ?_
             refine pq_ 9 167 14 959 HT_ ?_
             refine tq_ 6 164 14 1023 HT_ HW_ hHeld ?_
             refine tq_ 10 168 14 2047 HT_ HW_ hHeld ?_
             refine one_ (i := 11) (N := some 169) (mB 14 4095) rfl rfl (one_of HT_.out (by kernel_rfl)) (by decide) (fun K hK => ?_); refine Funs.goesv_ (c := .tmp 158) Try.func35 (by kernel_rfl) rfl #[.agg #[.string ((rd_T68 l0 (ji62)).f0), .int .i64 ((rd_T68 l0 (ji62)).f1)], .agg #[.string ((rd_T68 l0 (ji65)).f0), .int .i64 ((rd_T68 l0 (ji65)).f1)]] (by rfl) rfl rfl (by rfl) (by (try simp only [List.map_toArray, List.map_cons, List.map_nil]); first | done | (simp only [hji62, hji65]; rfl) | rfl | (simp only [List.length_drop, List.length_take]; rfl)) ?_; with_reducible refine (elastic_List_1.calls k2 ((rd_T68 l0 (ji62)).f0) ((rd_T68 l0 (ji62)).f1) ((rd_T68 l0 (ji65)).f0) ((rd_T68 l0 (ji65)).f1) cY _ iM.out).mono ?_
             rintro e lU ⟨rfl, hb⟩; have HS0_ := (hb.cell (World.block_lt_of_cell? _ _ (hHeld.1))).trans (hHeld.1); have HS1_ := (hb.cell (World.block_lt_of_cell? _ _ (hHeld.2.1))).trans (hHeld.2.1); have HS2_ := (hb.cell (World.block_lt_of_cell? _ _ (hHeld.2.2.1))).trans (hHeld.2.2.1); have HS3_ := (hb.cell (World.block_lt_of_cell? _ _ (hHeld.2.2.2))).trans (hHeld.2.2.2); refine ⟨_, rfl, ?_⟩; replace aA := mk_ (Kd.R_below (rk_ aA) hb); replace HK := mk_ (Kept.below (S := (fun k_ => P0_ k_)) (kp_ HK) hb); replace HB := bs_ HB hb; (try clear hb); refine hK.out _ _ ⟨HS0_, HS1_, HS2_, HS3_⟩ (fun hHeld => ?_); clear hK K; refine norm_ (a' := ?_) ?_ ?_; rotate_left
             ·show Act.put _ (some 169) _ = _
              simp only [Act.put, sa_, sb_, sc_, i64_w, i32_w]; rfl
             refine pq_ 12 170 14 8191 HT_ ?_
             refine pq_ 13 171 14 16383 HT_ ?_
             refine done_ (done_of HT_.out (by kernel_rfl)) ?_
             try go_wp2
             go_roundg k2
             case measure => have := HJ58.out; have := HK2.out; omega
             case rel => exact ⟨(wrap64 ((ji65) + 1)), (aG), (by first | rfl | (simp; done) | (simp only [← hji65] <;> (first | rfl | simp)) | (simp [*]; done)), (by first | rfl | (simp; done) | (simp [*]; done)), H', ⟨by have := HJ58.out; have := HK2.out; omega⟩, ⟨by (with_reducible repeat (first | apply Kd.R_alloc | apply Kd.R_drewN | apply Kd.R_drew)); exact aA.out⟩, ⟨kp_ HK⟩, ⟨bl_ HB⟩⟩
           ·rw [if_neg fU] at H; exact absurd H (by simp)
          ·rw [if_neg fT] at H; exact absurd H (by simp)
         ·rw [if_neg fS] at H; exact absurd H (by simp)
        ·rw [if_neg fR] at H; exact absurd H (by simp)
       ·as_aux_lemma =>
        rw [if_neg dJ] at H; have hE : decide (aC < aG) = false := decide_eq_false dJ; clear dJ; have HC76 := mk_ H; clear H
        go_upto_region 39 with (fail)
        go_cut [185] (fun jF wc => ∃ (kq : Nat) (hG : Bool), jF = .bool hG ∧ Aside0 (heavy_Item_77.j6 kq l0 a1 a2 a3 (wrap64 ((IntKind.u64.wrap (wrap64 (a1 + a3))) / 2)) aC (wrap64 ((wrap64 ((wrap64 ((IntKind.u64.wrap (wrap64 (a1 + a3))) / 2)) + a2)) - aC)) hG = some r) ∧ Aside0 (kq ≤ k2) ∧ Aside0 (Kd.R k68 68 wc w0.heap.size (fun k_ => (P0_ k_ ∨ w.heap.size ≤ k_)) u9000_ l0) ∧ Aside0 (Kept w wc (fun k_ => P0_ k_)) ∧ Aside0 (Below w0.heap.size w0 wc))
        case first =>
         have H := HC76.out; clear HC76
         by_cases dL : aC < a2
         ·rw [if_pos dL] at H; have fK : decide (aC < a2) = true := decide_eq_true dL; clear dL
          (first | rw [fK] | (simp only [i64_w, i32_w]; rw [fK]) | skip)
          have H' := mk_ H; clear H
          go_wp2
          go_meet
          case rel => exact ⟨_, (decide (a2 < (wrap64 ((wrap64 ((wrap64 ((IntKind.u64.wrap (wrap64 (a1 + a3))) / 2)) + a2)) - aC)))), (by first | rfl | (simp; done) | (simp [*]; done)), H', ⟨by have := HJ58.out; have := HK2.out; first | omega | exact Nat.le_refl _⟩, ⟨by (with_reducible repeat (first | apply Kd.R_alloc | apply Kd.R_drewN | apply Kd.R_drew)); exact aA.out⟩, ⟨kp_ HK⟩, ⟨bl_ HB⟩⟩
         ·rw [if_neg dL] at H; have fK : decide (aC < a2) = false := decide_eq_false dL; clear dL
          (first | rw [fK] | (simp only [i64_w, i32_w]; rw [fK]) | skip)
          have H' := mk_ H; clear H
          go_wp2
          go_meet
          case rel => exact ⟨_, (false), (by first | rfl | (simp; done) | (simp [*]; done)), H', ⟨by have := HJ58.out; have := HK2.out; first | omega | exact Nat.le_refl _⟩, ⟨by (with_reducible repeat (first | apply Kd.R_alloc | apply Kd.R_drewN | apply Kd.R_drew)); exact aA.out⟩, ⟨kp_ HK⟩, ⟨bl_ HB⟩⟩
        case rest =>
         as_aux_lemma =>
         clear HC76; (try clear c5); (try clear cF); (try clear cG); (try clear c6); (try clear dD); (try clear c8); (try clear dO); (try clear c9); (try clear dP); (try clear bJ); (try clear dQ); (try clear bK); (try clear dR); (try clear aU); (try clear dE); (try clear bA); (try clear dS); (try clear bS); (try clear fL); (try clear bT); (try clear fM); (try clear bU); (try clear fN); (try clear bV); (try clear fO); (try clear aJ); (try clear aK); (try clear aL); (try clear aM); (try clear aV); (try clear dV); (try clear dW); (try clear bP); (try clear fP); (try clear cR); (try clear gA); (try clear cS); (try clear gB); (try clear cT); (try clear gC); (try clear cU); (try clear gD); (try clear bQ); (try clear fQ); (try clear cB); (try clear gE); (try clear dF); (try clear gR); (try clear dG); (try clear gS); (try clear dH); (try clear gT); (try clear dI); (try clear gU)
         (try clear bF); (try clear bG); (try clear bH); (try clear bI); (try clear cC); (try clear cX); (try clear dJ); (try clear hE); (try clear fR); (try clear hQ); (try clear fS); (try clear hR); (try clear fT); (try clear hS); (try clear fU); (try clear hT); (try clear dK); (try clear hF); (try clear dL); (try clear fK); (try clear dT); (try clear dU); (try clear bL); (try clear bM); (try clear aW); (try clear aX); (try clear aY); (try clear aZ); (try clear cJ); (try clear cK); (try clear cN); (try clear cO); (try clear bX); (try clear bY); (try clear bZ); (try clear cA); (try clear fA); (try clear fB); (try clear fE); (try clear fF); (try clear fG); (try clear fH); (try clear fI); (try clear fJ); (try clear gF); (try clear gG); (try clear cP); (try clear cQ); (try clear aJ); (try clear aL); (try clear aN); (try clear aQ); (try clear cH); (try clear cL); (try clear bB); (try clear bD); (try clear dY); (try clear fC); (try clear cZ); (try clear dB); (try clear bF); (try clear bH); (try clear aK)
         (try clear aM); (try clear aO); (try clear aR); (try clear cI); (try clear cM); (try clear bC); (try clear bE); (try clear dZ); (try clear fD); (try clear dA); (try clear dC); (try clear bG); (try clear bI); obtain ⟨kq, hG, rfl, HA, HJ75, aA, HK, HB⟩ := hcut
         cases kq with
         | zero => exact absurd HA.out (by simp [heavy_Item_77.j6])
         | succ gH =>
          have H := HA.out; clear HA; simp only [heavy_Item_77.j6] at H; have HC78 := mk_ H; clear H
          go_upto_if 185 with (fail)
          go_cut [] (fun wc => ∃ (kq : Nat) (aF : List (S68)), Aside0 (heavy_Item_77.j7 kq aF a1 a3 (wrap64 ((IntKind.u64.wrap (wrap64 (a1 + a3))) / 2)) aC (wrap64 ((wrap64 ((wrap64 ((IntKind.u64.wrap (wrap64 (a1 + a3))) / 2)) + a2)) - aC)) = some r) ∧ Aside0 (kq ≤ gH) ∧ Aside0 (Kd.R k68 68 wc w0.heap.size (fun k_ => (P0_ k_ ∨ w.heap.size ≤ k_)) u9000_ aF) ∧ Aside0 (Kept w wc (fun k_ => P0_ k_)) ∧ Aside0 (Below w0.heap.size w0 wc))
          case first =>
           have H := HC78.out; clear HC78
           by_cases gI : hG = true
           ·subst gI
            have H1 : ((heavy_Item_85.f gH l0 aC a2 (wrap64 ((wrap64 ((wrap64 ((IntKind.u64.wrap (wrap64 (a1 + a3))) / 2)) + a2)) - aC))).bind fun gV => (heavy_Item_77.j7 gH gV a1 a3 (wrap64 ((IntKind.u64.wrap (wrap64 (a1 + a3))) / 2)) aC (wrap64 ((wrap64 ((wrap64 ((IntKind.u64.wrap (wrap64 (a1 + a3))) / 2)) + a2)) - aC)))) = some r := by rw [if_pos rfl] at H; exact H
            clear H; have H := H1; clear H1; replace H := Option.bind_eq_some_iff.mp H; obtain ⟨gV, iN, H⟩ := H; replace H : (heavy_Item_77.j7 gH gV a1 a3 (wrap64 ((IntKind.u64.wrap (wrap64 (a1 + a3))) / 2)) aC (wrap64 ((wrap64 ((wrap64 ((IntKind.u64.wrap (wrap64 (a1 + a3))) / 2)) + a2)) - aC))) = some r := H; have jG := mk_ iN; clear iN; have H' := mk_ H; clear H; obtain ⟨hV, hW, eo81⟩ := Kd.R_slice aA.out; subst eo81
            go_wp2_with (first | ((with_reducible refine gate_callee (f := 85) rfl ?_); refine gs_ (some 191) Try.func85 #[.slice hV l0.length hW, .int .i64 aC, .int .i64 a2, .int .i64 (wrap64 ((wrap64 ((wrap64 ((IntKind.u64.wrap (wrap64 (a1 + a3))) / 2)) + a2)) - aC)), .func (.func 35) #[] #[]] ?_; (with_reducible refine (heavy_Item_85.calls gH (fun k_ => some k_ = (.slice hV l0.length hW : Value).ownBlock) (.slice hV l0.length hW) l0 aC a2 (wrap64 ((wrap64 ((wrap64 ((IntKind.u64.wrap (wrap64 (a1 + a3))) / 2)) + a2)) - aC)) gV w0 _ ?side1 ?side2 jG.out).mono ?_); (case side1 => exact bl_ HB); (case side2 => exact Kd.R_tight rfl aA.out); rintro e lV ⟨rfl, hy0, hb, hkp⟩; refine ⟨_, rfl, ?_⟩; replace HK := mk_ (Kept.then_ (S := (fun k_ => P0_ k_)) (kp_ HK) hkp (fun k_ cD => (fun e_ => (aA.out.1 k_ e_.symm)) cD)); replace aA := mk_ (Kd.R_reok rfl hy0 (fun k_ e_ => aA.out.1 k_ e_)); replace HB := mk_ (hb); (try clear hb); (try clear hkp); (try clear hy0)))
            go_meet
            case rel => exact ⟨_, (gV), H', ⟨by have := HJ58.out; have := HK2.out; have := HJ75.out; first | omega | exact Nat.le_refl _⟩, ⟨by (with_reducible repeat (first | apply Kd.R_alloc | apply Kd.R_drewN | apply Kd.R_drew)); exact aA.out⟩, ⟨kp_ HK⟩, ⟨bl_ HB⟩⟩
           ·replace gI := Bool.eq_false_iff.mpr gI; subst gI
            have H1 : (heavy_Item_77.j7 gH l0 a1 a3 (wrap64 ((IntKind.u64.wrap (wrap64 (a1 + a3))) / 2)) aC (wrap64 ((wrap64 ((wrap64 ((IntKind.u64.wrap (wrap64 (a1 + a3))) / 2)) + a2)) - aC))) = some r := by rw [if_neg (show ¬ (false = true) by decide)] at H; exact H
            clear H; have H := H1; clear H1; have H' := mk_ H; clear H
            go_wp2
            go_meet
            case rel => exact ⟨_, (l0), H', ⟨by have := HJ58.out; have := HK2.out; have := HJ75.out; first | omega | exact Nat.le_refl _⟩, ⟨by (with_reducible repeat (first | apply Kd.R_alloc | apply Kd.R_drewN | apply Kd.R_drew)); exact aA.out⟩, ⟨kp_ HK⟩, ⟨bl_ HB⟩⟩
          case rest =>
           as_aux_lemma =>
           clear HC78; (try clear c5); (try clear cF); (try clear cG); (try clear c6); (try clear dD); (try clear c8); (try clear dO); (try clear c9); (try clear dP); (try clear bJ); (try clear dQ); (try clear bK); (try clear dR); (try clear aU); (try clear dE); (try clear bA); (try clear dS); (try clear bS); (try clear fL); (try clear bT); (try clear fM); (try clear bU); (try clear fN); (try clear bV); (try clear fO); (try clear aJ); (try clear aK); (try clear aL); (try clear aM); (try clear aV); (try clear dV); (try clear dW); (try clear bP); (try clear fP); (try clear cR); (try clear gA); (try clear cS); (try clear gB); (try clear cT); (try clear gC); (try clear cU); (try clear gD); (try clear bQ); (try clear fQ); (try clear cB); (try clear gE); (try clear dF); (try clear gR); (try clear dG); (try clear gS); (try clear dH); (try clear gT); (try clear dI); (try clear gU)
           (try clear bF); (try clear bG); (try clear bH); (try clear bI); (try clear cC); (try clear cX); (try clear dJ); (try clear hE); (try clear fR); (try clear hQ); (try clear fS); (try clear hR); (try clear fT); (try clear hS); (try clear fU); (try clear hT); (try clear dK); (try clear hF); (try clear dL); (try clear fK); (try clear gI); (try clear dT); (try clear dU); (try clear bL); (try clear bM); (try clear aW); (try clear aX); (try clear aY); (try clear aZ); (try clear cJ); (try clear cK); (try clear cN); (try clear cO); (try clear bX); (try clear bY); (try clear bZ); (try clear cA); (try clear fA); (try clear fB); (try clear fE); (try clear fF); (try clear fG); (try clear fH); (try clear fI); (try clear fJ); (try clear gF); (try clear gG); (try clear cP); (try clear cQ); (try clear aJ); (try clear aL); (try clear aN); (try clear aQ); (try clear cH); (try clear cL); (try clear bB); (try clear bD); (try clear dY); (try clear fC); (try clear cZ); (try clear dB); (try clear bF); (try clear bH)
           (try clear aK); (try clear aM); (try clear aO); (try clear aR); (try clear cI); (try clear cM); (try clear bC); (try clear bE); (try clear dZ); (try clear fD); (try clear dA); (try clear dC); (try clear bG); (try clear bI); obtain ⟨kq, aF, HA, HJ77, aA, HK, HB⟩ := hcut
           cases kq with
           | zero => exact absurd HA.out (by simp [heavy_Item_77.j7])
           | succ jH =>
            have H := HA.out; clear HA; simp only [heavy_Item_77.j7] at H; have HC83 := mk_ H; clear H
            go_upto_region 41 with (fail)
            go_cut [199] (fun jI wc => ∃ (kq : Nat) (hI : Bool), jI = .bool hI ∧ Aside0 (heavy_Item_77.j8 kq aF a1 a3 (wrap64 ((IntKind.u64.wrap (wrap64 (a1 + a3))) / 2)) aC (wrap64 ((wrap64 ((wrap64 ((IntKind.u64.wrap (wrap64 (a1 + a3))) / 2)) + a2)) - aC)) hI = some r) ∧ Aside0 (kq ≤ jH) ∧ Aside0 (Kd.R k68 68 wc w0.heap.size (fun k_ => (P0_ k_ ∨ w.heap.size ≤ k_)) u9000_ aF) ∧ Aside0 (Kept w wc (fun k_ => P0_ k_)) ∧ Aside0 (Below w0.heap.size w0 wc))
            case first =>
             have H := HC83.out; clear HC83
             by_cases fV : a1 < aC
             ·rw [if_pos fV] at H; have gJ : decide (a1 < aC) = true := decide_eq_true fV; clear fV
              (first | rw [gJ] | (simp only [i64_w, i32_w]; rw [gJ]) | skip)
              have H' := mk_ H; clear H
              go_wp2
              go_meet
              case rel => exact ⟨_, (decide (aC < (wrap64 ((IntKind.u64.wrap (wrap64 (a1 + a3))) / 2)))), (by first | rfl | (simp; done) | (simp [*]; done)), H', ⟨by have := HJ58.out; have := HK2.out; have := HJ75.out; have := HJ77.out; first | omega | exact Nat.le_refl _⟩, ⟨by (with_reducible repeat (first | apply Kd.R_alloc | apply Kd.R_drewN | apply Kd.R_drew)); exact aA.out⟩, ⟨kp_ HK⟩, ⟨bl_ HB⟩⟩
             ·rw [if_neg fV] at H; have gJ : decide (a1 < aC) = false := decide_eq_false fV; clear fV
              (first | rw [gJ] | (simp only [i64_w, i32_w]; rw [gJ]) | skip)
              have H' := mk_ H; clear H
              go_wp2
              go_meet
              case rel => exact ⟨_, (false), (by first | rfl | (simp; done) | (simp [*]; done)), H', ⟨by have := HJ58.out; have := HK2.out; have := HJ75.out; have := HJ77.out; first | omega | exact Nat.le_refl _⟩, ⟨by (with_reducible repeat (first | apply Kd.R_alloc | apply Kd.R_drewN | apply Kd.R_drew)); exact aA.out⟩, ⟨kp_ HK⟩, ⟨bl_ HB⟩⟩
            case rest =>
             clear HC83; (try clear c5); (try clear cF); (try clear cG); (try clear c6); (try clear dD); (try clear c8); (try clear dO); (try clear c9); (try clear dP); (try clear bJ); (try clear dQ); (try clear bK); (try clear dR); (try clear aU); (try clear dE); (try clear bA); (try clear dS); (try clear bS); (try clear fL); (try clear bT); (try clear fM); (try clear bU); (try clear fN); (try clear bV); (try clear fO); (try clear aJ); (try clear aK); (try clear aL); (try clear aM); (try clear aV); (try clear dV); (try clear dW); (try clear bP); (try clear fP); (try clear cR); (try clear gA); (try clear cS); (try clear gB); (try clear cT); (try clear gC); (try clear cU); (try clear gD); (try clear bQ); (try clear fQ); (try clear cB); (try clear gE); (try clear dF); (try clear gR); (try clear dG); (try clear gS); (try clear dH); (try clear gT); (try clear dI); (try clear gU)
             (try clear bF); (try clear bG); (try clear bH); (try clear bI); (try clear cC); (try clear cX); (try clear dJ); (try clear hE); (try clear fR); (try clear hQ); (try clear fS); (try clear hR); (try clear fT); (try clear hS); (try clear fU); (try clear hT); (try clear dK); (try clear hF); (try clear dL); (try clear fK); (try clear gI); (try clear fV); (try clear gJ); (try clear dT); (try clear dU); (try clear bL); (try clear bM); (try clear aW); (try clear aX); (try clear aY); (try clear aZ); (try clear cJ); (try clear cK); (try clear cN); (try clear cO); (try clear bX); (try clear bY); (try clear bZ); (try clear cA); (try clear fA); (try clear fB); (try clear fE); (try clear fF); (try clear fG); (try clear fH); (try clear fI); (try clear fJ); (try clear gF); (try clear gG); (try clear cP); (try clear cQ); (try clear aJ); (try clear aL); (try clear aN); (try clear aQ); (try clear cH); (try clear cL); (try clear bB); (try clear bD); (try clear dY); (try clear fC); (try clear cZ); (try clear dB); (try clear bF); (try clear bH)
             (try clear aK); (try clear aM); (try clear aO); (try clear aR); (try clear cI); (try clear cM); (try clear bC); (try clear bE); (try clear dZ); (try clear fD); (try clear dA); (try clear dC); (try clear bG); (try clear bI); obtain ⟨kq, hI, rfl, HA, HJ82, aA, HK, HB⟩ := hcut
             cases kq with
             | zero => exact absurd HA.out (by simp [heavy_Item_77.j8])
             | succ dM =>
              have H := HA.out; clear HA; simp only [heavy_Item_77.j8] at H
              by_cases hJ : hI = true
              ·subst hJ
               have H1 : ((heavy_Item_77.f dM aF a1 aC (wrap64 ((IntKind.u64.wrap (wrap64 (a1 + a3))) / 2))).bind fun cE => (if (wrap64 ((IntKind.u64.wrap (wrap64 (a1 + a3))) / 2)) < (wrap64 ((wrap64 ((wrap64 ((IntKind.u64.wrap (wrap64 (a1 + a3))) / 2)) + a2)) - aC)) then (if (wrap64 ((wrap64 ((wrap64 ((IntKind.u64.wrap (wrap64 (a1 + a3))) / 2)) + a2)) - aC)) < a3 then ((heavy_Item_77.f dM cE (wrap64 ((IntKind.u64.wrap (wrap64 (a1 + a3))) / 2)) (wrap64 ((wrap64 ((wrap64 ((IntKind.u64.wrap (wrap64 (a1 + a3))) / 2)) + a2)) - aC)) a3).bind fun gK => (some gK)) else (some cE)) else (some cE))) = some r := by rw [if_pos rfl] at H; exact H
               clear H; have H := H1; clear H1; replace H := Option.bind_eq_some_iff.mp H; obtain ⟨cE, iO, H⟩ := H; replace H : (if (wrap64 ((IntKind.u64.wrap (wrap64 (a1 + a3))) / 2)) < (wrap64 ((wrap64 ((wrap64 ((IntKind.u64.wrap (wrap64 (a1 + a3))) / 2)) + a2)) - aC)) then (if (wrap64 ((wrap64 ((wrap64 ((IntKind.u64.wrap (wrap64 (a1 + a3))) / 2)) + a2)) - aC)) < a3 then ((heavy_Item_77.f dM cE (wrap64 ((IntKind.u64.wrap (wrap64 (a1 + a3))) / 2)) (wrap64 ((wrap64 ((wrap64 ((IntKind.u64.wrap (wrap64 (a1 + a3))) / 2)) + a2)) - aC)) a3).bind fun gK => (some gK)) else (some cE)) else (some cE)) = some r := H; have hX := mk_ iO; clear iO
               by_cases gL : (wrap64 ((IntKind.u64.wrap (wrap64 (a1 + a3))) / 2)) < (wrap64 ((wrap64 ((wrap64 ((IntKind.u64.wrap (wrap64 (a1 + a3))) / 2)) + a2)) - aC))
               ·rw [if_pos gL] at H; have jJ : decide ((wrap64 ((IntKind.u64.wrap (wrap64 (a1 + a3))) / 2)) < (wrap64 ((wrap64 ((wrap64 ((IntKind.u64.wrap (wrap64 (a1 + a3))) / 2)) + a2)) - aC))) = true := decide_eq_true gL; clear gL
                by_cases gM : (wrap64 ((wrap64 ((wrap64 ((IntKind.u64.wrap (wrap64 (a1 + a3))) / 2)) + a2)) - aC)) < a3
                ·rw [if_pos gM] at H; have jK : decide ((wrap64 ((wrap64 ((wrap64 ((IntKind.u64.wrap (wrap64 (a1 + a3))) / 2)) + a2)) - aC)) < a3) = true := decide_eq_true gM; clear gM; replace H := Option.bind_eq_some_iff.mp H; obtain ⟨gK, iP, H⟩ := H; replace H : (some gK) = some r := H; have jL := mk_ iP; clear iP; obtain rfl := Option.some.inj H; obtain ⟨gN, gO, eo90⟩ := Kd.R_slice aA.out; subst eo90
                 go_wp2_with (first | ((with_reducible refine gate_callee (f := 77) rfl ?_); refine gs_ (some 205) Try.func77 #[.slice gN aF.length gO, .int .i64 a1, .int .i64 aC, .int .i64 (wrap64 ((IntKind.u64.wrap (wrap64 (a1 + a3))) / 2)), .func (.func 35) #[] #[]] ?_; (with_reducible refine (ih dM (by have := HJ58.out; have := HK2.out; have := HJ75.out; have := HJ77.out; have := HJ82.out; omega) (fun k_ => some k_ = (.slice gN aF.length gO : Value).ownBlock) (.slice gN aF.length gO) aF a1 aC (wrap64 ((IntKind.u64.wrap (wrap64 (a1 + a3))) / 2)) cE w0 _ ?side1 ?side2 hX.out).mono ?_); (case side1 => exact bl_ HB); (case side2 => exact Kd.R_tight rfl aA.out); rintro e lW ⟨rfl, hy0, hb, hkp⟩; refine ⟨_, rfl, ?_⟩; replace HK := mk_ (Kept.then_ (S := (fun k_ => P0_ k_)) (kp_ HK) hkp (fun k_ cD => (fun e_ => (aA.out.1 k_ e_.symm)) cD)); replace aA := mk_ (Kd.R_reok rfl hy0 (fun k_ e_ => aA.out.1 k_ e_)); replace HB := mk_ (hb); (try clear hb); (try clear hkp); (try clear hy0)) | ((with_reducible refine gate_callee (f := 77) rfl ?_); refine gs_ (some 219) Try.func77 #[.slice gN aF.length gO, .int .i64 (wrap64 ((IntKind.u64.wrap (wrap64 (a1 + a3))) / 2)), .int .i64 (wrap64 ((wrap64 ((wrap64 ((IntKind.u64.wrap (wrap64 (a1 + a3))) / 2)) + a2)) - aC)), .int .i64 a3, .func (.func 35) #[] #[]] ?_; (with_reducible refine (ih dM (by have := HJ58.out; have := HK2.out; have := HJ75.out; have := HJ77.out; have := HJ82.out; omega) (fun k_ => some k_ = (.slice gN aF.length gO : Value).ownBlock) (.slice gN aF.length gO) cE (wrap64 ((IntKind.u64.wrap (wrap64 (a1 + a3))) / 2)) (wrap64 ((wrap64 ((wrap64 ((IntKind.u64.wrap (wrap64 (a1 + a3))) / 2)) + a2)) - aC)) a3 gK w0 _ ?side1 ?side2 jL.out).mono ?_); (case side1 => exact bl_ HB); (case side2 => exact Kd.R_tight rfl aA.out); rintro e lX ⟨rfl, hy0, hb, hkp⟩; refine ⟨_, rfl, ?_⟩; replace HK := mk_ (Kept.then_ (S := (fun k_ => P0_ k_)) (kp_ HK) hkp (fun k_ cD => (fun e_ => (aA.out.1 k_ e_.symm)) cD)); replace aA := mk_ (Kd.R_reok rfl hy0 (fun k_ e_ => aA.out.1 k_ e_)); replace HB := mk_ (hb); (try clear hb); (try clear hkp); (try clear hy0)))
                 first | go_end0 | ((try simp only [Exit.inBlock, Exit.then]); refine bodyPost_ret (results_none rfl _ _ _) rfl ?_)
                 exact ⟨by first | rfl | (simp [*] <;> rfl), by (with_reducible repeat (first | apply Kd.R_alloc | apply Kd.R_drewN | apply Kd.R_drew)); exact aA.out, bl_ HB, by repeat (first | (with_reducible first | exact HK.out | apply Kept.alloc | apply Kept.drewN | apply Kept.drew) | exact HK.out)⟩
                ·rw [if_neg gM] at H; have jK : decide ((wrap64 ((wrap64 ((wrap64 ((IntKind.u64.wrap (wrap64 (a1 + a3))) / 2)) + a2)) - aC)) < a3) = false := decide_eq_false gM; clear gM; obtain rfl := Option.some.inj H; obtain ⟨hY, hZ, eo93⟩ := Kd.R_slice aA.out; subst eo93
                 go_wp2_with (first | ((with_reducible refine gate_callee (f := 77) rfl ?_); refine gs_ (some 205) Try.func77 #[.slice hY aF.length hZ, .int .i64 a1, .int .i64 aC, .int .i64 (wrap64 ((IntKind.u64.wrap (wrap64 (a1 + a3))) / 2)), .func (.func 35) #[] #[]] ?_; (with_reducible refine (ih dM (by have := HJ58.out; have := HK2.out; have := HJ75.out; have := HJ77.out; have := HJ82.out; omega) (fun k_ => some k_ = (.slice hY aF.length hZ : Value).ownBlock) (.slice hY aF.length hZ) aF a1 aC (wrap64 ((IntKind.u64.wrap (wrap64 (a1 + a3))) / 2)) cE w0 _ ?side1 ?side2 hX.out).mono ?_); (case side1 => exact bl_ HB); (case side2 => exact Kd.R_tight rfl aA.out); rintro e lY ⟨rfl, hy0, hb, hkp⟩; refine ⟨_, rfl, ?_⟩; replace HK := mk_ (Kept.then_ (S := (fun k_ => P0_ k_)) (kp_ HK) hkp (fun k_ cD => (fun e_ => (aA.out.1 k_ e_.symm)) cD)); replace aA := mk_ (Kd.R_reok rfl hy0 (fun k_ e_ => aA.out.1 k_ e_)); replace HB := mk_ (hb); (try clear hb); (try clear hkp); (try clear hy0)))
                 first | go_end0 | ((try simp only [Exit.inBlock, Exit.then]); refine bodyPost_ret (results_none rfl _ _ _) rfl ?_)
                 exact ⟨by first | rfl | (simp [*] <;> rfl), by (with_reducible repeat (first | apply Kd.R_alloc | apply Kd.R_drewN | apply Kd.R_drew)); exact aA.out, bl_ HB, by repeat (first | (with_reducible first | exact HK.out | apply Kept.alloc | apply Kept.drewN | apply Kept.drew) | exact HK.out)⟩
               ·rw [if_neg gL] at H; have jJ : decide ((wrap64 ((IntKind.u64.wrap (wrap64 (a1 + a3))) / 2)) < (wrap64 ((wrap64 ((wrap64 ((IntKind.u64.wrap (wrap64 (a1 + a3))) / 2)) + a2)) - aC))) = false := decide_eq_false gL; clear gL; obtain rfl := Option.some.inj H; obtain ⟨iA, iB, eo95⟩ := Kd.R_slice aA.out; subst eo95
                go_wp2_with (first | ((with_reducible refine gate_callee (f := 77) rfl ?_); refine gs_ (some 205) Try.func77 #[.slice iA aF.length iB, .int .i64 a1, .int .i64 aC, .int .i64 (wrap64 ((IntKind.u64.wrap (wrap64 (a1 + a3))) / 2)), .func (.func 35) #[] #[]] ?_; (with_reducible refine (ih dM (by have := HJ58.out; have := HK2.out; have := HJ75.out; have := HJ77.out; have := HJ82.out; omega) (fun k_ => some k_ = (.slice iA aF.length iB : Value).ownBlock) (.slice iA aF.length iB) aF a1 aC (wrap64 ((IntKind.u64.wrap (wrap64 (a1 + a3))) / 2)) cE w0 _ ?side1 ?side2 hX.out).mono ?_); (case side1 => exact bl_ HB); (case side2 => exact Kd.R_tight rfl aA.out); rintro e lZ ⟨rfl, hy0, hb, hkp⟩; refine ⟨_, rfl, ?_⟩; replace HK := mk_ (Kept.then_ (S := (fun k_ => P0_ k_)) (kp_ HK) hkp (fun k_ cD => (fun e_ => (aA.out.1 k_ e_.symm)) cD)); replace aA := mk_ (Kd.R_reok rfl hy0 (fun k_ e_ => aA.out.1 k_ e_)); replace HB := mk_ (hb); (try clear hb); (try clear hkp); (try clear hy0)))
                first | go_end0 | ((try simp only [Exit.inBlock, Exit.then]); refine bodyPost_ret (results_none rfl _ _ _) rfl ?_)
                exact ⟨by first | rfl | (simp [*] <;> rfl), by (with_reducible repeat (first | apply Kd.R_alloc | apply Kd.R_drewN | apply Kd.R_drew)); exact aA.out, bl_ HB, by repeat (first | (with_reducible first | exact HK.out | apply Kept.alloc | apply Kept.drewN | apply Kept.drew) | exact HK.out)⟩
              ·replace hJ := Bool.eq_false_iff.mpr hJ; subst hJ
               have H1 : (if (wrap64 ((IntKind.u64.wrap (wrap64 (a1 + a3))) / 2)) < (wrap64 ((wrap64 ((wrap64 ((IntKind.u64.wrap (wrap64 (a1 + a3))) / 2)) + a2)) - aC)) then (if (wrap64 ((wrap64 ((wrap64 ((IntKind.u64.wrap (wrap64 (a1 + a3))) / 2)) + a2)) - aC)) < a3 then ((heavy_Item_77.f dM aF (wrap64 ((IntKind.u64.wrap (wrap64 (a1 + a3))) / 2)) (wrap64 ((wrap64 ((wrap64 ((IntKind.u64.wrap (wrap64 (a1 + a3))) / 2)) + a2)) - aC)) a3).bind fun hL => (some hL)) else (some aF)) else (some aF)) = some r := by rw [if_neg (show ¬ (false = true) by decide)] at H; exact H
               clear H; have H := H1; clear H1
               by_cases gP : (wrap64 ((IntKind.u64.wrap (wrap64 (a1 + a3))) / 2)) < (wrap64 ((wrap64 ((wrap64 ((IntKind.u64.wrap (wrap64 (a1 + a3))) / 2)) + a2)) - aC))
               ·rw [if_pos gP] at H; have jM : decide ((wrap64 ((IntKind.u64.wrap (wrap64 (a1 + a3))) / 2)) < (wrap64 ((wrap64 ((wrap64 ((IntKind.u64.wrap (wrap64 (a1 + a3))) / 2)) + a2)) - aC))) = true := decide_eq_true gP; clear gP
                by_cases gQ : (wrap64 ((wrap64 ((wrap64 ((IntKind.u64.wrap (wrap64 (a1 + a3))) / 2)) + a2)) - aC)) < a3
                ·rw [if_pos gQ] at H; have jN : decide ((wrap64 ((wrap64 ((wrap64 ((IntKind.u64.wrap (wrap64 (a1 + a3))) / 2)) + a2)) - aC)) < a3) = true := decide_eq_true gQ; clear gQ; replace H := Option.bind_eq_some_iff.mp H; obtain ⟨hL, iQ, H⟩ := H; replace H : (some hL) = some r := H; have jO := mk_ iQ; clear iQ; obtain rfl := Option.some.inj H; obtain ⟨iC, iD, eo100⟩ := Kd.R_slice aA.out; subst eo100
                 go_wp2_with (first | ((with_reducible refine gate_callee (f := 77) rfl ?_); refine gs_ (some 219) Try.func77 #[.slice iC aF.length iD, .int .i64 (wrap64 ((IntKind.u64.wrap (wrap64 (a1 + a3))) / 2)), .int .i64 (wrap64 ((wrap64 ((wrap64 ((IntKind.u64.wrap (wrap64 (a1 + a3))) / 2)) + a2)) - aC)), .int .i64 a3, .func (.func 35) #[] #[]] ?_; (with_reducible refine (ih dM (by have := HJ58.out; have := HK2.out; have := HJ75.out; have := HJ77.out; have := HJ82.out; omega) (fun k_ => some k_ = (.slice iC aF.length iD : Value).ownBlock) (.slice iC aF.length iD) aF (wrap64 ((IntKind.u64.wrap (wrap64 (a1 + a3))) / 2)) (wrap64 ((wrap64 ((wrap64 ((IntKind.u64.wrap (wrap64 (a1 + a3))) / 2)) + a2)) - aC)) a3 hL w0 _ ?side1 ?side2 jO.out).mono ?_); (case side1 => exact bl_ HB); (case side2 => exact Kd.R_tight rfl aA.out); rintro e mA ⟨rfl, hy0, hb, hkp⟩; refine ⟨_, rfl, ?_⟩; replace HK := mk_ (Kept.then_ (S := (fun k_ => P0_ k_)) (kp_ HK) hkp (fun k_ cD => (fun e_ => (aA.out.1 k_ e_.symm)) cD)); replace aA := mk_ (Kd.R_reok rfl hy0 (fun k_ e_ => aA.out.1 k_ e_)); replace HB := mk_ (hb); (try clear hb); (try clear hkp); (try clear hy0)))
                 first | go_end0 | ((try simp only [Exit.inBlock, Exit.then]); refine bodyPost_ret (results_none rfl _ _ _) rfl ?_)
                 exact ⟨by first | rfl | (simp [*] <;> rfl), by (with_reducible repeat (first | apply Kd.R_alloc | apply Kd.R_drewN | apply Kd.R_drew)); exact aA.out, bl_ HB, by repeat (first | (with_reducible first | exact HK.out | apply Kept.alloc | apply Kept.drewN | apply Kept.drew) | exact HK.out)⟩
                ·rw [if_neg gQ] at H; have jN : decide ((wrap64 ((wrap64 ((wrap64 ((IntKind.u64.wrap (wrap64 (a1 + a3))) / 2)) + a2)) - aC)) < a3) = false := decide_eq_false gQ; clear gQ; obtain rfl := Option.some.inj H
                 go_wp2
                 first | go_end0 | ((try simp only [Exit.inBlock, Exit.then]); refine bodyPost_ret (results_none rfl _ _ _) rfl ?_)
                 exact ⟨by first | rfl | (simp [*] <;> rfl), by (with_reducible repeat (first | apply Kd.R_alloc | apply Kd.R_drewN | apply Kd.R_drew)); exact aA.out, bl_ HB, by repeat (first | (with_reducible first | exact HK.out | apply Kept.alloc | apply Kept.drewN | apply Kept.drew) | exact HK.out)⟩
               ·rw [if_neg gP] at H; have jM : decide ((wrap64 ((IntKind.u64.wrap (wrap64 (a1 + a3))) / 2)) < (wrap64 ((wrap64 ((wrap64 ((IntKind.u64.wrap (wrap64 (a1 + a3))) / 2)) + a2)) - aC))) = false := decide_eq_false gP; clear gP; obtain rfl := Option.some.inj H
                go_wp2
                first | go_end0 | ((try simp only [Exit.inBlock, Exit.then]); refine bodyPost_ret (results_none rfl _ _ _) rfl ?_)
                exact ⟨by first | rfl | (simp [*] <;> rfl), by (with_reducible repeat (first | apply Kd.R_alloc | apply Kd.R_drewN | apply Kd.R_drew)); exact aA.out, bl_ HB, by repeat (first | (with_reducible first | exact HK.out | apply Kept.alloc | apply Kept.drewN | apply Kept.drew) | exact HK.out)⟩

end Go.Proofs.Ytljmjjeghebdpaa.PElasticSeen
