/- The functions that a law uses, each as a plain function, with the proof that a call of the Go function comes to its answer. Condition of each: the arguments read as the data that it names, and the plain function has an answer. Written by a program of this session (standin.py). -/
import Derived.Test.YtoplnkbhgpamaaaPSolveTurnsx0
import Derived.Test.YtoplnkbhgpamaaaPSolveTurnsx1
import Derived.Test.YtoplnkbhgpamaaaPSolveTurnsx2
import Derived.Lib.SliceRun
import Derived.StillTailTactics
import Derived.Test.YtoplnkbhgpamaaaGrid
namespace Go.Proofs.Ytoplnkbhgpamaaa.PSolveTurns
open Go.RowKit Go.Proofs.YtoplnkbhgpamaaaW.PrintWords Go.Proofs.YtoplnkbhgpamaaaW.PrintLast Go.Proofs.YtoplnkbhgpamaaaW.PrintMore
attribute [local go_sem] max2_int min2_int max_two min_two max_three min_three max_four min_four   -- for this text's walks alone
set_option linter.unusedVariables false
set_option linter.unusedSimpArgs false

/-! ### solve_clear: function 21 -/
mutual
def solve_clear.l0 : Nat → Int → List (List Int) → List (List Int) → Int → Int → Option ((List (List Int)) × List Int)
  | 0, _, _, _, _, _ => none
  | k + 1, x1, x6, x22, x23, x24 => if x24 < x23 then (if 0 ≤ x24 then (if x24 < (x22.length : Int) then (if 0 ≤ ((rd_L1 x22 x24).length : Int) then (if (((rd_L1 x22 x24).length : Int) : Int).toNat ≤ 35184372088832 then (solve_clear.l1 k x1 x6 (List.replicate (((rd_L1 x22 x24).length : Int) : Int).toNat 0) x22 x23 x24 (rd_L1 x22 x24) ((rd_L1 x22 x24).length : Int) 0) else (none)) else (none)) else (none)) else (none)) else (solve_clear.l2 k x1 x6 ([] : List Int) 0)
def solve_clear.l1 : Nat → Int → List (List Int) → List Int → List (List Int) → Int → Int → List Int → Int → Int → Option ((List (List Int)) × List Int)
  | 0, _, _, _, _, _, _, _, _, _ => none
  | k + 1, x1, x6, x9, x22, x23, x24, x31, x32, x33 => if x33 < x32 then (if 0 ≤ x33 then (if x33 < (x31.length : Int) then ((field_Of.f (rd x31 x33)).bind fun t124 => (if x33 < (x9.length : Int) then (solve_clear.l1 k x1 x6 (x9.set (x33 : Int).toNat t124) x22 x23 x24 x31 x32 (wrap64 (x33 + 1))) else (none))) else (none)) else (none)) else (if x6.length < 5864062014805 then (solve_clear.l0 k x1 (x6 ++ [x9]) x22 x23 (wrap64 (x24 + 1))) else (none))
def solve_clear.l2 : Nat → Int → List (List Int) → List Int → Int → Option ((List (List Int)) × List Int)
  | 0, _, _, _, _ => none
  | k + 1, x1, x6, x12, x13 => if x13 < x1 then (solve_clear.j3 k x1 x6 x12 x13 (decide ((x12.length : Int) < (x6.length : Int)))) else (solve_clear.j3 k x1 x6 x12 x13 false)
def solve_clear.j3 : Nat → Int → List (List Int) → List Int → Int → Bool → Option ((List (List Int)) × List Int)
  | 0, _, _, _, _, _ => none
  | k + 1, x1, x6, x12, x13, x58 => if x58 = true then (solve_clear.l3 k x1 x6 x12 x13 (x12.length : Int) (x12.length : Int)) else (some (x6, x12))
def solve_clear.j5 : Nat → Int → List (List Int) → List Int → Int → Int → Int → Option ((List (List Int)) × List Int)
  | 0, _, _, _, _, _, _ => none
  | k + 1, x1, x6, x12, x13, x14, x15 => if x15 = (x6.length : Int) then (solve_clear.l2 k x1 x6 x12 (wrap64 (x13 + 1))) else (if 0 ≤ x15 then (if x15 < (x6.length : Int) then (if 0 ≤ x14 then (if x14 < (x6.length : Int) then (if 0 ≤ x13 then (if x13 < ((rd_L1 ((x6.set x14.toNat (rd_L1 x6 x15)).set x15.toNat (rd_L1 x6 x14)) x14).length : Int) then ((field_Inv.f k (rd (rd_L1 ((x6.set x14.toNat (rd_L1 x6 x15)).set x15.toNat (rd_L1 x6 x14)) x14) x13)).bind fun bt132 => (solve_clear.l4 k x1 ((x6.set x14.toNat (rd_L1 x6 x15)).set x15.toNat (rd_L1 x6 x14)) x12 x13 x14 bt132.1 ((rd_L1 ((x6.set x14.toNat (rd_L1 x6 x15)).set x15.toNat (rd_L1 x6 x14)) x14).length : Int) 0)) else (none)) else (none)) else (none)) else (none)) else (none)) else (none))
def solve_clear.l4 : Nat → Int → List (List Int) → List Int → Int → Int → Int → Int → Int → Option ((List (List Int)) × List Int)
  | 0, _, _, _, _, _, _, _, _ => none
  | k + 1, x1, x6, x12, x13, x14, x16, x113, x114 => if x114 < x113 then (if 0 ≤ x14 then (if x14 < (x6.length : Int) then (if 0 ≤ x114 then (if x114 < ((rd_L1 x6 x14).length : Int) then ((field_Mul.f (rd (rd_L1 x6 x14) x114) x16).bind fun t141 => (solve_clear.l4 k x1 (x6.set x14.toNat ((rd_L1 x6 x14).set x114.toNat t141)) x12 x13 x14 x16 x113 (wrap64 (x114 + 1)))) else (none)) else (none)) else (none)) else (none)) else (solve_clear.l5 k x1 x6 x12 x13 x14 (x6.length : Int) 0)
def solve_clear.l5 : Nat → Int → List (List Int) → List Int → Int → Int → Int → Int → Option ((List (List Int)) × List Int)
  | 0, _, _, _, _, _, _, _ => none
  | k + 1, x1, x6, x12, x13, x14, x134, x135 => if x135 < x134 then (if x135 = x14 then (solve_clear.j8 k x1 x6 x12 x13 x14 x135 x134 x135 true) else (if 0 ≤ x135 then (if x135 < (x6.length : Int) then (if 0 ≤ x13 then (if x13 < ((rd_L1 x6 x135).length : Int) then (solve_clear.j8 k x1 x6 x12 x13 x14 x135 x134 x135 ((rd (rd_L1 x6 x135) x13) == 0)) else (none)) else (none)) else (none)) else (none))) else (if x12.length < 17592186044416 then (solve_clear.l2 k x1 x6 (x12 ++ [x13]) (wrap64 (x13 + 1))) else (none))
def solve_clear.j8 : Nat → Int → List (List Int) → List Int → Int → Int → Int → Int → Int → Bool → Option ((List (List Int)) × List Int)
  | 0, _, _, _, _, _, _, _, _, _ => none
  | k + 1, x1, x6, x12, x13, x14, x19, x134, x135, x150 => if x150 = true then (solve_clear.l5 k x1 x6 x12 x13 x14 x134 (wrap64 (x135 + 1))) else (if 0 ≤ x19 then (if x19 < (x6.length : Int) then (if 0 ≤ x13 then (if x13 < ((rd_L1 x6 x19).length : Int) then (solve_clear.l6 k x1 x6 x12 x13 x14 x19 (rd (rd_L1 x6 x19) x13) x134 x135 ((rd_L1 x6 x19).length : Int) 0) else (none)) else (none)) else (none)) else (none))
def solve_clear.l6 : Nat → Int → List (List Int) → List Int → Int → Int → Int → Int → Int → Int → Int → Int → Option ((List (List Int)) × List Int)
  | 0, _, _, _, _, _, _, _, _, _, _, _ => none
  | k + 1, x1, x6, x12, x13, x14, x19, x20, x134, x135, x162, x163 => if x163 < x162 then (if 0 ≤ x19 then (if x19 < (x6.length : Int) then (if 0 ≤ x163 then (if x163 < ((rd_L1 x6 x19).length : Int) then (if 0 ≤ x14 then (if x14 < (x6.length : Int) then (if x163 < ((rd_L1 x6 x14).length : Int) then ((field_Mul.f x20 (rd (rd_L1 x6 x14) x163)).bind fun t155 => ((field_Sub.f (rd (rd_L1 x6 x19) x163) t155).bind fun t156 => (solve_clear.l6 k x1 (x6.set x19.toNat ((rd_L1 x6 x19).set x163.toNat t156)) x12 x13 x14 x19 x20 x134 x135 x162 (wrap64 (x163 + 1))))) else (none)) else (none)) else (none)) else (none)) else (none)) else (none)) else (none)) else (solve_clear.l5 k x1 x6 x12 x13 x14 x134 (wrap64 (x135 + 1)))
def solve_clear.l3 : Nat → Int → List (List Int) → List Int → Int → Int → Int → Option ((List (List Int)) × List Int)
  | 0, _, _, _, _, _, _ => none
  | k + 1, x1, x6, x12, x13, x14, x15 => if x15 < (x6.length : Int) then (if 0 ≤ x15 then (if 0 ≤ x13 then (if x13 < ((rd_L1 x6 x15).length : Int) then (if (rd (rd_L1 x6 x15) x13) = 0 then (solve_clear.l3 k x1 x6 x12 x13 x14 (wrap64 (x15 + 1))) else (solve_clear.j5 k x1 x6 x12 x13 x14 x15)) else (none)) else (none)) else (none)) else (solve_clear.j5 k x1 x6 x12 x13 x14 x15)
end
def solve_clear.f (k : Nat) (l0 : List (List Int)) (a1 : Int) : Option ((List (List Int)) × List Int) := solve_clear.l0 k a1 ([] : List (List Int)) l0 (l0.length : Int) 0
theorem solve_clear.mono_l : ∀ k, (∀ y0 y1 y2 y3 y4, LeO (solve_clear.l0 k y0 y1 y2 y3 y4) (solve_clear.l0 (k + 1) y0 y1 y2 y3 y4)) ∧ (∀ y0 y1 y2 y3 y4 y5 y6 y7 y8, LeO (solve_clear.l1 k y0 y1 y2 y3 y4 y5 y6 y7 y8) (solve_clear.l1 (k + 1) y0 y1 y2 y3 y4 y5 y6 y7 y8)) ∧ (∀ y0 y1 y2 y3, LeO (solve_clear.l2 k y0 y1 y2 y3) (solve_clear.l2 (k + 1) y0 y1 y2 y3)) ∧ (∀ y0 y1 y2 y3 y4, LeO (solve_clear.j3 k y0 y1 y2 y3 y4) (solve_clear.j3 (k + 1) y0 y1 y2 y3 y4)) ∧ (∀ y0 y1 y2 y3 y4 y5, LeO (solve_clear.j5 k y0 y1 y2 y3 y4 y5) (solve_clear.j5 (k + 1) y0 y1 y2 y3 y4 y5)) ∧ (∀ y0 y1 y2 y3 y4 y5 y6 y7, LeO (solve_clear.l4 k y0 y1 y2 y3 y4 y5 y6 y7) (solve_clear.l4 (k + 1) y0 y1 y2 y3 y4 y5 y6 y7)) ∧ (∀ y0 y1 y2 y3 y4 y5 y6, LeO (solve_clear.l5 k y0 y1 y2 y3 y4 y5 y6) (solve_clear.l5 (k + 1) y0 y1 y2 y3 y4 y5 y6)) ∧ (∀ y0 y1 y2 y3 y4 y5 y6 y7 y8, LeO (solve_clear.j8 k y0 y1 y2 y3 y4 y5 y6 y7 y8) (solve_clear.j8 (k + 1) y0 y1 y2 y3 y4 y5 y6 y7 y8)) ∧ (∀ y0 y1 y2 y3 y4 y5 y6 y7 y8 y9 y10, LeO (solve_clear.l6 k y0 y1 y2 y3 y4 y5 y6 y7 y8 y9 y10) (solve_clear.l6 (k + 1) y0 y1 y2 y3 y4 y5 y6 y7 y8 y9 y10)) ∧ (∀ y0 y1 y2 y3 y4 y5, LeO (solve_clear.l3 k y0 y1 y2 y3 y4 y5) (solve_clear.l3 (k + 1) y0 y1 y2 y3 y4 y5))
  | 0 => ⟨fun _ _ _ _ _ r h => by simp [solve_clear.l0] at h, fun _ _ _ _ _ _ _ _ _ r h => by simp [solve_clear.l1] at h, fun _ _ _ _ r h => by simp [solve_clear.l2] at h, fun _ _ _ _ _ r h => by simp [solve_clear.j3] at h, fun _ _ _ _ _ _ r h => by simp [solve_clear.j5] at h, fun _ _ _ _ _ _ _ _ r h => by simp [solve_clear.l4] at h, fun _ _ _ _ _ _ _ r h => by simp [solve_clear.l5] at h, fun _ _ _ _ _ _ _ _ _ r h => by simp [solve_clear.j8] at h, fun _ _ _ _ _ _ _ _ _ _ _ r h => by simp [solve_clear.l6] at h, fun _ _ _ _ _ _ r h => by simp [solve_clear.l3] at h⟩
  | k + 1 => by
    obtain ⟨ih0, ih1, ih2, ih3, ih4, ih5, ih6, ih7, ih8, ih9⟩ := solve_clear.mono_l k
    refine ⟨?_, ?_, ?_, ?_, ?_, ?_, ?_, ?_, ?_, ?_⟩
    · intro y0 y1 y2 y3 y4
      unfold solve_clear.l0
      repeat' first
      | (with_reducible exact ih0 _ _ _ _ _)
      | (with_reducible exact ih1 _ _ _ _ _ _ _ _ _)
      | (with_reducible exact ih2 _ _ _ _)
      | (with_reducible exact ih3 _ _ _ _ _)
      | (with_reducible exact ih4 _ _ _ _ _ _)
      | (with_reducible exact ih5 _ _ _ _ _ _ _ _)
      | (with_reducible exact ih6 _ _ _ _ _ _ _)
      | (with_reducible exact ih7 _ _ _ _ _ _ _ _ _)
      | (with_reducible exact ih8 _ _ _ _ _ _ _ _ _ _ _)
      | (with_reducible exact ih9 _ _ _ _ _ _)
      | (with_reducible exact field_Inv.mono _ _)
      | (with_reducible exact LeO.refl _)
      | (with_reducible exact LeO.none _)
      | (with_reducible refine LeO.ite ?_ ?_)
      | (with_reducible refine LeO.bind ?_ (fun _ => ?_))
      | exact ih0 _ _ _ _ _
      | exact ih1 _ _ _ _ _ _ _ _ _
      | exact ih2 _ _ _ _
      | exact ih3 _ _ _ _ _
      | exact ih4 _ _ _ _ _ _
      | exact ih5 _ _ _ _ _ _ _ _
      | exact ih6 _ _ _ _ _ _ _
      | exact ih7 _ _ _ _ _ _ _ _ _
      | exact ih8 _ _ _ _ _ _ _ _ _ _ _
      | exact ih9 _ _ _ _ _ _
      | exact field_Inv.mono _ _
      | exact LeO.none _
      | refine LeO.ite ?_ ?_
      | refine LeO.bind ?_ (fun _ => ?_)
    · intro y0 y1 y2 y3 y4 y5 y6 y7 y8
      unfold solve_clear.l1
      repeat' first
      | (with_reducible exact ih0 _ _ _ _ _)
      | (with_reducible exact ih1 _ _ _ _ _ _ _ _ _)
      | (with_reducible exact ih2 _ _ _ _)
      | (with_reducible exact ih3 _ _ _ _ _)
      | (with_reducible exact ih4 _ _ _ _ _ _)
      | (with_reducible exact ih5 _ _ _ _ _ _ _ _)
      | (with_reducible exact ih6 _ _ _ _ _ _ _)
      | (with_reducible exact ih7 _ _ _ _ _ _ _ _ _)
      | (with_reducible exact ih8 _ _ _ _ _ _ _ _ _ _ _)
      | (with_reducible exact ih9 _ _ _ _ _ _)
      | (with_reducible exact field_Inv.mono _ _)
      | (with_reducible exact LeO.refl _)
      | (with_reducible exact LeO.none _)
      | (with_reducible refine LeO.ite ?_ ?_)
      | (with_reducible refine LeO.bind ?_ (fun _ => ?_))
      | exact ih0 _ _ _ _ _
      | exact ih1 _ _ _ _ _ _ _ _ _
      | exact ih2 _ _ _ _
      | exact ih3 _ _ _ _ _
      | exact ih4 _ _ _ _ _ _
      | exact ih5 _ _ _ _ _ _ _ _
      | exact ih6 _ _ _ _ _ _ _
      | exact ih7 _ _ _ _ _ _ _ _ _
      | exact ih8 _ _ _ _ _ _ _ _ _ _ _
      | exact ih9 _ _ _ _ _ _
      | exact field_Inv.mono _ _
      | exact LeO.none _
      | refine LeO.ite ?_ ?_
      | refine LeO.bind ?_ (fun _ => ?_)
    · intro y0 y1 y2 y3
      unfold solve_clear.l2
      repeat' first
      | (with_reducible exact ih0 _ _ _ _ _)
      | (with_reducible exact ih1 _ _ _ _ _ _ _ _ _)
      | (with_reducible exact ih2 _ _ _ _)
      | (with_reducible exact ih3 _ _ _ _ _)
      | (with_reducible exact ih4 _ _ _ _ _ _)
      | (with_reducible exact ih5 _ _ _ _ _ _ _ _)
      | (with_reducible exact ih6 _ _ _ _ _ _ _)
      | (with_reducible exact ih7 _ _ _ _ _ _ _ _ _)
      | (with_reducible exact ih8 _ _ _ _ _ _ _ _ _ _ _)
      | (with_reducible exact ih9 _ _ _ _ _ _)
      | (with_reducible exact field_Inv.mono _ _)
      | (with_reducible exact LeO.refl _)
      | (with_reducible exact LeO.none _)
      | (with_reducible refine LeO.ite ?_ ?_)
      | (with_reducible refine LeO.bind ?_ (fun _ => ?_))
      | exact ih0 _ _ _ _ _
      | exact ih1 _ _ _ _ _ _ _ _ _
      | exact ih2 _ _ _ _
      | exact ih3 _ _ _ _ _
      | exact ih4 _ _ _ _ _ _
      | exact ih5 _ _ _ _ _ _ _ _
      | exact ih6 _ _ _ _ _ _ _
      | exact ih7 _ _ _ _ _ _ _ _ _
      | exact ih8 _ _ _ _ _ _ _ _ _ _ _
      | exact ih9 _ _ _ _ _ _
      | exact field_Inv.mono _ _
      | exact LeO.none _
      | refine LeO.ite ?_ ?_
      | refine LeO.bind ?_ (fun _ => ?_)
    · intro y0 y1 y2 y3 y4
      unfold solve_clear.j3
      repeat' first
      | (with_reducible exact ih0 _ _ _ _ _)
      | (with_reducible exact ih1 _ _ _ _ _ _ _ _ _)
      | (with_reducible exact ih2 _ _ _ _)
      | (with_reducible exact ih3 _ _ _ _ _)
      | (with_reducible exact ih4 _ _ _ _ _ _)
      | (with_reducible exact ih5 _ _ _ _ _ _ _ _)
      | (with_reducible exact ih6 _ _ _ _ _ _ _)
      | (with_reducible exact ih7 _ _ _ _ _ _ _ _ _)
      | (with_reducible exact ih8 _ _ _ _ _ _ _ _ _ _ _)
      | (with_reducible exact ih9 _ _ _ _ _ _)
      | (with_reducible exact field_Inv.mono _ _)
      | (with_reducible exact LeO.refl _)
      | (with_reducible exact LeO.none _)
      | (with_reducible refine LeO.ite ?_ ?_)
      | (with_reducible refine LeO.bind ?_ (fun _ => ?_))
      | exact ih0 _ _ _ _ _
      | exact ih1 _ _ _ _ _ _ _ _ _
      | exact ih2 _ _ _ _
      | exact ih3 _ _ _ _ _
      | exact ih4 _ _ _ _ _ _
      | exact ih5 _ _ _ _ _ _ _ _
      | exact ih6 _ _ _ _ _ _ _
      | exact ih7 _ _ _ _ _ _ _ _ _
      | exact ih8 _ _ _ _ _ _ _ _ _ _ _
      | exact ih9 _ _ _ _ _ _
      | exact field_Inv.mono _ _
      | exact LeO.none _
      | refine LeO.ite ?_ ?_
      | refine LeO.bind ?_ (fun _ => ?_)
    · intro y0 y1 y2 y3 y4 y5
      unfold solve_clear.j5
      repeat' first
      | (with_reducible exact ih0 _ _ _ _ _)
      | (with_reducible exact ih1 _ _ _ _ _ _ _ _ _)
      | (with_reducible exact ih2 _ _ _ _)
      | (with_reducible exact ih3 _ _ _ _ _)
      | (with_reducible exact ih4 _ _ _ _ _ _)
      | (with_reducible exact ih5 _ _ _ _ _ _ _ _)
      | (with_reducible exact ih6 _ _ _ _ _ _ _)
      | (with_reducible exact ih7 _ _ _ _ _ _ _ _ _)
      | (with_reducible exact ih8 _ _ _ _ _ _ _ _ _ _ _)
      | (with_reducible exact ih9 _ _ _ _ _ _)
      | (with_reducible exact field_Inv.mono _ _)
      | (with_reducible exact LeO.refl _)
      | (with_reducible exact LeO.none _)
      | (with_reducible refine LeO.ite ?_ ?_)
      | (with_reducible refine LeO.bind ?_ (fun _ => ?_))
      | exact ih0 _ _ _ _ _
      | exact ih1 _ _ _ _ _ _ _ _ _
      | exact ih2 _ _ _ _
      | exact ih3 _ _ _ _ _
      | exact ih4 _ _ _ _ _ _
      | exact ih5 _ _ _ _ _ _ _ _
      | exact ih6 _ _ _ _ _ _ _
      | exact ih7 _ _ _ _ _ _ _ _ _
      | exact ih8 _ _ _ _ _ _ _ _ _ _ _
      | exact ih9 _ _ _ _ _ _
      | exact field_Inv.mono _ _
      | exact LeO.none _
      | refine LeO.ite ?_ ?_
      | refine LeO.bind ?_ (fun _ => ?_)
    · intro y0 y1 y2 y3 y4 y5 y6 y7
      unfold solve_clear.l4
      repeat' first
      | (with_reducible exact ih0 _ _ _ _ _)
      | (with_reducible exact ih1 _ _ _ _ _ _ _ _ _)
      | (with_reducible exact ih2 _ _ _ _)
      | (with_reducible exact ih3 _ _ _ _ _)
      | (with_reducible exact ih4 _ _ _ _ _ _)
      | (with_reducible exact ih5 _ _ _ _ _ _ _ _)
      | (with_reducible exact ih6 _ _ _ _ _ _ _)
      | (with_reducible exact ih7 _ _ _ _ _ _ _ _ _)
      | (with_reducible exact ih8 _ _ _ _ _ _ _ _ _ _ _)
      | (with_reducible exact ih9 _ _ _ _ _ _)
      | (with_reducible exact field_Inv.mono _ _)
      | (with_reducible exact LeO.refl _)
      | (with_reducible exact LeO.none _)
      | (with_reducible refine LeO.ite ?_ ?_)
      | (with_reducible refine LeO.bind ?_ (fun _ => ?_))
      | exact ih0 _ _ _ _ _
      | exact ih1 _ _ _ _ _ _ _ _ _
      | exact ih2 _ _ _ _
      | exact ih3 _ _ _ _ _
      | exact ih4 _ _ _ _ _ _
      | exact ih5 _ _ _ _ _ _ _ _
      | exact ih6 _ _ _ _ _ _ _
      | exact ih7 _ _ _ _ _ _ _ _ _
      | exact ih8 _ _ _ _ _ _ _ _ _ _ _
      | exact ih9 _ _ _ _ _ _
      | exact field_Inv.mono _ _
      | exact LeO.none _
      | refine LeO.ite ?_ ?_
      | refine LeO.bind ?_ (fun _ => ?_)
    · intro y0 y1 y2 y3 y4 y5 y6
      unfold solve_clear.l5
      repeat' first
      | (with_reducible exact ih0 _ _ _ _ _)
      | (with_reducible exact ih1 _ _ _ _ _ _ _ _ _)
      | (with_reducible exact ih2 _ _ _ _)
      | (with_reducible exact ih3 _ _ _ _ _)
      | (with_reducible exact ih4 _ _ _ _ _ _)
      | (with_reducible exact ih5 _ _ _ _ _ _ _ _)
      | (with_reducible exact ih6 _ _ _ _ _ _ _)
      | (with_reducible exact ih7 _ _ _ _ _ _ _ _ _)
      | (with_reducible exact ih8 _ _ _ _ _ _ _ _ _ _ _)
      | (with_reducible exact ih9 _ _ _ _ _ _)
      | (with_reducible exact field_Inv.mono _ _)
      | (with_reducible exact LeO.refl _)
      | (with_reducible exact LeO.none _)
      | (with_reducible refine LeO.ite ?_ ?_)
      | (with_reducible refine LeO.bind ?_ (fun _ => ?_))
      | exact ih0 _ _ _ _ _
      | exact ih1 _ _ _ _ _ _ _ _ _
      | exact ih2 _ _ _ _
      | exact ih3 _ _ _ _ _
      | exact ih4 _ _ _ _ _ _
      | exact ih5 _ _ _ _ _ _ _ _
      | exact ih6 _ _ _ _ _ _ _
      | exact ih7 _ _ _ _ _ _ _ _ _
      | exact ih8 _ _ _ _ _ _ _ _ _ _ _
      | exact ih9 _ _ _ _ _ _
      | exact field_Inv.mono _ _
      | exact LeO.none _
      | refine LeO.ite ?_ ?_
      | refine LeO.bind ?_ (fun _ => ?_)
    · intro y0 y1 y2 y3 y4 y5 y6 y7 y8
      unfold solve_clear.j8
      repeat' first
      | (with_reducible exact ih0 _ _ _ _ _)
      | (with_reducible exact ih1 _ _ _ _ _ _ _ _ _)
      | (with_reducible exact ih2 _ _ _ _)
      | (with_reducible exact ih3 _ _ _ _ _)
      | (with_reducible exact ih4 _ _ _ _ _ _)
      | (with_reducible exact ih5 _ _ _ _ _ _ _ _)
      | (with_reducible exact ih6 _ _ _ _ _ _ _)
      | (with_reducible exact ih7 _ _ _ _ _ _ _ _ _)
      | (with_reducible exact ih8 _ _ _ _ _ _ _ _ _ _ _)
      | (with_reducible exact ih9 _ _ _ _ _ _)
      | (with_reducible exact field_Inv.mono _ _)
      | (with_reducible exact LeO.refl _)
      | (with_reducible exact LeO.none _)
      | (with_reducible refine LeO.ite ?_ ?_)
      | (with_reducible refine LeO.bind ?_ (fun _ => ?_))
      | exact ih0 _ _ _ _ _
      | exact ih1 _ _ _ _ _ _ _ _ _
      | exact ih2 _ _ _ _
      | exact ih3 _ _ _ _ _
      | exact ih4 _ _ _ _ _ _
      | exact ih5 _ _ _ _ _ _ _ _
      | exact ih6 _ _ _ _ _ _ _
      | exact ih7 _ _ _ _ _ _ _ _ _
      | exact ih8 _ _ _ _ _ _ _ _ _ _ _
      | exact ih9 _ _ _ _ _ _
      | exact field_Inv.mono _ _
      | exact LeO.none _
      | refine LeO.ite ?_ ?_
      | refine LeO.bind ?_ (fun _ => ?_)
    · intro y0 y1 y2 y3 y4 y5 y6 y7 y8 y9 y10
      unfold solve_clear.l6
      repeat' first
      | (with_reducible exact ih0 _ _ _ _ _)
      | (with_reducible exact ih1 _ _ _ _ _ _ _ _ _)
      | (with_reducible exact ih2 _ _ _ _)
      | (with_reducible exact ih3 _ _ _ _ _)
      | (with_reducible exact ih4 _ _ _ _ _ _)
      | (with_reducible exact ih5 _ _ _ _ _ _ _ _)
      | (with_reducible exact ih6 _ _ _ _ _ _ _)
      | (with_reducible exact ih7 _ _ _ _ _ _ _ _ _)
      | (with_reducible exact ih8 _ _ _ _ _ _ _ _ _ _ _)
      | (with_reducible exact ih9 _ _ _ _ _ _)
      | (with_reducible exact field_Inv.mono _ _)
      | (with_reducible exact LeO.refl _)
      | (with_reducible exact LeO.none _)
      | (with_reducible refine LeO.ite ?_ ?_)
      | (with_reducible refine LeO.bind ?_ (fun _ => ?_))
      | exact ih0 _ _ _ _ _
      | exact ih1 _ _ _ _ _ _ _ _ _
      | exact ih2 _ _ _ _
      | exact ih3 _ _ _ _ _
      | exact ih4 _ _ _ _ _ _
      | exact ih5 _ _ _ _ _ _ _ _
      | exact ih6 _ _ _ _ _ _ _
      | exact ih7 _ _ _ _ _ _ _ _ _
      | exact ih8 _ _ _ _ _ _ _ _ _ _ _
      | exact ih9 _ _ _ _ _ _
      | exact field_Inv.mono _ _
      | exact LeO.none _
      | refine LeO.ite ?_ ?_
      | refine LeO.bind ?_ (fun _ => ?_)
    · intro y0 y1 y2 y3 y4 y5
      unfold solve_clear.l3
      repeat' first
      | (with_reducible exact ih0 _ _ _ _ _)
      | (with_reducible exact ih1 _ _ _ _ _ _ _ _ _)
      | (with_reducible exact ih2 _ _ _ _)
      | (with_reducible exact ih3 _ _ _ _ _)
      | (with_reducible exact ih4 _ _ _ _ _ _)
      | (with_reducible exact ih5 _ _ _ _ _ _ _ _)
      | (with_reducible exact ih6 _ _ _ _ _ _ _)
      | (with_reducible exact ih7 _ _ _ _ _ _ _ _ _)
      | (with_reducible exact ih8 _ _ _ _ _ _ _ _ _ _ _)
      | (with_reducible exact ih9 _ _ _ _ _ _)
      | (with_reducible exact field_Inv.mono _ _)
      | (with_reducible exact LeO.refl _)
      | (with_reducible exact LeO.none _)
      | (with_reducible refine LeO.ite ?_ ?_)
      | (with_reducible refine LeO.bind ?_ (fun _ => ?_))
      | exact ih0 _ _ _ _ _
      | exact ih1 _ _ _ _ _ _ _ _ _
      | exact ih2 _ _ _ _
      | exact ih3 _ _ _ _ _
      | exact ih4 _ _ _ _ _ _
      | exact ih5 _ _ _ _ _ _ _ _
      | exact ih6 _ _ _ _ _ _ _
      | exact ih7 _ _ _ _ _ _ _ _ _
      | exact ih8 _ _ _ _ _ _ _ _ _ _ _
      | exact ih9 _ _ _ _ _ _
      | exact field_Inv.mono _ _
      | exact LeO.none _
      | refine LeO.ite ?_ ?_
      | refine LeO.bind ?_ (fun _ => ?_)
theorem solve_clear.mono : ∀ a0 a1 k, LeO (solve_clear.f k a0 a1) (solve_clear.f (k + 1) a0 a1) := by
  intro a0 a1 k
  obtain ⟨ih0, ih1, ih2, ih3, ih4, ih5, ih6, ih7, ih8, ih9⟩ := solve_clear.mono_l k
  unfold solve_clear.f
  repeat' first
      | (with_reducible exact ih0 _ _ _ _ _)
      | (with_reducible exact ih1 _ _ _ _ _ _ _ _ _)
      | (with_reducible exact ih2 _ _ _ _)
      | (with_reducible exact ih3 _ _ _ _ _)
      | (with_reducible exact ih4 _ _ _ _ _ _)
      | (with_reducible exact ih5 _ _ _ _ _ _ _ _)
      | (with_reducible exact ih6 _ _ _ _ _ _ _)
      | (with_reducible exact ih7 _ _ _ _ _ _ _ _ _)
      | (with_reducible exact ih8 _ _ _ _ _ _ _ _ _ _ _)
      | (with_reducible exact ih9 _ _ _ _ _ _)
      | (with_reducible exact field_Inv.mono _ _)
      | (with_reducible exact LeO.refl _)
      | (with_reducible exact LeO.none _)
      | (with_reducible refine LeO.ite ?_ ?_)
      | (with_reducible refine LeO.bind ?_ (fun _ => ?_))
      | exact ih0 _ _ _ _ _
      | exact ih1 _ _ _ _ _ _ _ _ _
      | exact ih2 _ _ _ _
      | exact ih3 _ _ _ _ _
      | exact ih4 _ _ _ _ _ _
      | exact ih5 _ _ _ _ _ _ _ _
      | exact ih6 _ _ _ _ _ _ _
      | exact ih7 _ _ _ _ _ _ _ _ _
      | exact ih8 _ _ _ _ _ _ _ _ _ _ _
      | exact ih9 _ _ _ _ _ _
      | exact field_Inv.mono _ _
      | exact LeO.none _
      | refine LeO.ite ?_ ?_
      | refine LeO.bind ?_ (fun _ => ?_)
theorem solve_clear.info3 : (Try.prog.info? 3).map (fun i => (i.zero, i.size, i.bytes)) = some (some (.int .i64 0), 1, 8) := by kernel_rfl
def solve_clear.T22 : Bool × List (List Nat × List Nat) := (true, [([], []), ([], []), ([], []), ([], []), ([], []), ([], []), ([4, 5], [4, 5]), ([6], [6]), ([], []), ([], []), ([8, 9], [8, 9]), ([10], [10]), ([0, 1, 0, 1, 4, 5, 6, 7, 11], [0, 1]), ([12, 7, 0, 1, 4, 5, 6, 7, 11], [7, 12]), ([2, 3, 0, 1, 2, 3, 4, 5, 6, 7, 8, 9, 10, 11, 12, 13], [2, 3]), ([14, 11, 13, 0, 1, 2, 3, 4, 5, 6, 7, 8, 9, 10, 11, 12, 13], [11, 14])])
def solve_clear.B22 : List Nat := [0, 0, 0, 0, 0, 0, 48, 112, 0, 0, 768, 1792, 4083, 8179, 16383, 32767]
theorem solve_clear.tab22 : rtab .any (opsOf Try.f21 22) = solve_clear.T22 := by kernel_rfl
theorem solve_clear.bits22 : waitsOk solve_clear.T22.2 solve_clear.B22 = true := by kernel_rfl
def solve_clear.T27 : Bool × List (List Nat × List Nat) := (true, [([], []), ([], []), ([0, 1], [0, 1]), ([2], [2]), ([], []), ([], []), ([], []), ([5, 6], [5, 6]), ([7], [7]), ([], []), ([8, 9], [8, 9]), ([10], [10]), ([], []), ([11, 12], [11, 12]), ([3, 4, 0, 1, 2, 3, 4, 5, 6, 7, 8, 9, 10, 11, 12, 13], [3, 4]), ([14, 13, 13, 0, 1, 2, 3, 4, 5, 6, 7, 8, 9, 10, 11, 12, 13], [13, 14])])
def solve_clear.B27 : List Nat := [0, 0, 3, 7, 0, 0, 0, 96, 224, 0, 992, 2016, 0, 8160, 16383, 32767]
theorem solve_clear.tab27 : rtab .any (opsOf Try.f21 27) = solve_clear.T27 := by kernel_rfl
theorem solve_clear.bits27 : waitsOk solve_clear.T27.2 solve_clear.B27 = true := by kernel_rfl
def solve_clear.T37 : Bool × List (List Nat × List Nat) := (true, [([], []), ([], []), ([0, 1], [0, 1]), ([2], [2]), ([], []), ([], []), ([], []), ([5, 6], [5, 6]), ([7], [7]), ([], []), ([8, 9], [8, 9]), ([10], [10]), ([], []), ([], []), ([], []), ([13, 14], [13, 14]), ([15], [15]), ([], []), ([16, 17], [16, 17]), ([18], [18]), ([12, 19], [12, 19]), ([11, 20, 20], [11, 20]), ([3, 4, 0, 1, 2, 3, 4, 5, 6, 7, 8, 9, 10, 11, 12, 13, 14, 15, 16, 17, 18, 19, 20, 21], [3, 4]), ([22, 21, 21, 0, 1, 2, 3, 4, 5, 6, 7, 8, 9, 10, 11, 12, 13, 14, 15, 16, 17, 18, 19, 20, 21], [21, 22])])
def solve_clear.B37 : List Nat := [0, 0, 3, 7, 0, 0, 0, 96, 224, 0, 992, 2016, 0, 0, 0, 24576, 57344, 0, 253952, 516096, 1044480, 2097120, 4194303, 8388607]
theorem solve_clear.tab37 : rtab .any (opsOf Try.f21 37) = solve_clear.T37 := by kernel_rfl
theorem solve_clear.bits37 : waitsOk solve_clear.T37.2 solve_clear.B37 = true := by kernel_rfl

theorem solve_clear.row {W : World} {base N cap : Nat} {ok : Nat → Prop} {m : List (List Int)} {A : Option Addr} (h : Kd.S (Kd.slice 36 (Kd.int .u64)) 30 W base ok (.slice A N cap) m) (i : Int) (h0 : 0 ≤ i) (h1 : i < (m.length : Int)) :
    ∃ g A1 c1, A = some ⟨g, 0, none⟩ ∧ W.cell? ⟨g, i.toNat, none⟩ = some (.slice A1 (rd_L1 m i).length c1) ∧ (Kd.int .u64).C W A1 (rd_L1 m i).length (rd_L1 m i) := by
  obtain ⟨g, A1, c1, e, hx, _, hC⟩ := Go.Proofs.Ytoplnkbhgpamaaa.Grid.row h i h0 h1
  exact ⟨g, A1, c1, e, hx, hC⟩
theorem solve_clear.num {W : World} {A : Option Addr} {xs : List Int} (h : (Kd.int .u64).C W A xs.length xs) (i : Int) (h0 : 0 ≤ i) (h1 : i < (xs.length : Int)) : ∃ ad, A = some ad ∧ W.cell? (ad.add i.toNat) = some (.int .u64 (rd xs i)) := Kd.at_int h i h0 h1
theorem solve_clear.put {W : World} {base N cap : Nat} {ok : Nat → Prop} {m : List (List Int)} {A : Option Addr} (h : Kd.S (Kd.slice 36 (Kd.int .u64)) 30 W base ok (.slice A N cap) m) (i j : Int) (h0 : 0 ≤ i) (h1 : i < (m.length : Int)) (g0 : 0 ≤ j) (g1 : j < ((rd_L1 m i).length : Int)) :
    ∃ g b c1, A = some ⟨g, 0, none⟩ ∧ W.cell? ⟨g, i.toNat, none⟩ = some (.slice (some ⟨b, 0, none⟩) (rd_L1 m i).length c1) ∧ W.cell? ⟨b, j.toNat, none⟩ = some (.int .u64 (rd (rd_L1 m i) j)) ∧ W.frozen? ⟨b, j.toNat, none⟩ = false ∧
      base ≤ b ∧ (∃ cells, W.heap[b]? = some (.cells cells 36 (0, 0))) ∧ ∀ nv, Kd.S (Kd.slice 36 (Kd.int .u64)) 30 (W.setCell ⟨b, j.toNat, none⟩ (.int .u64 nv)) base ok (.slice A N cap) (m.set i.toNat ((rd_L1 m i).set j.toNat nv)) :=
  Go.Proofs.Ytoplnkbhgpamaaa.Grid.put h i j h0 h1 g0 g1
theorem solve_clear.swap {W : World} {base N cap : Nat} {ok : Nat → Prop} {m : List (List Int)} {A : Option Addr} (h : Kd.S (Kd.slice 36 (Kd.int .u64)) 30 W base ok (.slice A N cap) m) (i j : Int) (h0 : 0 ≤ i) (h1 : i < (m.length : Int)) (g0 : 0 ≤ j) (g1 : j < (m.length : Int)) :
    ∃ g, A = some ⟨g, 0, none⟩ ∧ base ≤ g ∧ (∃ cells, W.heap[g]? = some (.cells cells 30 (0, 0))) ∧ (∀ q, W.frozen? ⟨g, q, none⟩ = false) ∧ (∀ vj, ∀ q, (W.setCell ⟨g, i.toNat, none⟩ vj).frozen? ⟨g, q, none⟩ = false) ∧
      ∀ vi vj, W.cell? ⟨g, i.toNat, none⟩ = some vi → W.cell? ⟨g, j.toNat, none⟩ = some vj →
        Kd.S (Kd.slice 36 (Kd.int .u64)) 30 ((W.setCell ⟨g, i.toNat, none⟩ vj).setCell ⟨g, j.toNat, none⟩ vi) base ok (.slice A N cap) ((m.set i.toNat (rd_L1 m j)).set j.toNat (rd_L1 m i)) :=
  Go.Proofs.Ytoplnkbhgpamaaa.Grid.swap h i j h0 h1 g0 g1

set_option maxHeartbeats 8000000 in
set_option maxRecDepth 100000 in
theorem solve_clear.calls (k : Nat) (A0 : Option Addr) (c0 : Nat) (l0 : List (List Int)) (a1 : Int) (r1 : List (List Int)) (r2 : List Int) (w : World) (hr0 : Kd.C (Kd.slice 36 (Kd.int .u64)) w A0 l0.length l0) (hc0 : l0.length ≤ c0) (h : solve_clear.f k l0 a1 = some (r1, r2)) :
    Calls Try.prog 21 #[.slice A0 l0.length c0, .int .i64 a1] w fun e w' => ∃ v0_ v1_ : Value, e = .returned (.tuple #[v0_, v1_]) ∧ Kd.S (Kd.slice 36 (Kd.int .u64)) 30 w' w.heap.size (fun _ => True) v0_ r1 ∧ Kd.R (Kd.int .i64) 3 w' w.heap.size (fun _ => True) v1_ r2 ∧ Below w.heap.size w w' := by
  have HR0 := Aside0.mk hr0
  have HC0 := Aside0.mk hc0
  clear hr0 hc0
  have HB := Aside0.mk (Below.refl w.heap.size w)
  have H : (solve_clear.l0 k a1 ([] : List (List Int)) l0 (l0.length : Int) 0) = some (r1, r2) := h
  clear h
  have H' := Aside0.mk H
  clear H
  go_enter Try.func21, Try.ntmps21
  go_wp2
  repeat (go_quiet (fail); try go_wp2)
  go_loopg [6, 24] k (fun kq v6 v24 w' => ∃ (x6_1 : List (List Int)) (x24_1 : Int), v24 = .int .i64 x24_1 ∧ Aside0 (solve_clear.l0 kq a1 x6_1 l0 (l0.length : Int) x24_1 = some (r1, r2)) ∧ Aside0 (kq ≤ k) ∧ Aside0 (Kd.S (Kd.slice 36 (Kd.int .u64)) 30 w' w.heap.size (fun _ => True) v6 x6_1) ∧ Aside0 (Below w.heap.size w w'))
  case atStart => exact ⟨(([] : List (List Int))), (0), (by first | rfl | (simp; done) | (simp [*]; done)), H', ⟨Nat.le_refl _⟩, ⟨by first | exact Kd.S_nil _ _ _ _ _ | exact Kd.N_nil _ _ _ _ _ | exact Kd.V_nil _ _ _ _ _ | exact Kd.Q_nil _ _ _ _ _ | exact Kd.R_nil _ _ _ _ _⟩, ⟨by repeat (first | (with_reducible first | exact HB.out | apply below_alloc | apply pw_below_drewN | apply below_drew1) | exact HB.out)⟩⟩
  case round =>
    clear H'
    try clear c2
    try clear p2
    obtain ⟨x6_1, x24_1, rfl, HA, HK1, HO_6, HB⟩ := hrel
    cases gk with
    | zero => exact absurd HA.out (by simp [solve_clear.l0])
    | succ k1 =>
      have H := HA.out
      clear HA
      simp only [solve_clear.l0] at H
      by_cases c3 : x24_1 < (l0.length : Int)
      · rw [if_pos c3] at H
        have c3b0 : decide (x24_1 < (l0.length : Int)) = true := decide_eq_true c3
        clear c3
        by_cases c4 : 0 ≤ x24_1
        · rw [if_pos c4] at H
          have c4b0 : decide (0 ≤ x24_1) = true := decide_eq_true c4
          clear c4
          by_cases c5 : x24_1 < (l0.length : Int)
          · rw [if_pos c5] at H
            have c5b0 : decide (x24_1 < (l0.length : Int)) = true := decide_eq_true c5
            clear c5
            by_cases c6 : 0 ≤ ((rd_L1 l0 x24_1).length : Int)
            · rw [if_pos c6] at H
              have c6b0 := eq_true c6
              have c6b1 : decide (0 ≤ ((rd_L1 l0 x24_1).length : Int)) = true := decide_eq_true c6
              clear c6
              by_cases c7 : (((rd_L1 l0 x24_1).length : Int) : Int).toNat ≤ 35184372088832
              · rw [if_pos c7] at H
                have c7b0 := eq_true c7
                have c7b1 : decide ((((rd_L1 l0 x24_1).length : Int) : Int).toNat ≤ 35184372088832) = true := decide_eq_true c7
                clear c7
                obtain ⟨y120, hy120⟩ : ∃ y_ : List Int, y_ = (List.replicate (((rd_L1 l0 x24_1).length : Int) : Int).toNat 0) := ⟨_, rfl⟩
                replace H : (solve_clear.l1 k1 a1 x6_1 y120 l0 (l0.length : Int) x24_1 (rd_L1 l0 x24_1) ((rd_L1 l0 x24_1).length : Int) 0) = some (r1, r2) := by first | (rw [hy120]; with_reducible exact H) | (have H2_ := (Option.bind_some _ _).symm.trans H; rw [hy120]; with_reducible exact H2_) | (have H2_ := (Option.bind_some _ _).symm.trans H; with_reducible exact H2_) | with_reducible exact H | (rw [hy120]; exact H) | exact H
                have Ny120 := Aside0.mk hy120
                clear hy120
                have H' := Aside0.mk H
                clear H
                have p119 : 0 ≤ (x24_1 : Int) := of_decide_eq_true (by first | (with_reducible assumption) | assumption)
                have q119 : x24_1 < (l0.length : Int) := of_decide_eq_true (by first | (with_reducible assumption) | assumption)
                obtain ⟨ad119, A119_0, c119_0, e119, hx119_0, hl119_0, hi119_0⟩ := at_L1 HR0.out x24_1 p119 q119
                cases e119
                (try replace hx119_0 := (HB.out.cell (World.block_lt_of_cell? w _ hx119_0)).trans hx119_0)
                have HR119_0 := Aside0.mk hi119_0
                have HC119_0 := Aside0.mk hl119_0
                clear hi119_0 hl119_0
                replace p119 := eq_true p119
                replace q119 := eq_true q119
                go_wp2_with (first | ((with_reducible refine gate_dst (N := 30) rfl ?_); (try (refine gate_guard (by rfl) ?_; dsimp only)); refine Kd.R_make (Kd.int .u64) _ 36 rfl (N := 30) rfl 30 _ _ rfl ((rd_L1 l0 x24_1).length : Int) rfl rfl Try.underlying30 (.int .u64 0) 8 info36 rfl (by decide) (by omega) 0 (ok := fun _ => True) (okp := fun _ => True) rfl (fun _ hk => hk) trivial (of_decide_eq_true (by first | (with_reducible assumption) | assumption)) (Nat.le_trans (Nat.mul_le_mul_right _ (of_decide_eq_true (by first | (with_reducible assumption) | assumption) : ((rd_L1 l0 x24_1).length : Int).toNat ≤ 35184372088832)) (by omega)) (Below.refl _ _) (Nat.le_refl _) ?_; intro v121 w8 ho9 hb hg_ hnew_; clear hg_ hnew_; (first | rw [← Ny120.out] at ho9 | (simp only [Int.reduceToNat] at ho9; rw [← Ny120.out] at ho9)); have n0_ := Aside0.mk (Kd.S_elder' (by (with_reducible repeat (first | apply Kd.S_alloc | apply Kd.S_drewN | apply Kd.S_drew)); exact HO_6.out) (Kd.R_base ho9) hb); have n1_ := Aside0.mk (Kd.R_lower ho9 (below_size (by repeat (first | (with_reducible first | exact HB.out | apply below_alloc | apply pw_below_drewN | apply below_drew1) | exact HB.out)))); have n2_ := Aside0.mk (below_step (by repeat (first | (with_reducible first | exact HB.out | apply below_alloc | apply pw_below_drewN | apply below_drew1) | exact HB.out)) hb); clear HO_6; clear HB; have HO_6 := n0_; have HO122 := n1_; have HB := n2_; clear n0_ n1_ n2_; clear hb ho9))
                repeat (go_quiet (first | ((with_reducible refine gate_dst (N := 30) rfl ?_); (try (refine gate_guard (by rfl) ?_; dsimp only)); refine Kd.R_make (Kd.int .u64) _ 36 rfl (N := 30) rfl 30 _ _ rfl ((rd_L1 l0 x24_1).length : Int) rfl rfl Try.underlying30 (.int .u64 0) 8 info36 rfl (by decide) (by omega) 0 (ok := fun _ => True) (okp := fun _ => True) rfl (fun _ hk => hk) trivial (of_decide_eq_true (by first | (with_reducible assumption) | assumption)) (Nat.le_trans (Nat.mul_le_mul_right _ (of_decide_eq_true (by first | (with_reducible assumption) | assumption) : ((rd_L1 l0 x24_1).length : Int).toNat ≤ 35184372088832)) (by omega)) (Below.refl _ _) (Nat.le_refl _) ?_; intro v121 w8 ho9 hb hg_ hnew_; clear hg_ hnew_; (first | rw [← Ny120.out] at ho9 | (simp only [Int.reduceToNat] at ho9; rw [← Ny120.out] at ho9)); have n0_ := Aside0.mk (Kd.S_elder' (by (with_reducible repeat (first | apply Kd.S_alloc | apply Kd.S_drewN | apply Kd.S_drew)); exact HO_6.out) (Kd.R_base ho9) hb); have n1_ := Aside0.mk (Kd.R_lower ho9 (below_size (by repeat (first | (with_reducible first | exact HB.out | apply below_alloc | apply pw_below_drewN | apply below_drew1) | exact HB.out)))); have n2_ := Aside0.mk (below_step (by repeat (first | (with_reducible first | exact HB.out | apply below_alloc | apply pw_below_drewN | apply below_drew1) | exact HB.out)) hb); clear HO_6; clear HB; have HO_6 := n0_; have HO122 := n1_; have HB := n2_; clear n0_ n1_ n2_; clear hb ho9)); try go_wp2_with (first | ((with_reducible refine gate_dst (N := 30) rfl ?_); (try (refine gate_guard (by rfl) ?_; dsimp only)); refine Kd.R_make (Kd.int .u64) _ 36 rfl (N := 30) rfl 30 _ _ rfl ((rd_L1 l0 x24_1).length : Int) rfl rfl Try.underlying30 (.int .u64 0) 8 info36 rfl (by decide) (by omega) 0 (ok := fun _ => True) (okp := fun _ => True) rfl (fun _ hk => hk) trivial (of_decide_eq_true (by first | (with_reducible assumption) | assumption)) (Nat.le_trans (Nat.mul_le_mul_right _ (of_decide_eq_true (by first | (with_reducible assumption) | assumption) : ((rd_L1 l0 x24_1).length : Int).toNat ≤ 35184372088832)) (by omega)) (Below.refl _ _) (Nat.le_refl _) ?_; intro v121 w8 ho9 hb hg_ hnew_; clear hg_ hnew_; (first | rw [← Ny120.out] at ho9 | (simp only [Int.reduceToNat] at ho9; rw [← Ny120.out] at ho9)); have n0_ := Aside0.mk (Kd.S_elder' (by (with_reducible repeat (first | apply Kd.S_alloc | apply Kd.S_drewN | apply Kd.S_drew)); exact HO_6.out) (Kd.R_base ho9) hb); have n1_ := Aside0.mk (Kd.R_lower ho9 (below_size (by repeat (first | (with_reducible first | exact HB.out | apply below_alloc | apply pw_below_drewN | apply below_drew1) | exact HB.out)))); have n2_ := Aside0.mk (below_step (by repeat (first | (with_reducible first | exact HB.out | apply below_alloc | apply pw_below_drewN | apply below_drew1) | exact HB.out)) hb); clear HO_6; clear HB; have HO_6 := n0_; have HO122 := n1_; have HB := n2_; clear n0_ n1_ n2_; clear hb ho9)))
                go_loopg [33] k1 (fun kq v33 w' => ∃ (x9_2 : List Int) (x33_2 : Int), v33 = .int .i64 x33_2 ∧ Aside0 (solve_clear.l1 kq a1 x6_1 x9_2 l0 (l0.length : Int) x24_1 (rd_L1 l0 x24_1) ((rd_L1 l0 x24_1).length : Int) x33_2 = some (r1, r2)) ∧ Aside0 (kq ≤ k1) ∧ Aside0 (Kd.S (Kd.slice 36 (Kd.int .u64)) 30 w' w.heap.size (fun k_ => some k_ ≠ (v121 : Value).ownBlock) u6 x6_1) ∧ Aside0 (Kd.R (Kd.int .u64) 36 w' w.heap.size (fun _ => True) v121 x9_2) ∧ Aside0 (Below w.heap.size w w'))
                case atStart => exact ⟨(y120), (0), (by first | rfl | (simp; done) | (simp [*]; done)), H', ⟨Nat.le_refl _⟩, ⟨by (with_reducible repeat (first | apply Kd.S_alloc | apply Kd.S_drewN | apply Kd.S_drew)); exact Kd.S_mono HO_6.out (fun _ hk => hk.2)⟩, ⟨by (with_reducible repeat (first | apply Kd.R_alloc | apply Kd.R_drewN | apply Kd.R_drew)); exact HO122.out⟩, ⟨by repeat (first | (with_reducible first | exact HB.out | apply below_alloc | apply pw_below_drewN | apply below_drew1) | exact HB.out)⟩⟩
                case round =>
                  clear H'
                  try clear c1
                  try clear p1
                  try clear q1
                  try clear hx1
                  try clear c2
                  try clear p2
                  try clear c3
                  try clear c3b0
                  try clear c4
                  try clear c4b0
                  try clear c5
                  try clear c5b0
                  try clear c6
                  try clear c6b0
                  try clear c6b1
                  try clear c7
                  try clear c7b0
                  try clear c7b1
                  try clear hx119_0
                  try clear p119
                  try clear p2
                  try clear q119
                  obtain ⟨x9_2, x33_2, rfl, HA, HK2, HO_6, HO_9, HB⟩ := hrel
                  cases gk with
                  | zero => exact absurd HA.out (by simp [solve_clear.l1])
                  | succ k2 =>
                    have H := HA.out
                    clear HA
                    simp only [solve_clear.l1] at H
                    by_cases c10 : x33_2 < ((rd_L1 l0 x24_1).length : Int)
                    · rw [if_pos c10] at H
                      have c10b0 : decide (x33_2 < ((rd_L1 l0 x24_1).length : Int)) = true := decide_eq_true c10
                      clear c10
                      by_cases c11 : 0 ≤ x33_2
                      · rw [if_pos c11] at H
                        have c11b0 : decide (0 ≤ x33_2) = true := decide_eq_true c11
                        clear c11
                        by_cases c12 : x33_2 < ((rd_L1 l0 x24_1).length : Int)
                        · rw [if_pos c12] at H
                          have c12b0 : decide (x33_2 < ((rd_L1 l0 x24_1).length : Int)) = true := decide_eq_true c12
                          clear c12
                          replace H := Option.bind_eq_some_iff.mp H
                          obtain ⟨t124, A130, H⟩ := H
                          replace H : (if x33_2 < (x9_2.length : Int) then (solve_clear.l1 k2 a1 x6_1 (x9_2.set (x33_2 : Int).toNat t124) l0 (l0.length : Int) x24_1 (rd_L1 l0 x24_1) ((rd_L1 l0 x24_1).length : Int) (wrap64 (x33_2 + 1))) else (none)) = some (r1, r2) := H
                          have A13 := Aside0.mk A130
                          clear A130
                          by_cases c14 : x33_2 < (x9_2.length : Int)
                          · rw [if_pos c14] at H
                            have c14b0 : decide (x33_2 < (x9_2.length : Int)) = true := decide_eq_true c14
                            clear c14
                            obtain ⟨y125, hy125⟩ : ∃ y_ : List Int, y_ = (x9_2.set (x33_2 : Int).toNat t124) := ⟨_, rfl⟩
                            replace H : (solve_clear.l1 k2 a1 x6_1 y125 l0 (l0.length : Int) x24_1 (rd_L1 l0 x24_1) ((rd_L1 l0 x24_1).length : Int) (wrap64 (x33_2 + 1))) = some (r1, r2) := by first | (rw [hy125]; with_reducible exact H) | (have H2_ := (Option.bind_some _ _).symm.trans H; rw [hy125]; with_reducible exact H2_) | (have H2_ := (Option.bind_some _ _).symm.trans H; with_reducible exact H2_) | with_reducible exact H | (rw [hy125]; exact H) | exact H
                            have Ny125 := Aside0.mk hy125
                            clear hy125
                            have H' := Aside0.mk H
                            clear H
                            have p123 : 0 ≤ (x33_2 : Int) := of_decide_eq_true (by first | (with_reducible assumption) | assumption)
                            have q123 : x33_2 < ((rd_L1 l0 x24_1).length : Int) := of_decide_eq_true (by first | (with_reducible assumption) | assumption)
                            obtain ⟨ad123, e123, hx123_0⟩ := Kd.at_int HR119_0.out x33_2 p123 q123
                            cases e123
                            (try replace hx123_0 := (HB.out.cell (World.block_lt_of_cell? w _ hx123_0)).trans hx123_0)
                            replace p123 := eq_true p123
                            replace q123 := eq_true q123
                            go_wp2_with (first | (go_at_call 30; (with_reducible refine (field_Of.calls (rd (rd_L1 l0 x24_1) x33_2) t124 _ A13.out).mono ?_); rintro e w' ⟨rfl, ⟨nd, rfl⟩⟩; (try first | exact ⟨rfl, _, World.drewN_drewN _ _ _⟩ | exact ⟨rfl, _, Eq.trans (World.drewN_drewN _ _ _) (congrArg (World.drewN _) (Nat.add_assoc _ _ _))⟩); have p15 : 0 ≤ (x33_2 : Int) := of_decide_eq_true (by first | (with_reducible assumption) | assumption); have q15 : (x33_2 : Int) < ((x9_2.length : Int) : Int) := of_decide_eq_true (by first | (with_reducible assumption) | assumption); obtain ⟨go15, co15, eo15, gb15, gl15, cl15, HG15⟩ := Kd.R_form HO_9.out (by omega); (first | cases eo15 | (injection eo15 with ea_ en_ ec_; (first | subst ea_ | (injection ea_ with ea_; subst ea_)); subst ec_; clear en_)); have GB15 := Aside0.mk gb15; have GG15 := Aside0.mk HG15; clear gb15 gl15 HG15; obtain ⟨hx15_0, hf15_0⟩ := Kd.R_celln 0 HO_9.out (x33_2 : Int) p15 q15; replace p15 := eq_true p15; replace q15 := eq_true q15; obtain ⟨hy16_, hz16_⟩ := Kd.R_celln 0 HO_9.out (x33_2 : Int) (of_decide_eq_true (by first | (with_reducible assumption) | assumption)) (of_decide_eq_true (by first | (with_reducible assumption) | assumption)); have HP16 := Kd.R_putg HO_9.out (x33_2 : Int) t124) | ((with_reducible refine gate_store (t := 36) (p := 42) rfl ?_); (try (rw [drewN_self wr]; generalize hq_ : World.drewN wr _ = wr; have n0_ := Aside0.mk (Kd.S_at hq_ HO_6.out); have n1_ := Aside0.mk (Kd.R_at hq_ HO_9.out); have n2_ := Aside0.mk (below_at hq_ HB.out); clear hq_ HO_6 HO_9 HB; have HO_6 := n0_; have HO_9 := n1_; have HB := n2_; clear n0_ n1_ n2_; (try (obtain ⟨hy16_, hz16_⟩ := Kd.R_celln 0 HO_9.out (x33_2 : Int) (of_decide_eq_true (by first | (with_reducible assumption) | assumption)) (of_decide_eq_true (by first | (with_reducible assumption) | assumption)))); (try (have HP16 := Kd.R_putg HO_9.out (x33_2 : Int) t124)))); refine store_event (t := 36) (p := 42) (v := ?vo_w17) (w1 := (wr.setCell ⟨go15, (x33_2 : Int).toNat, none⟩ (.int .u64 t124))) ?hg ?ho ?hn ?hr ?_; (case ho => rfl); (case hg => rfl); (case hn => rfl); (case hr => first | (go_simp; done) | (go_simp; rfl)); intro w17 hw; have hg : wr.grownBy w17 (some go15) := (by rw [hw]; exact HP16.2); have hp_ : Kd.R (Kd.int .u64) 36 w17 w.heap.size (fun _ => True) (.slice (some ⟨go15, 0, none⟩) x9_2.length co15) y125 := (by rw [hw, Ny125.out]; exact HP16.1); clear HP16; have n0_ := Aside0.mk (Kd.S_after (v := (.slice (some ⟨go15, 0, none⟩) x9_2.length co15)) (v1 := (.slice (some ⟨go15, 0, none⟩) x9_2.length co15)) (ok := (fun _ => True)) (by (with_reducible repeat (first | apply Kd.S_alloc | apply Kd.S_drewN | apply Kd.S_drew)); exact Kd.S_mono HO_6.out (fun _ hk => ⟨trivial, hk⟩)) hg (.inl rfl)); have n1_ := Aside0.mk (hp_); have n2_ := Aside0.mk ((by rw [hw]; exact below_set (HB.out) GB15.out : Below w.heap.size w w17)); clear HO_6; clear HO_9; clear HB; have HO_6 := n0_; have HO_9 := n1_; have HB := n2_; clear n0_ n1_ n2_; clear hg hw hp_))
                            repeat (go_quiet (first | (go_at_call 30; (with_reducible refine (field_Of.calls (rd (rd_L1 l0 x24_1) x33_2) t124 _ A13.out).mono ?_); rintro e w' ⟨rfl, ⟨nd, rfl⟩⟩; (try first | exact ⟨rfl, _, World.drewN_drewN _ _ _⟩ | exact ⟨rfl, _, Eq.trans (World.drewN_drewN _ _ _) (congrArg (World.drewN _) (Nat.add_assoc _ _ _))⟩); have p15 : 0 ≤ (x33_2 : Int) := of_decide_eq_true (by first | (with_reducible assumption) | assumption); have q15 : (x33_2 : Int) < ((x9_2.length : Int) : Int) := of_decide_eq_true (by first | (with_reducible assumption) | assumption); obtain ⟨go15, co15, eo15, gb15, gl15, cl15, HG15⟩ := Kd.R_form HO_9.out (by omega); (first | cases eo15 | (injection eo15 with ea_ en_ ec_; (first | subst ea_ | (injection ea_ with ea_; subst ea_)); subst ec_; clear en_)); have GB15 := Aside0.mk gb15; have GG15 := Aside0.mk HG15; clear gb15 gl15 HG15; obtain ⟨hx15_0, hf15_0⟩ := Kd.R_celln 0 HO_9.out (x33_2 : Int) p15 q15; replace p15 := eq_true p15; replace q15 := eq_true q15; obtain ⟨hy16_, hz16_⟩ := Kd.R_celln 0 HO_9.out (x33_2 : Int) (of_decide_eq_true (by first | (with_reducible assumption) | assumption)) (of_decide_eq_true (by first | (with_reducible assumption) | assumption)); have HP16 := Kd.R_putg HO_9.out (x33_2 : Int) t124) | ((with_reducible refine gate_store (t := 36) (p := 42) rfl ?_); (try (rw [drewN_self wr]; generalize hq_ : World.drewN wr _ = wr; have n0_ := Aside0.mk (Kd.S_at hq_ HO_6.out); have n1_ := Aside0.mk (Kd.R_at hq_ HO_9.out); have n2_ := Aside0.mk (below_at hq_ HB.out); clear hq_ HO_6 HO_9 HB; have HO_6 := n0_; have HO_9 := n1_; have HB := n2_; clear n0_ n1_ n2_; (try (obtain ⟨hy16_, hz16_⟩ := Kd.R_celln 0 HO_9.out (x33_2 : Int) (of_decide_eq_true (by first | (with_reducible assumption) | assumption)) (of_decide_eq_true (by first | (with_reducible assumption) | assumption)))); (try (have HP16 := Kd.R_putg HO_9.out (x33_2 : Int) t124)))); refine store_event (t := 36) (p := 42) (v := ?vo_w17) (w1 := (wr.setCell ⟨go15, (x33_2 : Int).toNat, none⟩ (.int .u64 t124))) ?hg ?ho ?hn ?hr ?_; (case ho => rfl); (case hg => rfl); (case hn => rfl); (case hr => first | (go_simp; done) | (go_simp; rfl)); intro w17 hw; have hg : wr.grownBy w17 (some go15) := (by rw [hw]; exact HP16.2); have hp_ : Kd.R (Kd.int .u64) 36 w17 w.heap.size (fun _ => True) (.slice (some ⟨go15, 0, none⟩) x9_2.length co15) y125 := (by rw [hw, Ny125.out]; exact HP16.1); clear HP16; have n0_ := Aside0.mk (Kd.S_after (v := (.slice (some ⟨go15, 0, none⟩) x9_2.length co15)) (v1 := (.slice (some ⟨go15, 0, none⟩) x9_2.length co15)) (ok := (fun _ => True)) (by (with_reducible repeat (first | apply Kd.S_alloc | apply Kd.S_drewN | apply Kd.S_drew)); exact Kd.S_mono HO_6.out (fun _ hk => ⟨trivial, hk⟩)) hg (.inl rfl)); have n1_ := Aside0.mk (hp_); have n2_ := Aside0.mk ((by rw [hw]; exact below_set (HB.out) GB15.out : Below w.heap.size w w17)); clear HO_6; clear HO_9; clear HB; have HO_6 := n0_; have HO_9 := n1_; have HB := n2_; clear n0_ n1_ n2_; clear hg hw hp_)); try go_wp2_with (first | (go_at_call 30; (with_reducible refine (field_Of.calls (rd (rd_L1 l0 x24_1) x33_2) t124 _ A13.out).mono ?_); rintro e w' ⟨rfl, ⟨nd, rfl⟩⟩; (try first | exact ⟨rfl, _, World.drewN_drewN _ _ _⟩ | exact ⟨rfl, _, Eq.trans (World.drewN_drewN _ _ _) (congrArg (World.drewN _) (Nat.add_assoc _ _ _))⟩); have p15 : 0 ≤ (x33_2 : Int) := of_decide_eq_true (by first | (with_reducible assumption) | assumption); have q15 : (x33_2 : Int) < ((x9_2.length : Int) : Int) := of_decide_eq_true (by first | (with_reducible assumption) | assumption); obtain ⟨go15, co15, eo15, gb15, gl15, cl15, HG15⟩ := Kd.R_form HO_9.out (by omega); (first | cases eo15 | (injection eo15 with ea_ en_ ec_; (first | subst ea_ | (injection ea_ with ea_; subst ea_)); subst ec_; clear en_)); have GB15 := Aside0.mk gb15; have GG15 := Aside0.mk HG15; clear gb15 gl15 HG15; obtain ⟨hx15_0, hf15_0⟩ := Kd.R_celln 0 HO_9.out (x33_2 : Int) p15 q15; replace p15 := eq_true p15; replace q15 := eq_true q15; obtain ⟨hy16_, hz16_⟩ := Kd.R_celln 0 HO_9.out (x33_2 : Int) (of_decide_eq_true (by first | (with_reducible assumption) | assumption)) (of_decide_eq_true (by first | (with_reducible assumption) | assumption)); have HP16 := Kd.R_putg HO_9.out (x33_2 : Int) t124) | ((with_reducible refine gate_store (t := 36) (p := 42) rfl ?_); (try (rw [drewN_self wr]; generalize hq_ : World.drewN wr _ = wr; have n0_ := Aside0.mk (Kd.S_at hq_ HO_6.out); have n1_ := Aside0.mk (Kd.R_at hq_ HO_9.out); have n2_ := Aside0.mk (below_at hq_ HB.out); clear hq_ HO_6 HO_9 HB; have HO_6 := n0_; have HO_9 := n1_; have HB := n2_; clear n0_ n1_ n2_; (try (obtain ⟨hy16_, hz16_⟩ := Kd.R_celln 0 HO_9.out (x33_2 : Int) (of_decide_eq_true (by first | (with_reducible assumption) | assumption)) (of_decide_eq_true (by first | (with_reducible assumption) | assumption)))); (try (have HP16 := Kd.R_putg HO_9.out (x33_2 : Int) t124)))); refine store_event (t := 36) (p := 42) (v := ?vo_w17) (w1 := (wr.setCell ⟨go15, (x33_2 : Int).toNat, none⟩ (.int .u64 t124))) ?hg ?ho ?hn ?hr ?_; (case ho => rfl); (case hg => rfl); (case hn => rfl); (case hr => first | (go_simp; done) | (go_simp; rfl)); intro w17 hw; have hg : wr.grownBy w17 (some go15) := (by rw [hw]; exact HP16.2); have hp_ : Kd.R (Kd.int .u64) 36 w17 w.heap.size (fun _ => True) (.slice (some ⟨go15, 0, none⟩) x9_2.length co15) y125 := (by rw [hw, Ny125.out]; exact HP16.1); clear HP16; have n0_ := Aside0.mk (Kd.S_after (v := (.slice (some ⟨go15, 0, none⟩) x9_2.length co15)) (v1 := (.slice (some ⟨go15, 0, none⟩) x9_2.length co15)) (ok := (fun _ => True)) (by (with_reducible repeat (first | apply Kd.S_alloc | apply Kd.S_drewN | apply Kd.S_drew)); exact Kd.S_mono HO_6.out (fun _ hk => ⟨trivial, hk⟩)) hg (.inl rfl)); have n1_ := Aside0.mk (hp_); have n2_ := Aside0.mk ((by rw [hw]; exact below_set (HB.out) GB15.out : Below w.heap.size w w17)); clear HO_6; clear HO_9; clear HB; have HO_6 := n0_; have HO_9 := n1_; have HB := n2_; clear n0_ n1_ n2_; clear hg hw hp_)))
                            go_roundg k2
                            case measure => have := HK1.out; have := HK2.out; omega
                            case rel => exact ⟨(y125), (wrap64 (x33_2 + 1)), (by first | rfl | (simp; done) | (simp [*]; done)), H', ⟨by have := HK1.out; have := HK2.out; omega⟩, ⟨by (with_reducible repeat (first | apply Kd.S_alloc | apply Kd.S_drewN | apply Kd.S_drew)); exact Kd.S_mono HO_6.out (fun _ hk => hk.2)⟩, ⟨by (with_reducible repeat (first | apply Kd.R_alloc | apply Kd.R_drewN | apply Kd.R_drew)); exact HO_9.out⟩, ⟨by repeat (first | (with_reducible first | exact HB.out | apply below_alloc | apply pw_below_drewN | apply below_drew1) | exact HB.out)⟩⟩
                          · rw [if_neg c14] at H
                            exact absurd H (by simp)
                        · rw [if_neg c12] at H
                          exact absurd H (by simp)
                      · rw [if_neg c11] at H
                        exact absurd H (by simp)
                    · rw [if_neg c10] at H
                      have c10b0 : decide (x33_2 < ((rd_L1 l0 x24_1).length : Int)) = false := decide_eq_false c10
                      clear c10
                      by_cases c18 : x6_1.length < 5864062014805
                      · rw [if_pos c18] at H
                        have LMc18 := Aside0.mk c18
                        clear c18
                        obtain ⟨y126, hy126⟩ : ∃ y_ : List (List Int), y_ = (x6_1 ++ [x9_2]) := ⟨_, rfl⟩
                        replace H : (solve_clear.l0 k2 a1 y126 l0 (l0.length : Int) (wrap64 (x24_1 + 1))) = some (r1, r2) := by first | (rw [hy126]; with_reducible exact H) | (have H2_ := (Option.bind_some _ _).symm.trans H; rw [hy126]; with_reducible exact H2_) | (have H2_ := (Option.bind_some _ _).symm.trans H; with_reducible exact H2_) | with_reducible exact H | (rw [hy126]; exact H) | exact H
                        have Ny126 := Aside0.mk hy126
                        clear hy126
                        have H' := Aside0.mk H
                        clear H
                        obtain ⟨Ao20, co20, eo20⟩ := Kd.R_slice HO_9.out
                        subst eo20
                        go_wp2_with (first | ((with_reducible refine gate_builtin (b := .append) (xs := #[.tmp 44, .tmp 46]) rfl ?_); (try (refine gate_guard (by rfl) ?_; dsimp only)); at_builtin; refine Kd.S_append (Kd.slice 36 (Kd.int .u64)) (w0 := w) w.heap.size rfl (.tmp 44) (.tmp 46) 22 30 (.slice none 0 0) 24 rfl Try.underlying22 info30 rfl (by decide) (by omega) u6 x6_1 x9_2 [.slice Ao20 x9_2.length co20] (fun _ => True) (fun k_ => some k_ = (.slice Ao20 x9_2.length co20 : Value).ownBlock) rfl rfl ?aP (fun k_ hk_ => ((Kd.R_mono (ok' := fun k_ => ((fun _ => True)) k_ ∧ some k_ ≠ (u6 : Value).ownBlock) (Kd.R_apart' (HO_9.out) (Kd.S_typed HO_6.out) (by decide)) (fun k_ hk => ⟨trivial, hk.2⟩))).1 k_ hk_.symm) ?aF ?aO ?aB ?aS ?aL ?_; (case aP => exact Kd.M_row (Kd.R_mono (Kd.R_tight rfl (Kd.R_mono (ok' := fun k_ => ((fun _ => True)) k_ ∧ some k_ ≠ (u6 : Value).ownBlock) (Kd.R_apart' (HO_9.out) (Kd.S_typed HO_6.out) (by decide)) (fun k_ hk => ⟨trivial, hk.2⟩))) (fun _ h_ => h_))); (case aB => exact (by repeat (first | (with_reducible first | exact HB.out | apply below_alloc | apply pw_below_drewN | apply below_drew1) | exact HB.out))); (case aF => exact (fun _ _ => trivial)); (case aO => exact (by (with_reducible repeat (first | apply Kd.S_alloc | apply Kd.S_drewN | apply Kd.S_drew)); exact Kd.S_mono HO_6.out (fun k_ hk => ⟨trivial, fun e_ => hk e_⟩))); (case aS => exact (below_size (by repeat (first | (with_reducible first | exact HB.out | apply below_alloc | apply pw_below_drewN | apply below_drew1) | exact HB.out)))); (case aL => have := LMc18.out; omega); intro v127 w19 ho hb hg hat; rw [← Ny126.out] at ho; have n0_ := Aside0.mk (hb); have n1_ := Aside0.mk (ho); clear HB; clear HO_6; clear HO_9; have HB := n0_; have HO128 := n1_; clear n0_ n1_; clear ho hb hg hat))
                        repeat (go_quiet (first | ((with_reducible refine gate_builtin (b := .append) (xs := #[.tmp 44, .tmp 46]) rfl ?_); (try (refine gate_guard (by rfl) ?_; dsimp only)); at_builtin; refine Kd.S_append (Kd.slice 36 (Kd.int .u64)) (w0 := w) w.heap.size rfl (.tmp 44) (.tmp 46) 22 30 (.slice none 0 0) 24 rfl Try.underlying22 info30 rfl (by decide) (by omega) u6 x6_1 x9_2 [.slice Ao20 x9_2.length co20] (fun _ => True) (fun k_ => some k_ = (.slice Ao20 x9_2.length co20 : Value).ownBlock) rfl rfl ?aP (fun k_ hk_ => ((Kd.R_mono (ok' := fun k_ => ((fun _ => True)) k_ ∧ some k_ ≠ (u6 : Value).ownBlock) (Kd.R_apart' (HO_9.out) (Kd.S_typed HO_6.out) (by decide)) (fun k_ hk => ⟨trivial, hk.2⟩))).1 k_ hk_.symm) ?aF ?aO ?aB ?aS ?aL ?_; (case aP => exact Kd.M_row (Kd.R_mono (Kd.R_tight rfl (Kd.R_mono (ok' := fun k_ => ((fun _ => True)) k_ ∧ some k_ ≠ (u6 : Value).ownBlock) (Kd.R_apart' (HO_9.out) (Kd.S_typed HO_6.out) (by decide)) (fun k_ hk => ⟨trivial, hk.2⟩))) (fun _ h_ => h_))); (case aB => exact (by repeat (first | (with_reducible first | exact HB.out | apply below_alloc | apply pw_below_drewN | apply below_drew1) | exact HB.out))); (case aF => exact (fun _ _ => trivial)); (case aO => exact (by (with_reducible repeat (first | apply Kd.S_alloc | apply Kd.S_drewN | apply Kd.S_drew)); exact Kd.S_mono HO_6.out (fun k_ hk => ⟨trivial, fun e_ => hk e_⟩))); (case aS => exact (below_size (by repeat (first | (with_reducible first | exact HB.out | apply below_alloc | apply pw_below_drewN | apply below_drew1) | exact HB.out)))); (case aL => have := LMc18.out; omega); intro v127 w19 ho hb hg hat; rw [← Ny126.out] at ho; have n0_ := Aside0.mk (hb); have n1_ := Aside0.mk (ho); clear HB; clear HO_6; clear HO_9; have HB := n0_; have HO128 := n1_; clear n0_ n1_; clear ho hb hg hat)); try go_wp2_with (first | ((with_reducible refine gate_builtin (b := .append) (xs := #[.tmp 44, .tmp 46]) rfl ?_); (try (refine gate_guard (by rfl) ?_; dsimp only)); at_builtin; refine Kd.S_append (Kd.slice 36 (Kd.int .u64)) (w0 := w) w.heap.size rfl (.tmp 44) (.tmp 46) 22 30 (.slice none 0 0) 24 rfl Try.underlying22 info30 rfl (by decide) (by omega) u6 x6_1 x9_2 [.slice Ao20 x9_2.length co20] (fun _ => True) (fun k_ => some k_ = (.slice Ao20 x9_2.length co20 : Value).ownBlock) rfl rfl ?aP (fun k_ hk_ => ((Kd.R_mono (ok' := fun k_ => ((fun _ => True)) k_ ∧ some k_ ≠ (u6 : Value).ownBlock) (Kd.R_apart' (HO_9.out) (Kd.S_typed HO_6.out) (by decide)) (fun k_ hk => ⟨trivial, hk.2⟩))).1 k_ hk_.symm) ?aF ?aO ?aB ?aS ?aL ?_; (case aP => exact Kd.M_row (Kd.R_mono (Kd.R_tight rfl (Kd.R_mono (ok' := fun k_ => ((fun _ => True)) k_ ∧ some k_ ≠ (u6 : Value).ownBlock) (Kd.R_apart' (HO_9.out) (Kd.S_typed HO_6.out) (by decide)) (fun k_ hk => ⟨trivial, hk.2⟩))) (fun _ h_ => h_))); (case aB => exact (by repeat (first | (with_reducible first | exact HB.out | apply below_alloc | apply pw_below_drewN | apply below_drew1) | exact HB.out))); (case aF => exact (fun _ _ => trivial)); (case aO => exact (by (with_reducible repeat (first | apply Kd.S_alloc | apply Kd.S_drewN | apply Kd.S_drew)); exact Kd.S_mono HO_6.out (fun k_ hk => ⟨trivial, fun e_ => hk e_⟩))); (case aS => exact (below_size (by repeat (first | (with_reducible first | exact HB.out | apply below_alloc | apply pw_below_drewN | apply below_drew1) | exact HB.out)))); (case aL => have := LMc18.out; omega); intro v127 w19 ho hb hg hat; rw [← Ny126.out] at ho; have n0_ := Aside0.mk (hb); have n1_ := Aside0.mk (ho); clear HB; clear HO_6; clear HO_9; have HB := n0_; have HO128 := n1_; clear n0_ n1_; clear ho hb hg hat)))
                        go_roundg k2
                        case measure => have := HK1.out; have := HK2.out; omega
                        case rel => exact ⟨(y126), (wrap64 (x24_1 + 1)), (by first | rfl | (simp; done) | (simp [*]; done)), H', ⟨by have := HK1.out; have := HK2.out; omega⟩, ⟨by (with_reducible repeat (first | apply Kd.S_alloc | apply Kd.S_drewN | apply Kd.S_drew)); exact HO128.out⟩, ⟨by repeat (first | (with_reducible first | exact HB.out | apply below_alloc | apply pw_below_drewN | apply below_drew1) | exact HB.out)⟩⟩
                      · rw [if_neg c18] at H
                        exact absurd H (by simp)
              · rw [if_neg c7] at H
                exact absurd H (by simp)
            · rw [if_neg c6] at H
              exact absurd H (by simp)
          · rw [if_neg c5] at H
            exact absurd H (by simp)
        · rw [if_neg c4] at H
          exact absurd H (by simp)
      · rw [if_neg c3] at H
        have c3b0 : decide (x24_1 < (l0.length : Int)) = false := decide_eq_false c3
        clear c3
        have H' := Aside0.mk H
        clear H
        go_wp2
        repeat (go_quiet (fail); try go_wp2)
        obtain ⟨Ao6, co6, eo6⟩ := Kd.S_slice HO_6.out
        obtain ⟨N6, hN6⟩ : ∃ N_ : Nat, N_ = x6_1.length := ⟨_, rfl⟩
        rw [← hN6] at eo6
        subst eo6
        have HN6 := Aside0.mk hN6
        clear hN6
        go_loopg [12, 13] k1 (fun kq v12 v13 w' => ∃ (x6_1 : List (List Int)) (x12_2 : List Int) (x13_2 : Int), v13 = .int .i64 x13_2 ∧ Aside0 (solve_clear.l2 kq a1 x6_1 x12_2 x13_2 = some (r1, r2)) ∧ Aside0 (kq ≤ k1) ∧ Aside0 (Kd.S (Kd.slice 36 (Kd.int .u64)) 30 w' w.heap.size (fun _ => True) (.slice Ao6 N6 co6) x6_1) ∧ Aside0 (Kd.R (Kd.int .i64) 3 w' w.heap.size (fun _ => True) v12 x12_2) ∧ Aside0 (Below w.heap.size w w'))
        case atStart => exact ⟨x6_1, (([] : List Int)), (0), (by first | rfl | (simp; done) | (simp [*]; done)), H', ⟨Nat.le_refl _⟩, ⟨by (with_reducible repeat (first | apply Kd.S_alloc | apply Kd.S_drewN | apply Kd.S_drew)); exact HO_6.out⟩, ⟨by first | exact Kd.R_nil _ _ _ _ _ | exact Kd.N_nil _ _ _ _ _ | exact Kd.V_nil _ _ _ _ _ | exact Kd.Q_nil _ _ _ _ _ | exact Kd.S_nil _ _ _ _ _⟩, ⟨by repeat (first | (with_reducible first | exact HB.out | apply below_alloc | apply pw_below_drewN | apply below_drew1) | exact HB.out)⟩⟩
        case round =>
          clear H'
          try clear c1
          try clear p1
          try clear q1
          try clear hx1
          try clear c2
          try clear p2
          try clear c3
          try clear c3b0
          try clear c4
          try clear c4b0
          try clear c5
          try clear c5b0
          try clear c6
          try clear c6b0
          try clear c6b1
          try clear p6
          try clear c7
          try clear c7b0
          try clear c7b1
          try clear c10
          try clear c10b0
          try clear c11
          try clear c11b0
          try clear p11
          try clear q11
          try clear hx11
          try clear c12
          try clear c12b0
          try clear p12
          try clear q12
          try clear hx12
          try clear c14
          try clear c14b0
          try clear p15
          try clear q15
          try clear hx15
          try clear hf15
          try clear c18
          try clear hx119_0
          try clear hx123_0
          try clear hx15_0
          try clear p1
          try clear p119
          try clear p123
          try clear p15
          try clear p2
          try clear q1
          try clear q119
          try clear q123
          try clear q15
          clear HN6
          obtain ⟨x6_1, x12_2, x13_2, rfl, HA, HK2, HO_6, HO_12, HB⟩ := hrel
          obtain ⟨gh6, hgh6⟩ : ∃ e_ : Nat, e_ = N6 := ⟨_, rfl⟩
          obtain rfl : N6 = x6_1.length := (Kd.S_reads' HO_6.out).1
          clear hgh6
          cases gk with
          | zero => exact absurd HA.out (by simp [solve_clear.l2])
          | succ k2 =>
            have H := HA.out
            clear HA
            simp only [solve_clear.l2] at H
            have HC21 := Aside0.mk H
            clear H
            go_upto_region 15 with (fail)
            repeat (go_quiet (fail); go_upto_region 15 with (fail))
            go_cut [58] (fun v58 wc => ∃ (kq : Nat) (x58_20 : Bool), v58 = .bool x58_20 ∧ Aside0 (solve_clear.j3 kq a1 x6_1 x12_2 x13_2 x58_20 = some (r1, r2)) ∧ Aside0 (kq ≤ k2) ∧ Aside0 (Kd.S (Kd.slice 36 (Kd.int .u64)) 30 wc w.heap.size (fun _ => True) (.slice Ao6 x6_1.length co6) x6_1) ∧ Aside0 (Kd.R (Kd.int .i64) 3 wc w.heap.size (fun _ => True) u12 x12_2) ∧ Aside0 (Below w.heap.size w wc))
            case first =>
              have H := HC21.out
              clear HC21
              by_cases c22 : x13_2 < a1
              · rw [if_pos c22] at H
                have c22b0 : decide (x13_2 < a1) = true := decide_eq_true c22
                clear c22
                (first | rw [c22b0] | (simp only [i64_w, i32_w]; rw [c22b0]) | skip)
                have H' := Aside0.mk H
                clear H
                obtain ⟨Ao23, co23, eo23⟩ := Kd.R_slice HO_12.out
                subst eo23
                go_wp2
                repeat (go_quiet (fail); try go_wp2)
                go_meet
                case rel => exact ⟨_, (decide ((x12_2.length : Int) < (x6_1.length : Int))), (by first | rfl | (simp; done) | (simp [*]; done)), H', ⟨by have := HK1.out; have := HK2.out; first | omega | exact Nat.le_refl _⟩, ⟨by (with_reducible repeat (first | apply Kd.S_alloc | apply Kd.S_drewN | apply Kd.S_drew)); exact HO_6.out⟩, ⟨by (with_reducible repeat (first | apply Kd.R_alloc | apply Kd.R_drewN | apply Kd.R_drew)); exact HO_12.out⟩, ⟨by repeat (first | (with_reducible first | exact HB.out | apply below_alloc | apply pw_below_drewN | apply below_drew1) | exact HB.out)⟩⟩
              · rw [if_neg c22] at H
                have c22b0 : decide (x13_2 < a1) = false := decide_eq_false c22
                clear c22
                (first | rw [c22b0] | (simp only [i64_w, i32_w]; rw [c22b0]) | skip)
                have H' := Aside0.mk H
                clear H
                go_wp2
                repeat (go_quiet (fail); try go_wp2)
                go_meet
                case rel => exact ⟨_, (false), (by first | rfl | (simp; done) | (simp [*]; done)), H', ⟨by have := HK1.out; have := HK2.out; first | omega | exact Nat.le_refl _⟩, ⟨by (with_reducible repeat (first | apply Kd.S_alloc | apply Kd.S_drewN | apply Kd.S_drew)); exact HO_6.out⟩, ⟨by (with_reducible repeat (first | apply Kd.R_alloc | apply Kd.R_drewN | apply Kd.R_drew)); exact HO_12.out⟩, ⟨by repeat (first | (with_reducible first | exact HB.out | apply below_alloc | apply pw_below_drewN | apply below_drew1) | exact HB.out)⟩⟩
            case rest =>
              clear HC21
              try clear c1
              try clear p1
              try clear q1
              try clear hx1
              try clear c2
              try clear p2
              try clear c3
              try clear c3b0
              try clear c4
              try clear c4b0
              try clear c5
              try clear c5b0
              try clear c6
              try clear c6b0
              try clear c6b1
              try clear p6
              try clear c7
              try clear c7b0
              try clear c7b1
              try clear c10
              try clear c10b0
              try clear c11
              try clear c11b0
              try clear p11
              try clear q11
              try clear hx11
              try clear c12
              try clear c12b0
              try clear p12
              try clear q12
              try clear hx12
              try clear c14
              try clear c14b0
              try clear p15
              try clear q15
              try clear hx15
              try clear hf15
              try clear c18
              try clear c21
              try clear c22
              try clear c22b0
              try clear hx119_0
              try clear hx123_0
              try clear hx15_0
              try clear p1
              try clear p11
              try clear p119
              try clear p12
              try clear p123
              try clear p15
              try clear p2
              try clear p6
              try clear q1
              try clear q11
              try clear q119
              try clear q12
              try clear q123
              try clear q15
              obtain ⟨kq, x58_20, rfl, HA, HJ20, HO_6, HO_12, HB⟩ := hcut
              cases kq with
              | zero => exact absurd HA.out (by simp [solve_clear.j3])
              | succ kj20 =>
                have H := HA.out
                clear HA
                simp only [solve_clear.j3] at H
                by_cases c25 : x58_20 = true
                · subst c25
                  have H1 : (solve_clear.l3 kj20 a1 x6_1 x12_2 x13_2 (x12_2.length : Int) (x12_2.length : Int)) = some (r1, r2) := by rw [if_pos rfl] at H; exact H
                  clear H
                  have H := H1
                  clear H1
                  have HC26 := Aside0.mk H
                  clear H
                  obtain ⟨Ao27, co27, eo27⟩ := Kd.R_slice HO_12.out
                  subst eo27
                  go_upto_block 6 with (fail)
                  repeat (go_quiet (fail); go_upto_block 6 with (fail))
                  go_cut [15] (fun v15 wc => ∃ (kq : Nat) (x15_25 : Int), v15 = .int .i64 x15_25 ∧ Aside0 (solve_clear.j5 kq a1 x6_1 x12_2 x13_2 (x12_2.length : Int) x15_25 = some (r1, r2)) ∧ Aside0 (kq ≤ kj20) ∧ Aside0 (Kd.S (Kd.slice 36 (Kd.int .u64)) 30 wc w.heap.size (fun _ => True) (.slice Ao6 x6_1.length co6) x6_1) ∧ Aside0 (Kd.R (Kd.int .i64) 3 wc w.heap.size (fun _ => True) (.slice Ao27 x12_2.length co27) x12_2) ∧ Aside0 (Below w.heap.size w wc))
                  case first =>
                    have H := HC26.out
                    clear HC26
                    have H' := Aside0.mk H
                    clear H
                    go_wp2
                    repeat (go_quiet (fail); try go_wp2)
                    go_loopg [15] kj20 (fun kq v15 w' => ∃ (x15_4 : Int), v15 = .int .i64 x15_4 ∧ Aside0 (solve_clear.l3 kq a1 x6_1 x12_2 x13_2 (x12_2.length : Int) x15_4 = some (r1, r2)) ∧ Aside0 (kq ≤ kj20) ∧ Aside0 (Kd.S (Kd.slice 36 (Kd.int .u64)) 30 w' w.heap.size (fun _ => True) (.slice Ao6 x6_1.length co6) x6_1) ∧ Aside0 (Kd.R (Kd.int .i64) 3 w' w.heap.size (fun _ => True) (.slice Ao27 x12_2.length co27) x12_2) ∧ Aside0 (Below w.heap.size w w'))
                    case atStart => exact ⟨((x12_2.length : Int)), (by first | rfl | (simp; done) | (simp [*]; done)), H', ⟨Nat.le_refl _⟩, ⟨by (with_reducible repeat (first | apply Kd.S_alloc | apply Kd.S_drewN | apply Kd.S_drew)); exact HO_6.out⟩, ⟨by (with_reducible repeat (first | apply Kd.R_alloc | apply Kd.R_drewN | apply Kd.R_drew)); exact HO_12.out⟩, ⟨by repeat (first | (with_reducible first | exact HB.out | apply below_alloc | apply pw_below_drewN | apply below_drew1) | exact HB.out)⟩⟩
                    case round =>
                      clear H'
                      try clear c1
                      try clear p1
                      try clear q1
                      try clear hx1
                      try clear c2
                      try clear p2
                      try clear c3
                      try clear c3b0
                      try clear c4
                      try clear c4b0
                      try clear c5
                      try clear c5b0
                      try clear c6
                      try clear c6b0
                      try clear c6b1
                      try clear p6
                      try clear c7
                      try clear c7b0
                      try clear c7b1
                      try clear c10
                      try clear c10b0
                      try clear c11
                      try clear c11b0
                      try clear p11
                      try clear q11
                      try clear hx11
                      try clear c12
                      try clear c12b0
                      try clear p12
                      try clear q12
                      try clear hx12
                      try clear c14
                      try clear c14b0
                      try clear p15
                      try clear q15
                      try clear hx15
                      try clear hf15
                      try clear c18
                      try clear c21
                      try clear c22
                      try clear c22b0
                      try clear c25
                      try clear hx119_0
                      try clear hx123_0
                      try clear hx15_0
                      try clear p1
                      try clear p11
                      try clear p119
                      try clear p12
                      try clear p123
                      try clear p15
                      try clear p2
                      try clear p6
                      try clear q1
                      try clear q11
                      try clear q119
                      try clear q12
                      try clear q123
                      try clear q15
                      obtain ⟨x15_4, rfl, HA, HK4, HO_6, HO_12, HB⟩ := hrel
                      cases gk with
                      | zero => exact absurd HA.out (by simp [solve_clear.l3])
                      | succ k4 =>
                        have H := HA.out
                        clear HA
                        simp only [solve_clear.l3] at H
                        by_cases c28 : x15_4 < (x6_1.length : Int)
                        · rw [if_pos c28] at H
                          have c28b0 : decide (x15_4 < (x6_1.length : Int)) = true := decide_eq_true c28
                          clear c28
                          (first | rw [c28b0] | (simp only [i64_w, i32_w]; rw [c28b0]) | skip)
                          by_cases c29 : 0 ≤ x15_4
                          · rw [if_pos c29] at H
                            have c29b0 : decide (0 ≤ x15_4) = true := decide_eq_true c29
                            clear c29
                            by_cases c30 : 0 ≤ x13_2
                            · rw [if_pos c30] at H
                              have c30b0 : decide (0 ≤ x13_2) = true := decide_eq_true c30
                              clear c30
                              by_cases c31 : x13_2 < ((rd_L1 x6_1 x15_4).length : Int)
                              · rw [if_pos c31] at H
                                have c31b0 : decide (x13_2 < ((rd_L1 x6_1 x15_4).length : Int)) = true := decide_eq_true c31
                                clear c31
                                by_cases c32 : (rd (rd_L1 x6_1 x15_4) x13_2) = 0
                                · rw [if_pos c32] at H
                                  have c32b0 : ((rd (rd_L1 x6_1 x15_4) x13_2) == 0) = true := beq_iff_eq.mpr c32
                                  have c32b1 : ((rd (rd_L1 x6_1 x15_4) x13_2) != 0) = false := bne_eq_false_iff_eq.mpr c32
                                  clear c32
                                  have H' := Aside0.mk H
                                  clear H
                                  have p129 : 0 ≤ (x15_4 : Int) := of_decide_eq_true (by first | (with_reducible assumption) | assumption)
                                  have q129 : x15_4 < (x6_1.length : Int) := of_decide_eq_true (by first | (with_reducible assumption) | assumption)
                                  obtain ⟨ad129, A129_0, c129_0, e129, hx129_0, hl129_0, hi129_0⟩ := at_L1 (Kd.S_reads' HO_6.out).2.2 x15_4 p129 q129
                                  cases e129
                                  obtain ⟨ce129, hce129, hMe129, hcc129⟩ := Kd.S_get HO_6.out [] x15_4 p129 (by first | exact q129 | exact of_decide_eq_true (by first | (with_reducible assumption) | assumption) | (have e_ := (Kd.S_reads' HO_6.out).1; omega))
                                  obtain ⟨ve129_0, rfl, ge129_0⟩ := hMe129
                                  have hv129_0 := hcc129 0 _ rfl
                                  rw [Nat.add_zero, show ((Kd.slice 36 (Kd.int .u64))).sz = 1 from rfl, Nat.mul_one] at hv129_0
                                  replace hv129_0 := Option.some.inj (hv129_0.symm.trans hx129_0)
                                  rw [hv129_0] at ge129_0
                                  have HL129_0 := Aside0.mk (show Kd.R (Kd.int .u64) 36 _ _ _ _ (rd_L1 x6_1 x15_4) from ge129_0)
                                  clear hv129_0 ge129_0
                                  clear hcc129 hce129
                                  have HR129_0 := Aside0.mk hi129_0
                                  have HC129_0 := Aside0.mk hl129_0
                                  clear hi129_0 hl129_0
                                  replace p129 := eq_true p129
                                  replace q129 := eq_true q129
                                  have p130 : 0 ≤ (x13_2 : Int) := of_decide_eq_true (by first | (with_reducible assumption) | assumption)
                                  have q130 : x13_2 < ((rd_L1 x6_1 x15_4).length : Int) := of_decide_eq_true (by first | (with_reducible assumption) | assumption)
                                  obtain ⟨ad130, e130, hx130_0⟩ := Kd.at_int (by repeat (first | (with_reducible exact HR129_0.out) | (with_reducible refine Kd.C_alloc ?_ _) | (with_reducible refine Kd.C_drewN ?_ _) | (with_reducible refine Kd.C_drew ?_) | exact HR129_0.out)) x13_2 p130 q130
                                  cases e130
                                  replace p130 := eq_true p130
                                  replace q130 := eq_true q130
                                  go_wp2
                                  repeat (go_quiet (fail); try go_wp2)
                                  go_roundg k4
                                  case measure => have := HK1.out; have := HK2.out; have := HJ20.out; have := HK4.out; omega
                                  case rel => exact ⟨(wrap64 (x15_4 + 1)), (by first | rfl | (simp; done) | (simp [*]; done)), H', ⟨by have := HK1.out; have := HK2.out; have := HJ20.out; have := HK4.out; omega⟩, ⟨by (with_reducible repeat (first | apply Kd.S_alloc | apply Kd.S_drewN | apply Kd.S_drew)); exact HO_6.out⟩, ⟨by (with_reducible repeat (first | apply Kd.R_alloc | apply Kd.R_drewN | apply Kd.R_drew)); exact HO_12.out⟩, ⟨by repeat (first | (with_reducible first | exact HB.out | apply below_alloc | apply pw_below_drewN | apply below_drew1) | exact HB.out)⟩⟩
                                · rw [if_neg c32] at H
                                  have c32b0 : ((rd (rd_L1 x6_1 x15_4) x13_2) == 0) = false := beq_eq_false_iff_ne.mpr c32
                                  have c32b1 : ((rd (rd_L1 x6_1 x15_4) x13_2) != 0) = true := bne_iff_ne.mpr c32
                                  have H' := Aside0.mk H
                                  clear H
                                  have p129 : 0 ≤ (x15_4 : Int) := of_decide_eq_true (by first | (with_reducible assumption) | assumption)
                                  have q129 : x15_4 < (x6_1.length : Int) := of_decide_eq_true (by first | (with_reducible assumption) | assumption)
                                  obtain ⟨ad129, A129_0, c129_0, e129, hx129_0, hl129_0, hi129_0⟩ := at_L1 (Kd.S_reads' HO_6.out).2.2 x15_4 p129 q129
                                  cases e129
                                  obtain ⟨ce129, hce129, hMe129, hcc129⟩ := Kd.S_get HO_6.out [] x15_4 p129 (by first | exact q129 | exact of_decide_eq_true (by first | (with_reducible assumption) | assumption) | (have e_ := (Kd.S_reads' HO_6.out).1; omega))
                                  obtain ⟨ve129_0, rfl, ge129_0⟩ := hMe129
                                  have hv129_0 := hcc129 0 _ rfl
                                  rw [Nat.add_zero, show ((Kd.slice 36 (Kd.int .u64))).sz = 1 from rfl, Nat.mul_one] at hv129_0
                                  replace hv129_0 := Option.some.inj (hv129_0.symm.trans hx129_0)
                                  rw [hv129_0] at ge129_0
                                  have HL129_0 := Aside0.mk (show Kd.R (Kd.int .u64) 36 _ _ _ _ (rd_L1 x6_1 x15_4) from ge129_0)
                                  clear hv129_0 ge129_0
                                  clear hcc129 hce129
                                  have HR129_0 := Aside0.mk hi129_0
                                  have HC129_0 := Aside0.mk hl129_0
                                  clear hi129_0 hl129_0
                                  replace p129 := eq_true p129
                                  replace q129 := eq_true q129
                                  have p130 : 0 ≤ (x13_2 : Int) := of_decide_eq_true (by first | (with_reducible assumption) | assumption)
                                  have q130 : x13_2 < ((rd_L1 x6_1 x15_4).length : Int) := of_decide_eq_true (by first | (with_reducible assumption) | assumption)
                                  obtain ⟨ad130, e130, hx130_0⟩ := Kd.at_int (by repeat (first | (with_reducible exact HR129_0.out) | (with_reducible refine Kd.C_alloc ?_ _) | (with_reducible refine Kd.C_drewN ?_ _) | (with_reducible refine Kd.C_drew ?_) | exact HR129_0.out)) x13_2 p130 q130
                                  cases e130
                                  replace p130 := eq_true p130
                                  replace q130 := eq_true q130
                                  go_wp2
                                  repeat (go_quiet (fail); try go_wp2)
                                  go_meet
                                  case rel => exact ⟨_, (x15_4), (by first | rfl | (simp; done) | (simp [*]; done)), H', ⟨by have := HK1.out; have := HK2.out; have := HJ20.out; have := HK4.out; first | omega | exact Nat.le_refl _⟩, ⟨by (with_reducible repeat (first | apply Kd.S_alloc | apply Kd.S_drewN | apply Kd.S_drew)); exact HO_6.out⟩, ⟨by (with_reducible repeat (first | apply Kd.R_alloc | apply Kd.R_drewN | apply Kd.R_drew)); exact HO_12.out⟩, ⟨by repeat (first | (with_reducible first | exact HB.out | apply below_alloc | apply pw_below_drewN | apply below_drew1) | exact HB.out)⟩⟩
                              · rw [if_neg c31] at H
                                exact absurd H (by simp)
                            · rw [if_neg c30] at H
                              exact absurd H (by simp)
                          · rw [if_neg c29] at H
                            exact absurd H (by simp)
                        · rw [if_neg c28] at H
                          have c28b0 : decide (x15_4 < (x6_1.length : Int)) = false := decide_eq_false c28
                          clear c28
                          (first | rw [c28b0] | (simp only [i64_w, i32_w]; rw [c28b0]) | skip)
                          have H' := Aside0.mk H
                          clear H
                          go_wp2
                          repeat (go_quiet (fail); try go_wp2)
                          go_meet
                          case rel => exact ⟨_, (x15_4), (by first | rfl | (simp; done) | (simp [*]; done)), H', ⟨by have := HK1.out; have := HK2.out; have := HJ20.out; have := HK4.out; first | omega | exact Nat.le_refl _⟩, ⟨by (with_reducible repeat (first | apply Kd.S_alloc | apply Kd.S_drewN | apply Kd.S_drew)); exact HO_6.out⟩, ⟨by (with_reducible repeat (first | apply Kd.R_alloc | apply Kd.R_drewN | apply Kd.R_drew)); exact HO_12.out⟩, ⟨by repeat (first | (with_reducible first | exact HB.out | apply below_alloc | apply pw_below_drewN | apply below_drew1) | exact HB.out)⟩⟩
                  case rest =>
                    clear HC26
                    try clear c1
                    try clear p1
                    try clear q1
                    try clear hx1
                    try clear c2
                    try clear p2
                    try clear c3
                    try clear c3b0
                    try clear c4
                    try clear c4b0
                    try clear c5
                    try clear c5b0
                    try clear c6
                    try clear c6b0
                    try clear c6b1
                    try clear p6
                    try clear c7
                    try clear c7b0
                    try clear c7b1
                    try clear c10
                    try clear c10b0
                    try clear c11
                    try clear c11b0
                    try clear p11
                    try clear q11
                    try clear hx11
                    try clear c12
                    try clear c12b0
                    try clear p12
                    try clear q12
                    try clear hx12
                    try clear p13
                    try clear q13
                    try clear hx13
                    try clear c14
                    try clear c14b0
                    try clear p15
                    try clear q15
                    try clear hx15
                    try clear hf15
                    try clear c18
                    try clear c21
                    try clear c22
                    try clear c22b0
                    try clear c25
                    try clear c28
                    try clear c28b0
                    try clear c29
                    try clear c29b0
                    try clear c30
                    try clear c30b0
                    try clear c31
                    try clear c31b0
                    try clear c32
                    try clear c32b0
                    try clear c32b1
                    try clear hx119_0
                    try clear hx123_0
                    try clear hx129_0
                    try clear hx130_0
                    try clear hx15_0
                    try clear p1
                    try clear p11
                    try clear p119
                    try clear p12
                    try clear p123
                    try clear p129
                    try clear p130
                    try clear p15
                    try clear p2
                    try clear p6
                    try clear q1
                    try clear q11
                    try clear q119
                    try clear q12
                    try clear q123
                    try clear q129
                    try clear q130
                    try clear q15
                    obtain ⟨kq, x15_25, rfl, HA, HJ25, HO_6, HO_12, HB⟩ := hcut
                    cases kq with
                    | zero => exact absurd HA.out (by simp [solve_clear.j5])
                    | succ kj25 =>
                      have H := HA.out
                      clear HA
                      simp only [solve_clear.j5] at H
                      by_cases c36 : x15_25 = (x6_1.length : Int)
                      · rw [if_pos c36] at H
                        have c36b0 : (x15_25 == (x6_1.length : Int)) = true := beq_iff_eq.mpr c36
                        have c36b1 : (x15_25 != (x6_1.length : Int)) = false := bne_eq_false_iff_eq.mpr c36
                        clear c36
                        have H' := Aside0.mk H
                        clear H
                        go_wp2
                        repeat (go_quiet (fail); try go_wp2)
                        go_roundg kj25
                        case measure => have := HK1.out; have := HK2.out; have := HJ20.out; have := HJ25.out; omega
                        case rel => exact ⟨x6_1, (x12_2), (wrap64 (x13_2 + 1)), (by first | rfl | (simp; done) | (simp [*]; done)), H', ⟨by have := HK1.out; have := HK2.out; have := HJ20.out; have := HJ25.out; omega⟩, ⟨by (with_reducible repeat (first | apply Kd.S_alloc | apply Kd.S_drewN | apply Kd.S_drew)); exact HO_6.out⟩, ⟨by (with_reducible repeat (first | apply Kd.R_alloc | apply Kd.R_drewN | apply Kd.R_drew)); exact HO_12.out⟩, ⟨by repeat (first | (with_reducible first | exact HB.out | apply below_alloc | apply pw_below_drewN | apply below_drew1) | exact HB.out)⟩⟩
                      · rw [if_neg c36] at H
                        have c36b0 : (x15_25 == (x6_1.length : Int)) = false := beq_eq_false_iff_ne.mpr c36
                        have c36b1 : (x15_25 != (x6_1.length : Int)) = true := bne_iff_ne.mpr c36
                        clear c36
                        generalize hkk : (x12_2.length : Int) = kk at *
                        clear hkk
                        by_cases c38 : 0 ≤ x15_25
                        · rw [if_pos c38] at H
                          have c38b0 : decide (0 ≤ x15_25) = true := decide_eq_true c38
                          have Pc38 := Aside0.mk c38
                          replace c38 := eq_true c38
                          by_cases c39 : x15_25 < (x6_1.length : Int)
                          · rw [if_pos c39] at H
                            have c39b0 : decide (x15_25 < (x6_1.length : Int)) = true := decide_eq_true c39
                            have Pc39 := Aside0.mk c39
                            replace c39 := eq_true c39
                            by_cases c40 : 0 ≤ kk
                            · rw [if_pos c40] at H
                              have c40b0 : decide (0 ≤ kk) = true := decide_eq_true c40
                              have Pc40 := Aside0.mk c40
                              replace c40 := eq_true c40
                              by_cases c41 : kk < (x6_1.length : Int)
                              · rw [if_pos c41] at H
                                have c41b0 : decide (kk < (x6_1.length : Int)) = true := decide_eq_true c41
                                have Pc41 := Aside0.mk c41
                                replace c41 := eq_true c41
                                obtain ⟨M, hM⟩ : ∃ M_ : List (List Int), M_ = ((x6_1.set kk.toNat (rd_L1 x6_1 x15_25)).set x15_25.toNat (rd_L1 x6_1 kk)) := ⟨_, rfl⟩
                                rw [← hM] at H
                                have HM := Aside0.mk hM
                                clear hM
                                by_cases c42 : 0 ≤ x13_2
                                · rw [if_pos c42] at H
                                  have c42b0 : decide (0 ≤ x13_2) = true := decide_eq_true c42
                                  have Pc42 := Aside0.mk c42
                                  replace c42 := eq_true c42
                                  by_cases c43 : x13_2 < ((rd_L1 M kk).length : Int)
                                  · rw [if_pos c43] at H
                                    have c43b0 : decide (x13_2 < ((rd_L1 M kk).length : Int)) = true := decide_eq_true c43
                                    have Pc43 := Aside0.mk c43
                                    replace c43 := eq_true c43
                                    replace H := Option.bind_eq_some_iff.mp H
                                    obtain ⟨⟨t132, t133⟩, A440, H⟩ := H
                                    replace H : (solve_clear.l4 kj25 a1 M x12_2 x13_2 kk t132 ((rd_L1 M kk).length : Int) 0) = some (r1, r2) := H
                                    have A44 := Aside0.mk A440
                                    clear A440
                                    have H' := Aside0.mk H
                                    clear H
                                    have HML : M.length = x6_1.length := by rw [HM.out]; simp
                                    go_wp2
                                    repeat (go_quiet (fail); try go_wp2)
                                    replace HO_6 := Aside0.mk (Kd.S_drew HO_6.out)
                                    replace HO_12 := Aside0.mk (Kd.R_drew HO_12.out)
                                    replace HB := Aside0.mk (below_drew1 HB.out)
                                    obtain ⟨g, A1, c1_, eA, hx1, hC1⟩ := solve_clear.row HO_6.out kk Pc40.out Pc41.out
                                    cases eA
                                    clear hC1
                                    obtain ⟨g_, A2, c2_, eA, hx2, hC2⟩ := solve_clear.row HO_6.out x15_25 Pc38.out Pc39.out
                                    cases eA
                                    clear hC2
                                    obtain ⟨g_, eA, hb0, ⟨cells, hcells⟩, hf1, hf2, hsw⟩ := solve_clear.swap HO_6.out kk x15_25 Pc40.out Pc41.out Pc38.out Pc39.out
                                    cases eA
                                    have HS1 := Aside0.mk (hsw _ _ hx1 hx2)
                                    have HG := Aside0.mk hb0
                                    have HC_ := Aside0.mk hcells
                                    have hf3 := hf1 kk.toNat
                                    have hf4 := hf2 (.slice A2 (rd_L1 x6_1 x15_25).length c2_) x15_25.toNat
                                    clear hsw hb0 hcells hf1 hf2
                                    refine start_ (n := 16) (S := fun w' => w'.cell? ⟨g, kk.toNat, none⟩ = some (.slice A1 (rd_L1 x6_1 kk).length c1_) ∧ w'.cell? ⟨g, x15_25.toNat, none⟩ = some (.slice A2 (rd_L1 x6_1 x15_25).length c2_)) (ds := [13, 15]) #[false, false, false, false, false, false, false, false, false, false, false, false, false, false, false, false] (by kernel_rfl) rfl rfl ⟨hx1, hx2⟩ (fun hHeld => ?_); refine with_tabW solve_clear.tab22 solve_clear.bits22 (fun HT_ HW_ => ?_)
                                    generalize wc.drew = w22 at HO_6 HO_12 HB hx1 hx2 HS1 HC_ hf3 hf4 hHeld ⊢
                                    refine pure_ (i := 0) (N := some 84) (v := ?_) (a' := ?_) #[true, false, false, false, false, false, false, false, false, false, false, false, false, false, false, false] rfl rfl (any_of HT_.out (by kernel_rfl)) (fun _ _ _ h => h) (Or.inl ⟨by rfl, ?_⟩) ?_ ?_
                                    rotate_left
                                    · intro w'
                                      go_simp
                                      with_reducible rfl
                                    rotate_left
                                    · simp only [Act.put, List.setIfInBounds_toArray, List.set_cons_zero, List.set_cons_succ, i64_w, i32_w]
                                      rfl
                                    refine pure_ (i := 1) (N := some 85) (v := ?_) (a' := ?_) #[true, true, false, false, false, false, false, false, false, false, false, false, false, false, false, false] rfl rfl (any_of HT_.out (by kernel_rfl)) (fun _ _ _ h => h) (Or.inl ⟨by rfl, ?_⟩) ?_ ?_
                                    rotate_left
                                    · intro w'
                                      go_simp
                                      with_reducible rfl
                                    rotate_left
                                    · simp only [Act.put, List.setIfInBounds_toArray, List.set_cons_zero, List.set_cons_succ, i64_w, i32_w]
                                      rfl
                                    refine pure_ (i := 2) (N := some 86) (v := ?_) (a' := ?_) #[true, true, true, false, false, false, false, false, false, false, false, false, false, false, false, false] rfl rfl (any_of HT_.out (by kernel_rfl)) (fun _ _ _ h => h) (Or.inl ⟨by rfl, ?_⟩) ?_ ?_
                                    rotate_left
                                    · intro w'
                                      go_simp
                                      with_reducible rfl
                                    rotate_left
                                    · simp only [Act.put, List.setIfInBounds_toArray, List.set_cons_zero, List.set_cons_succ, i64_w, i32_w]
                                      rfl
                                    refine pure_ (i := 3) (N := some 87) (v := ?_) (a' := ?_) #[true, true, true, true, false, false, false, false, false, false, false, false, false, false, false, false] rfl rfl (any_of HT_.out (by kernel_rfl)) (fun _ _ _ h => h) (Or.inl ⟨by rfl, ?_⟩) ?_ ?_
                                    rotate_left
                                    · intro w'
                                      go_simp
                                      with_reducible rfl
                                    rotate_left
                                    · simp only [Act.put, List.setIfInBounds_toArray, List.set_cons_zero, List.set_cons_succ, i64_w, i32_w]
                                      rfl
                                    refine pure_ (i := 4) (N := some 88) (v := ?_) (a' := ?_) #[true, true, true, true, true, false, false, false, false, false, false, false, false, false, false, false] rfl rfl (any_of HT_.out (by kernel_rfl)) (fun _ _ _ h => h) (Or.inl ⟨by rfl, ?_⟩) ?_ ?_
                                    rotate_left
                                    · intro w'
                                      go_simp
                                      with_reducible rfl
                                    rotate_left
                                    · simp only [Act.put, List.setIfInBounds_toArray, List.set_cons_zero, List.set_cons_succ, i64_w, i32_w]
                                      rfl
                                    refine pure_ (i := 5) (N := some 89) (v := ?_) (a' := ?_) #[true, true, true, true, true, true, false, false, false, false, false, false, false, false, false, false] rfl rfl (any_of HT_.out (by kernel_rfl)) (fun _ _ _ h => h) (Or.inl ⟨by rfl, ?_⟩) ?_ ?_
                                    rotate_left
                                    · intro w'
                                      go_simp
                                      with_reducible rfl
                                    rotate_left
                                    · simp only [Act.put, List.setIfInBounds_toArray, List.set_cons_zero, List.set_cons_succ, i64_w, i32_w]
                                      rfl
                                    refine pure_ (i := 6) (N := some 90) (v := ?_) (a' := ?_) #[true, true, true, true, true, true, true, false, false, false, false, false, false, false, false, false] rfl rfl (any_of HT_.out (by kernel_rfl)) (fun _ _ _ h => h) (Or.inl ⟨by rfl, ?_⟩) ?_ ?_
                                    rotate_left
                                    · intro w'
                                      go_simp
                                      with_reducible rfl
                                    rotate_left
                                    · simp only [Act.put, List.setIfInBounds_toArray, List.set_cons_zero, List.set_cons_succ, i64_w, i32_w]
                                      rfl
                                    refine pure_ (i := 8) (N := some 92) (v := ?_) (a' := ?_) #[true, true, true, true, true, true, true, false, true, false, false, false, false, false, false, false] rfl rfl (any_of HT_.out (by kernel_rfl)) (fun _ _ _ h => h) (Or.inl ⟨by rfl, ?_⟩) ?_ ?_
                                    rotate_left
                                    · intro w'
                                      go_simp
                                      with_reducible rfl
                                    rotate_left
                                    · simp only [Act.put, List.setIfInBounds_toArray, List.set_cons_zero, List.set_cons_succ, i64_w, i32_w]
                                      rfl
                                    refine pure_ (i := 9) (N := some 93) (v := ?_) (a' := ?_) #[true, true, true, true, true, true, true, false, true, true, false, false, false, false, false, false] rfl rfl (any_of HT_.out (by kernel_rfl)) (fun _ _ _ h => h) (Or.inl ⟨by rfl, ?_⟩) ?_ ?_
                                    rotate_left
                                    · intro w'
                                      go_simp
                                      with_reducible rfl
                                    rotate_left
                                    · simp only [Act.put, List.setIfInBounds_toArray, List.set_cons_zero, List.set_cons_succ, i64_w, i32_w]
                                      rfl
                                    refine pure_ (i := 10) (N := some 94) (v := ?_) (a' := ?_) #[true, true, true, true, true, true, true, false, true, true, true, false, false, false, false, false] rfl rfl (any_of HT_.out (by kernel_rfl)) (fun _ _ _ h => h) (Or.inl ⟨by rfl, ?_⟩) ?_ ?_
                                    rotate_left
                                    · intro w'
                                      go_simp
                                      with_reducible rfl
                                    rotate_left
                                    · simp only [Act.put, List.setIfInBounds_toArray, List.set_cons_zero, List.set_cons_succ, i64_w, i32_w]
                                      rfl
                                    refine take_ (i := 7) (N := some 91) (v := ?_) (a' := ?_) #[true, true, true, true, true, true, true, true, true, true, true, false, false, false, false, false] rfl rfl (take_ofW HT_.out HW_.out (by kernel_rfl)) (fun _ _ _ h => h) (Or.inl ⟨by rfl, ?_⟩) hHeld ?_ ?_
                                    rotate_left
                                    · rintro w' ⟨s0, s1⟩
                                      go_simp
                                      with_reducible rfl
                                    rotate_left
                                    · simp only [Act.put, List.setIfInBounds_toArray, List.set_cons_zero, List.set_cons_succ, i64_w, i32_w]
                                      rfl
                                    refine take_ (i := 11) (N := some 95) (v := ?_) (a' := ?_) #[true, true, true, true, true, true, true, true, true, true, true, true, false, false, false, false] rfl rfl (take_ofW HT_.out HW_.out (by kernel_rfl)) (fun _ _ _ h => h) (Or.inl ⟨by rfl, ?_⟩) hHeld ?_ ?_
                                    rotate_left
                                    · rintro w' ⟨s0, s1⟩
                                      go_simp
                                      with_reducible rfl
                                    rotate_left
                                    · simp only [Act.put, List.setIfInBounds_toArray, List.set_cons_zero, List.set_cons_succ, i64_w, i32_w]
                                      rfl
                                    refine pure_ (i := 12) (N := some 96) (v := ?_) (a' := ?_) #[true, true, true, true, true, true, true, true, true, true, true, true, true, false, false, false] rfl rfl (any_of HT_.out (by kernel_rfl)) (fun _ _ _ h => h) (Or.inl ⟨by rfl, ?_⟩) ?_ ?_
                                    rotate_left
                                    · intro w'
                                      go_simp
                                      with_reducible rfl
                                    rotate_left
                                    · simp only [Act.put, List.setIfInBounds_toArray, List.set_cons_zero, List.set_cons_succ, i64_w, i32_w]
                                      rfl
                                    obtain ⟨v3_, hx3⟩ := cell?_setCell_some (p := ⟨g, kk.toNat, none⟩) (x := .slice A2 (rd_L1 x6_1 x15_25).length c2_) hx2
                                    refine last_ (i := 13) (N := none) #[true, true, true, true, true, true, true, true, true, true, true, true, true, true, false, false] rfl rfl (one_of HT_.out (by kernel_rfl)) (by decide) (fun K hK => ?_)
                                    refine skip_ (w1 := ?_) (by rfl) rfl ?_ ?_
                                    rotate_left
                                    · go_simp
                                      rfl
                                    refine hK.out _ _ ?_
                                    clear hK K
                                    refine pure_ (i := 14) (N := some 97) (v := ?_) (a' := ?_) #[true, true, true, true, true, true, true, true, true, true, true, true, true, true, true, false] rfl rfl (any_of HT_.out (by kernel_rfl)) (fun _ _ _ h => h) (Or.inl ⟨by rfl, ?_⟩) ?_ ?_
                                    rotate_left
                                    · intro w'
                                      go_simp
                                      with_reducible rfl
                                    rotate_left
                                    · simp only [Act.put, List.setIfInBounds_toArray, List.set_cons_zero, List.set_cons_succ, i64_w, i32_w]
                                      rfl
                                    refine last_ (i := 15) (N := none) #[true, true, true, true, true, true, true, true, true, true, true, true, true, true, true, true] rfl rfl (one_of HT_.out (by kernel_rfl)) (by decide) (fun K hK => ?_)
                                    refine skip_ (w1 := ?_) (by rfl) rfl ?_ ?_
                                    rotate_left
                                    · go_simp
                                      rfl
                                    refine hK.out _ _ ?_
                                    clear hK K
                                    refine done_ (done_of HT_.out (by kernel_rfl)) ?_
                                    have HO2 := Aside0.mk (Kd.R_set (Kd.R_set HO_12.out HC_.out (by decide) kk.toNat (.slice A2 (rd_L1 x6_1 x15_25).length c2_)) (cells := cells.setIfInBounds kk.toNat (.slice A2 (rd_L1 x6_1 x15_25).length c2_)) (heap_setCell_same w22 g kk.toNat cells 30 _ HC_.out) (by decide) x15_25.toNat (.slice A1 (rd_L1 x6_1 kk).length c1_))
                                    have HB2 := Aside0.mk (below_set (below_set HB.out (g := g) (j := kk.toNat) (v := .slice A2 (rd_L1 x6_1 x15_25).length c2_) HG.out) (g := g) (j := x15_25.toNat) (v := .slice A1 (rd_L1 x6_1 kk).length c1_) HG.out)
                                    clear HO_6 HO_12 HB
                                    have HO_6 := HS1
                                    have HO_12 := HO2
                                    have HB := HB2
                                    clear HS1 HO2 HB2 hx1 hx2 hx3 hf3 hf4 HC_ hHeld
                                    rw [← HM.out] at HO_6
                                    generalize (w22.setCell ⟨g, kk.toNat, none⟩ (.slice A2 (rd_L1 x6_1 x15_25).length c2_)).setCell ⟨g, x15_25.toNat, none⟩ (.slice A1 (rd_L1 x6_1 kk).length c1_) = w5 at *
                                    obtain ⟨g_, A3, c3_, eA, hx3, hC3⟩ := solve_clear.row HO_6.out kk Pc40.out (by rw [HML]; exact Pc41.out)
                                    cases eA
                                    obtain ⟨ad3, eA3, hn3⟩ := solve_clear.num hC3 x13_2 Pc42.out Pc43.out
                                    cases eA3
                                    clear hC3
                                    go_wp2_with (first | (go_at_call 31; (with_reducible refine (field_Inv.calls kj25 (rd (rd_L1 M kk) x13_2) t132 t133 _ A44.out).mono ?_); rintro e w' ⟨rfl, ⟨nd, rfl⟩⟩; (try first | exact ⟨rfl, _, World.drewN_drewN _ _ _⟩ | exact ⟨rfl, _, Eq.trans (World.drewN_drewN _ _ _) (congrArg (World.drewN _) (Nat.add_assoc _ _ _))⟩)))
                                    repeat (go_quiet (first | (go_at_call 31; (with_reducible refine (field_Inv.calls kj25 (rd (rd_L1 M kk) x13_2) t132 t133 _ A44.out).mono ?_); rintro e w' ⟨rfl, ⟨nd, rfl⟩⟩; (try first | exact ⟨rfl, _, World.drewN_drewN _ _ _⟩ | exact ⟨rfl, _, Eq.trans (World.drewN_drewN _ _ _) (congrArg (World.drewN _) (Nat.add_assoc _ _ _))⟩))); try go_wp2_with (first | (go_at_call 31; (with_reducible refine (field_Inv.calls kj25 (rd (rd_L1 M kk) x13_2) t132 t133 _ A44.out).mono ?_); rintro e w' ⟨rfl, ⟨nd, rfl⟩⟩; (try first | exact ⟨rfl, _, World.drewN_drewN _ _ _⟩ | exact ⟨rfl, _, Eq.trans (World.drewN_drewN _ _ _) (congrArg (World.drewN _) (Nat.add_assoc _ _ _))⟩))))
                                    go_loopg [114] kj25 (fun kq v114 w' => ∃ (m : List (List Int)) (x114 : Int), v114 = .int .i64 x114 ∧ Aside0 (m.length = x6_1.length) ∧ Aside0 (solve_clear.l4 kq a1 m x12_2 x13_2 kk t132 ((rd_L1 M kk).length : Int) x114 = some (r1, r2)) ∧ Aside0 (kq ≤ kj25) ∧ Aside0 (Kd.S (Kd.slice 36 (Kd.int .u64)) 30 w' w.heap.size (fun _ => True) (.slice (some ⟨g, 0, none⟩) x6_1.length co6) m) ∧ Aside0 (Kd.R (Kd.int .i64) 3 w' w.heap.size (fun _ => True) (.slice Ao27 x12_2.length co27) x12_2) ∧ Aside0 (Below w.heap.size w w'))
                                    case atStart => exact ⟨M, 0, (by first | rfl | (simp; done) | (simp [*]; done)), ⟨HML⟩, H', ⟨Nat.le_refl _⟩, ⟨by (with_reducible repeat (first | apply Kd.S_alloc | apply Kd.S_drewN | apply Kd.S_drew)); exact HO_6.out⟩, ⟨by (with_reducible repeat (first | apply Kd.R_alloc | apply Kd.R_drewN | apply Kd.R_drew)); exact HO_12.out⟩, ⟨by repeat (first | (with_reducible first | exact HB.out | apply below_alloc | apply pw_below_drewN | apply below_drew1) | exact HB.out)⟩⟩
                                    case round =>
                                      clear H' HO_6 HO_12 HB hx3 hn3
                                      obtain ⟨m, x114, rfl, HLEN, HA, HK5, HO_6, HO_12, HB⟩ := hrel
                                      cases gk with
                                      | zero => exact absurd HA.out (by simp [solve_clear.l4])
                                      | succ k5 =>
                                        have H := HA.out
                                        clear HA
                                        simp only [solve_clear.l4] at H
                                        rw [HLEN.out] at H
                                        by_cases c50 : x114 < ((rd_L1 M kk).length : Int)
                                        · rw [if_pos c50] at H
                                          have c50b0 : decide (x114 < ((rd_L1 M kk).length : Int)) = true := decide_eq_true c50
                                          replace c50 := eq_true c50
                                          rw [if_pos Pc40.out, if_pos Pc41.out] at H
                                          by_cases c51 : 0 ≤ x114
                                          · rw [if_pos c51] at H
                                            have c51b0 : decide (0 ≤ x114) = true := decide_eq_true c51
                                            have Pc51 := Aside0.mk c51
                                            replace c51 := eq_true c51
                                            by_cases c52 : x114 < ((rd_L1 m kk).length : Int)
                                            · rw [if_pos c52] at H
                                              have c52b0 : decide (x114 < ((rd_L1 m kk).length : Int)) = true := decide_eq_true c52
                                              have Pc52 := Aside0.mk c52
                                              replace c52 := eq_true c52
                                              replace H := Option.bind_eq_some_iff.mp H
                                              obtain ⟨t138, A0, H⟩ := H
                                              have A51 := Aside0.mk A0
                                              clear A0
                                              obtain ⟨m2, hm2⟩ : ∃ m_ : List (List Int), m_ = (m.set kk.toNat ((rd_L1 m kk).set x114.toNat t138)) := ⟨_, rfl⟩
                                              rw [← hm2] at H
                                              have HM2 := Aside0.mk hm2
                                              clear hm2
                                              have H' := Aside0.mk H
                                              clear H
                                              try go_wp2
                                              replace HO_6 := Aside0.mk (Kd.S_drew HO_6.out)
                                              replace HO_12 := Aside0.mk (Kd.R_drew HO_12.out)
                                              replace HB := Aside0.mk (below_drew1 HB.out)
                                              obtain ⟨g_, b, cb, eA, hx, hn, hf, hgb, ⟨cells2, hcb⟩, hput⟩ := solve_clear.put HO_6.out kk x114 Pc40.out (by rw [HLEN.out]; exact Pc41.out) Pc51.out Pc52.out
                                              cases eA
                                              have HGB := Aside0.mk hgb
                                              have HCB := Aside0.mk hcb
                                              have HS1 := Aside0.mk (hput t138)
                                              rw [← HM2.out] at HS1
                                              clear hput hgb hcb
                                              refine start_ (n := 16) (S := fun w' => w'.cell? ⟨g, kk.toNat, none⟩ = some (.slice (some ⟨b, 0, none⟩) (rd_L1 m kk).length cb) ∧ w'.cell? ⟨b, x114.toNat, none⟩ = some (.int .u64 (rd (rd_L1 m kk) x114))) (ds := [15]) #[false, false, false, false, false, false, false, false, false, false, false, false, false, false, false, false] (by kernel_rfl) rfl rfl ⟨hx, hn⟩ (fun hHeld => ?_); refine with_tabW solve_clear.tab27 solve_clear.bits27 (fun HT_ HW_ => ?_)
                                              generalize wr.drew = w22 at HO_6 HO_12 HB hx hn hf HS1 HCB hHeld ⊢
                                              refine pure_ (i := 0) (N := some 117) (v := ?_) (a' := ?_) #[true, false, false, false, false, false, false, false, false, false, false, false, false, false, false, false] rfl rfl (any_of HT_.out (by kernel_rfl)) (fun _ _ _ h => h) (Or.inl ⟨by rfl, ?_⟩) ?_ ?_
                                              rotate_left
                                              · intro w'
                                                go_simp
                                                with_reducible rfl
                                              rotate_left
                                              · simp only [Act.put, List.setIfInBounds_toArray, List.set_cons_zero, List.set_cons_succ, i64_w, i32_w]
                                                rfl
                                              refine pure_ (i := 1) (N := some 118) (v := ?_) (a' := ?_) #[true, true, false, false, false, false, false, false, false, false, false, false, false, false, false, false] rfl rfl (any_of HT_.out (by kernel_rfl)) (fun _ _ _ h => h) (Or.inl ⟨by rfl, ?_⟩) ?_ ?_
                                              rotate_left
                                              · intro w'
                                                go_simp
                                                with_reducible rfl
                                              rotate_left
                                              · simp only [Act.put, List.setIfInBounds_toArray, List.set_cons_zero, List.set_cons_succ, i64_w, i32_w]
                                                rfl
                                              refine pure_ (i := 2) (N := some 119) (v := ?_) (a' := ?_) #[true, true, true, false, false, false, false, false, false, false, false, false, false, false, false, false] rfl rfl (any_of HT_.out (by kernel_rfl)) (fun _ _ _ h => h) (Or.inl ⟨by rfl, ?_⟩) ?_ ?_
                                              rotate_left
                                              · intro w'
                                                go_simp
                                                with_reducible rfl
                                              rotate_left
                                              · simp only [Act.put, List.setIfInBounds_toArray, List.set_cons_zero, List.set_cons_succ, i64_w, i32_w]
                                                rfl
                                              refine pure_ (i := 4) (N := some 121) (v := ?_) (a' := ?_) #[true, true, true, false, true, false, false, false, false, false, false, false, false, false, false, false] rfl rfl (any_of HT_.out (by kernel_rfl)) (fun _ _ _ h => h) (Or.inl ⟨by rfl, ?_⟩) ?_ ?_
                                              rotate_left
                                              · intro w'
                                                go_simp
                                                with_reducible rfl
                                              rotate_left
                                              · simp only [Act.put, List.setIfInBounds_toArray, List.set_cons_zero, List.set_cons_succ, i64_w, i32_w]
                                                rfl
                                              refine pure_ (i := 5) (N := some 122) (v := ?_) (a' := ?_) #[true, true, true, false, true, true, false, false, false, false, false, false, false, false, false, false] rfl rfl (any_of HT_.out (by kernel_rfl)) (fun _ _ _ h => h) (Or.inl ⟨by rfl, ?_⟩) ?_ ?_
                                              rotate_left
                                              · intro w'
                                                go_simp
                                                with_reducible rfl
                                              rotate_left
                                              · simp only [Act.put, List.setIfInBounds_toArray, List.set_cons_zero, List.set_cons_succ, i64_w, i32_w]
                                                rfl
                                              refine pure_ (i := 6) (N := some 123) (v := ?_) (a' := ?_) #[true, true, true, false, true, true, true, false, false, false, false, false, false, false, false, false] rfl rfl (any_of HT_.out (by kernel_rfl)) (fun _ _ _ h => h) (Or.inl ⟨by rfl, ?_⟩) ?_ ?_
                                              rotate_left
                                              · intro w'
                                                go_simp
                                                with_reducible rfl
                                              rotate_left
                                              · simp only [Act.put, List.setIfInBounds_toArray, List.set_cons_zero, List.set_cons_succ, i64_w, i32_w]
                                                rfl
                                              refine pure_ (i := 7) (N := some 124) (v := ?_) (a' := ?_) #[true, true, true, false, true, true, true, true, false, false, false, false, false, false, false, false] rfl rfl (any_of HT_.out (by kernel_rfl)) (fun _ _ _ h => h) (Or.inl ⟨by rfl, ?_⟩) ?_ ?_
                                              rotate_left
                                              · intro w'
                                                go_simp
                                                with_reducible rfl
                                              rotate_left
                                              · simp only [Act.put, List.setIfInBounds_toArray, List.set_cons_zero, List.set_cons_succ, i64_w, i32_w]
                                                rfl
                                              refine pure_ (i := 9) (N := some 126) (v := ?_) (a' := ?_) #[true, true, true, false, true, true, true, true, false, true, false, false, false, false, false, false] rfl rfl (any_of HT_.out (by kernel_rfl)) (fun _ _ _ h => h) (Or.inl ⟨by rfl, ?_⟩) ?_ ?_
                                              rotate_left
                                              · intro w'
                                                go_simp
                                                with_reducible rfl
                                              rotate_left
                                              · simp only [Act.put, List.setIfInBounds_toArray, List.set_cons_zero, List.set_cons_succ, i64_w, i32_w]
                                                rfl
                                              refine pure_ (i := 12) (N := some 129) (v := ?_) (a' := ?_) #[true, true, true, false, true, true, true, true, false, true, false, false, true, false, false, false] rfl rfl (any_of HT_.out (by kernel_rfl)) (fun _ _ _ h => h) (Or.inl ⟨by rfl, ?_⟩) ?_ ?_
                                              rotate_left
                                              · intro w'
                                                go_simp
                                                with_reducible rfl
                                              rotate_left
                                              · simp only [Act.put, List.setIfInBounds_toArray, List.set_cons_zero, List.set_cons_succ, i64_w, i32_w]
                                                rfl
                                              refine take_ (i := 3) (N := some 120) (v := ?_) (a' := ?_) #[true, true, true, true, true, true, true, true, false, true, false, false, true, false, false, false] rfl rfl (take_ofW HT_.out HW_.out (by kernel_rfl)) (fun _ _ _ h => h) (Or.inl ⟨by rfl, ?_⟩) hHeld ?_ ?_
                                              rotate_left
                                              · rintro w' ⟨s0, s1⟩
                                                go_simp
                                                with_reducible rfl
                                              rotate_left
                                              · simp only [Act.put, List.setIfInBounds_toArray, List.set_cons_zero, List.set_cons_succ, i64_w, i32_w]
                                                rfl
                                              refine take_ (i := 8) (N := some 125) (v := ?_) (a' := ?_) #[true, true, true, true, true, true, true, true, true, true, false, false, true, false, false, false] rfl rfl (take_ofW HT_.out HW_.out (by kernel_rfl)) (fun _ _ _ h => h) (Or.inl ⟨by rfl, ?_⟩) hHeld ?_ ?_
                                              rotate_left
                                              · rintro w' ⟨s0, s1⟩
                                                go_simp
                                                with_reducible rfl
                                              rotate_left
                                              · simp only [Act.put, List.setIfInBounds_toArray, List.set_cons_zero, List.set_cons_succ, i64_w, i32_w]
                                                rfl
                                              refine pure_ (i := 10) (N := some 127) (v := ?_) (a' := ?_) #[true, true, true, true, true, true, true, true, true, true, true, false, true, false, false, false] rfl rfl (any_of HT_.out (by kernel_rfl)) (fun _ _ _ h => h) (Or.inl ⟨by rfl, ?_⟩) ?_ ?_
                                              rotate_left
                                              · intro w'
                                                go_simp
                                                with_reducible rfl
                                              rotate_left
                                              · simp only [Act.put, List.setIfInBounds_toArray, List.set_cons_zero, List.set_cons_succ, i64_w, i32_w]
                                                rfl
                                              refine take_ (i := 11) (N := some 128) (v := ?_) (a' := ?_) #[true, true, true, true, true, true, true, true, true, true, true, true, true, false, false, false] rfl rfl (take_ofW HT_.out HW_.out (by kernel_rfl)) (fun _ _ _ h => h) (Or.inl ⟨by rfl, ?_⟩) hHeld ?_ ?_
                                              rotate_left
                                              · rintro w' ⟨s0, s1⟩
                                                go_simp
                                                with_reducible rfl
                                              rotate_left
                                              · simp only [Act.put, List.setIfInBounds_toArray, List.set_cons_zero, List.set_cons_succ, i64_w, i32_w]
                                                rfl
                                              refine one_ (i := 13) (N := some 130) #[true, true, true, true, true, true, true, true, true, true, true, true, true, true, false, false] rfl rfl (one_of HT_.out (by kernel_rfl)) (by decide) (fun K hK => ?_)
                                              refine goes_ Try.func27 (by kernel_rfl) rfl #[.int .u64 (rd (rd_L1 m kk) x114), .int .u64 t132] (by rfl) rfl rfl (by (try simp only [List.map_toArray, List.map_cons, List.map_nil]); first | done | rfl | (simp only [List.length_drop, List.length_take]; rfl)) ?_
                                              with_reducible refine (field_Mul.calls (rd (rd_L1 m kk) x114) t132 t138 _ A51.out).mono ?_
                                              rintro e w' ⟨rfl, ⟨nd, rfl⟩⟩
                                              refine ⟨_, rfl, ?_⟩
                                              refine hK.out _ _ ⟨hHeld.1, hHeld.2⟩ (fun hHeld => ?_)
                                              clear hK K
                                              refine norm_ (a' := ?_) ?_ ?_
                                              rotate_left
                                              · show Act.put _ (some 130) _ = _
                                                simp only [Act.put, List.setIfInBounds_toArray, List.set_cons_zero, List.set_cons_succ, i64_w, i32_w]
                                                rfl
                                              refine pure_ (i := 14) (N := some 131) (v := ?_) (a' := ?_) #[true, true, true, true, true, true, true, true, true, true, true, true, true, true, true, false] rfl rfl (any_of HT_.out (by kernel_rfl)) (fun _ _ _ h => h) (Or.inl ⟨by rfl, ?_⟩) ?_ ?_
                                              rotate_left
                                              · intro w'
                                                go_simp
                                                with_reducible rfl
                                              rotate_left
                                              · simp only [Act.put, List.setIfInBounds_toArray, List.set_cons_zero, List.set_cons_succ, i64_w, i32_w]
                                                rfl
                                              have hf_ : (w22.drewN nd).frozen? ⟨b, x114.toNat, none⟩ = false := hf
                                              have hn_ : (w22.drewN nd).cell? ⟨b, x114.toNat, none⟩ = some (.int .u64 (rd (rd_L1 m kk) x114)) := hn
                                              refine last_ (i := 15) (N := none) #[true, true, true, true, true, true, true, true, true, true, true, true, true, true, true, true] rfl rfl (one_of HT_.out (by kernel_rfl)) (by decide) (fun K hK => ?_)
                                              refine skip_ (w1 := ?_) (by rfl) rfl ?_ ?_
                                              rotate_left
                                              · go_simp
                                                rfl
                                              refine hK.out _ _ ?_
                                              clear hK K
                                              refine done_ (done_of HT_.out (by kernel_rfl)) ?_
                                              replace HO_12 := Aside0.mk (Kd.R_set HO_12.out HCB.out (by decide) x114.toNat (.int .u64 t138))
                                              clear HO_6
                                              have HO_6 := HS1
                                              clear HS1
                                              try go_wp2
                                              go_roundg k5
                                              case measure => have := HK1.out; have := HK2.out; have := HJ20.out; have := HJ25.out; have := HK5.out; omega
                                              case rel => exact ⟨m2, (wrap64 (x114 + 1)), (by first | rfl | (simp; done) | (simp [*]; done)), ⟨by rw [HM2.out, List.length_set]; exact HLEN.out⟩, H', ⟨by have := HK1.out; have := HK2.out; have := HJ20.out; have := HJ25.out; have := HK5.out; omega⟩, ⟨by (with_reducible repeat (first | apply Kd.S_alloc | apply Kd.S_drewN | apply Kd.S_drew)); exact HO_6.out⟩, ⟨by (with_reducible repeat (first | apply Kd.R_alloc | apply Kd.R_drewN | apply Kd.R_drew)); exact HO_12.out⟩, ⟨by repeat (first | (with_reducible first | exact HB.out | apply below_alloc | apply pw_below_drewN | apply below_drew1 | refine below_set ?_ HGB.out) | exact HB.out)⟩⟩
                                            · rw [if_neg c52] at H
                                              exact absurd H (by simp)
                                          · rw [if_neg c51] at H
                                            exact absurd H (by simp)
                                        · rw [if_neg c50] at H
                                          have c50b0 : decide (x114 < ((rd_L1 M kk).length : Int)) = false := decide_eq_false c50
                                          clear c50
                                          have H' := Aside0.mk H
                                          clear H
                                          go_wp2
                                          repeat (go_quiet (fail); try go_wp2)
                                          go_loopg [135] k5 (fun kq v135 w' => ∃ (m : List (List Int)) (x135 : Int), v135 = .int .i64 x135 ∧ Aside0 (m.length = x6_1.length) ∧ Aside0 (solve_clear.l5 kq a1 m x12_2 x13_2 kk (x6_1.length : Int) x135 = some (r1, r2)) ∧ Aside0 (kq ≤ k5) ∧ Aside0 (Kd.S (Kd.slice 36 (Kd.int .u64)) 30 w' w.heap.size (fun _ => True) (.slice (some ⟨g, 0, none⟩) x6_1.length co6) m) ∧ Aside0 (Kd.R (Kd.int .i64) 3 w' w.heap.size (fun _ => True) (.slice Ao27 x12_2.length co27) x12_2) ∧ Aside0 (Below w.heap.size w w'))
                                          case atStart => exact ⟨m, 0, (by first | rfl | (simp; done) | (simp [*]; done)), HLEN, H', ⟨Nat.le_refl _⟩, ⟨by (with_reducible repeat (first | apply Kd.S_alloc | apply Kd.S_drewN | apply Kd.S_drew)); exact HO_6.out⟩, ⟨by (with_reducible repeat (first | apply Kd.R_alloc | apply Kd.R_drewN | apply Kd.R_drew)); exact HO_12.out⟩, ⟨by repeat (first | (with_reducible first | exact HB.out | apply below_alloc | apply pw_below_drewN | apply below_drew1) | exact HB.out)⟩⟩
                                          case round =>
                                            clear H' HO_6 HO_12 HB HLEN
                                            clear m
                                            obtain ⟨m, x135, rfl, HLEN, HA, HK6, HO_6, HO_12, HB⟩ := hrel
                                            cases gk with
                                            | zero => exact absurd HA.out (by simp [solve_clear.l5])
                                            | succ k6 =>
                                              have H := HA.out
                                              clear HA
                                              simp only [solve_clear.l5] at H
                                              rw [HLEN.out] at H
                                              by_cases c60 : x135 < (x6_1.length : Int)
                                              · rw [if_pos c60] at H
                                                have c60b0 : decide (x135 < (x6_1.length : Int)) = true := decide_eq_true c60
                                                have Pc60 := Aside0.mk c60
                                                replace c60 := eq_true c60
                                                by_cases c61 : x135 = kk
                                                · rw [if_pos c61] at H
                                                  have c61b0 : (x135 == kk) = true := beq_iff_eq.mpr c61
                                                  have c61b1 : (x135 != kk) = false := bne_eq_false_iff_eq.mpr c61
                                                  clear c61
                                                  cases k6 with
                                                  | zero => exact absurd H (by simp [solve_clear.j8])
                                                  | succ k7 =>
                                                    simp only [solve_clear.j8] at H
                                                    first | rw [if_pos rfl] at H | rw [if_pos trivial] at H
                                                    have H' := Aside0.mk H
                                                    clear H
                                                    go_wp2
                                                    repeat (go_quiet (fail); try go_wp2)
                                                    go_roundg k7
                                                    case measure => have := HK1.out; have := HK2.out; have := HJ20.out; have := HJ25.out; have := HK5.out; have := HK6.out; omega
                                                    case rel => exact ⟨m, (wrap64 (x135 + 1)), (by first | rfl | (simp; done) | (simp [*]; done)), HLEN, H', ⟨by have := HK1.out; have := HK2.out; have := HJ20.out; have := HJ25.out; have := HK5.out; have := HK6.out; omega⟩, ⟨by (with_reducible repeat (first | apply Kd.S_alloc | apply Kd.S_drewN | apply Kd.S_drew)); exact HO_6.out⟩, ⟨by (with_reducible repeat (first | apply Kd.R_alloc | apply Kd.R_drewN | apply Kd.R_drew)); exact HO_12.out⟩, ⟨by repeat (first | (with_reducible first | exact HB.out | apply below_alloc | apply pw_below_drewN | apply below_drew1) | exact HB.out)⟩⟩
                                                · rw [if_neg c61] at H
                                                  have c61b0 : (x135 == kk) = false := beq_eq_false_iff_ne.mpr c61
                                                  have c61b1 : (x135 != kk) = true := bne_iff_ne.mpr c61
                                                  clear c61
                                                  by_cases c62 : 0 ≤ x135
                                                  · rw [if_pos c62] at H
                                                    have c62b0 : decide (0 ≤ x135) = true := decide_eq_true c62
                                                    have Pc62 := Aside0.mk c62
                                                    replace c62 := eq_true c62
                                                    rw [if_pos Pc60.out, if_pos Pc42.out] at H
                                                    by_cases c63 : x13_2 < ((rd_L1 m x135).length : Int)
                                                    · rw [if_pos c63] at H
                                                      have c63b0 : decide (x13_2 < ((rd_L1 m x135).length : Int)) = true := decide_eq_true c63
                                                      have Pc63 := Aside0.mk c63
                                                      replace c63 := eq_true c63
                                                      obtain ⟨g_, A3, c3_, eA, hx3, hC3⟩ := solve_clear.row HO_6.out x135 Pc62.out (by rw [HLEN.out]; exact Pc60.out)
                                                      cases eA
                                                      obtain ⟨ad3, eA3, hn3⟩ := solve_clear.num hC3 x13_2 Pc42.out Pc63.out
                                                      cases eA3
                                                      clear hC3
                                                      by_cases c64 : (rd (rd_L1 m x135) x13_2) = 0
                                                      · have c64b0 : ((rd (rd_L1 m x135) x13_2) == 0) = true := beq_iff_eq.mpr c64
                                                        have c64b1 : ((rd (rd_L1 m x135) x13_2) != 0) = false := bne_eq_false_iff_eq.mpr c64
                                                        rw [c64b0] at H
                                                        clear c64
                                                        cases k6 with
                                                        | zero => exact absurd H (by simp [solve_clear.j8])
                                                        | succ k7 =>
                                                          simp only [solve_clear.j8] at H
                                                          first | rw [if_pos rfl] at H | rw [if_pos trivial] at H
                                                          have H' := Aside0.mk H
                                                          clear H
                                                          go_wp2
                                                          repeat (go_quiet (fail); try go_wp2)
                                                          go_roundg k7
                                                          case measure => have := HK1.out; have := HK2.out; have := HJ20.out; have := HJ25.out; have := HK5.out; have := HK6.out; omega
                                                          case rel => exact ⟨m, (wrap64 (x135 + 1)), (by first | rfl | (simp; done) | (simp [*]; done)), HLEN, H', ⟨by have := HK1.out; have := HK2.out; have := HJ20.out; have := HJ25.out; have := HK5.out; have := HK6.out; omega⟩, ⟨by (with_reducible repeat (first | apply Kd.S_alloc | apply Kd.S_drewN | apply Kd.S_drew)); exact HO_6.out⟩, ⟨by (with_reducible repeat (first | apply Kd.R_alloc | apply Kd.R_drewN | apply Kd.R_drew)); exact HO_12.out⟩, ⟨by repeat (first | (with_reducible first | exact HB.out | apply below_alloc | apply pw_below_drewN | apply below_drew1) | exact HB.out)⟩⟩
                                                      · have c64b0 : ((rd (rd_L1 m x135) x13_2) == 0) = false := beq_eq_false_iff_ne.mpr c64
                                                        have c64b1 : ((rd (rd_L1 m x135) x13_2) != 0) = true := bne_iff_ne.mpr c64
                                                        rw [c64b0] at H
                                                        clear c64
                                                        cases k6 with
                                                        | zero => exact absurd H (by simp [solve_clear.j8])
                                                        | succ k7 =>
                                                          simp only [solve_clear.j8] at H
                                                          rw [if_neg (show ¬ (false = true) by decide), if_pos Pc62.out, HLEN.out, if_pos Pc60.out, if_pos Pc42.out, if_pos Pc63.out] at H
                                                          obtain ⟨F, hF⟩ : ∃ F_ : Int, F_ = rd (rd_L1 m x135) x13_2 := ⟨_, rfl⟩
                                                          rw [← hF] at H hn3 c64b0 c64b1
                                                          clear hF
                                                          obtain ⟨LR, hLR⟩ : ∃ L_ : Nat, L_ = (rd_L1 m x135).length := ⟨_, rfl⟩
                                                          rw [← hLR] at H hx3 Pc63 c63 c63b0
                                                          clear hLR
                                                          have H' := Aside0.mk H
                                                          clear H
                                                          go_wp2
                                                          repeat (go_quiet (fail); try go_wp2)
                                                          go_loopg [163] k7 (fun kq v163 w' => ∃ (m : List (List Int)) (x163 : Int), v163 = .int .i64 x163 ∧ Aside0 (m.length = x6_1.length) ∧ Aside0 (solve_clear.l6 kq a1 m x12_2 x13_2 kk x135 F (x6_1.length : Int) x135 (LR : Int) x163 = some (r1, r2)) ∧ Aside0 (kq ≤ k7) ∧ Aside0 (Kd.S (Kd.slice 36 (Kd.int .u64)) 30 w' w.heap.size (fun _ => True) (.slice (some ⟨g, 0, none⟩) x6_1.length co6) m) ∧ Aside0 (Kd.R (Kd.int .i64) 3 w' w.heap.size (fun _ => True) (.slice Ao27 x12_2.length co27) x12_2) ∧ Aside0 (Below w.heap.size w w'))
                                                          case atStart => exact ⟨m, 0, (by first | rfl | (simp; done) | (simp [*]; done)), HLEN, H', ⟨Nat.le_refl _⟩, ⟨by (with_reducible repeat (first | apply Kd.S_alloc | apply Kd.S_drewN | apply Kd.S_drew)); exact HO_6.out⟩, ⟨by (with_reducible repeat (first | apply Kd.R_alloc | apply Kd.R_drewN | apply Kd.R_drew)); exact HO_12.out⟩, ⟨by repeat (first | (with_reducible first | exact HB.out | apply below_alloc | apply pw_below_drewN | apply below_drew1) | exact HB.out)⟩⟩
                                                          case round =>
                                                            clear H' HO_6 HO_12 HB HLEN hx3 hn3 c63 c63b0 Pc63
                                                            clear m
                                                            obtain ⟨m, x163, rfl, HLEN, HA, HK8, HO_6, HO_12, HB⟩ := hrel
                                                            cases gk with
                                                            | zero => exact absurd HA.out (by simp [solve_clear.l6])
                                                            | succ k8 =>
                                                              have H := HA.out
                                                              clear HA
                                                              simp only [solve_clear.l6] at H
                                                              rw [HLEN.out] at H
                                                              by_cases c70 : x163 < (LR : Int)
                                                              · rw [if_pos c70] at H
                                                                have c70b0 : decide (x163 < (LR : Int)) = true := decide_eq_true c70
                                                                replace c70 := eq_true c70
                                                                rw [if_pos Pc62.out, if_pos Pc60.out] at H
                                                                by_cases c71 : 0 ≤ x163
                                                                · rw [if_pos c71] at H
                                                                  have c71b0 : decide (0 ≤ x163) = true := decide_eq_true c71
                                                                  have Pc71 := Aside0.mk c71
                                                                  replace c71 := eq_true c71
                                                                  by_cases c72 : x163 < ((rd_L1 m x135).length : Int)
                                                                  · rw [if_pos c72] at H
                                                                    have c72b0 : decide (x163 < ((rd_L1 m x135).length : Int)) = true := decide_eq_true c72
                                                                    have Pc72 := Aside0.mk c72
                                                                    replace c72 := eq_true c72
                                                                    rw [if_pos Pc40.out, if_pos Pc41.out] at H
                                                                    by_cases c73 : x163 < ((rd_L1 m kk).length : Int)
                                                                    · rw [if_pos c73] at H
                                                                      have c73b0 : decide (x163 < ((rd_L1 m kk).length : Int)) = true := decide_eq_true c73
                                                                      have Pc73 := Aside0.mk c73
                                                                      replace c73 := eq_true c73
                                                                      replace H := Option.bind_eq_some_iff.mp H
                                                                      obtain ⟨t152, A0, H⟩ := H
                                                                      have A72 := Aside0.mk A0
                                                                      clear A0
                                                                      replace H := Option.bind_eq_some_iff.mp H
                                                                      obtain ⟨t153, A0, H⟩ := H
                                                                      have A73 := Aside0.mk A0
                                                                      clear A0
                                                                      obtain ⟨m2, hm2⟩ : ∃ m_ : List (List Int), m_ = (m.set x135.toNat ((rd_L1 m x135).set x163.toNat t153)) := ⟨_, rfl⟩
                                                                      rw [← hm2] at H
                                                                      have HM2 := Aside0.mk hm2
                                                                      clear hm2
                                                                      have H' := Aside0.mk H
                                                                      clear H
                                                                      try go_wp2
                                                                      replace HO_6 := Aside0.mk (Kd.S_drew HO_6.out)
                                                                      replace HO_12 := Aside0.mk (Kd.R_drew HO_12.out)
                                                                      replace HB := Aside0.mk (below_drew1 HB.out)
                                                                      obtain ⟨g_, A4, c4_, eA, hx4, hC4⟩ := solve_clear.row HO_6.out kk Pc40.out (by rw [HLEN.out]; exact Pc41.out)
                                                                      cases eA
                                                                      obtain ⟨ad4, eA4, hn4⟩ := solve_clear.num hC4 x163 Pc71.out Pc73.out
                                                                      cases eA4
                                                                      clear hC4
                                                                      obtain ⟨g_, b, cb, eA, hx, hn, hf, hgb, ⟨cells2, hcb⟩, hput⟩ := solve_clear.put HO_6.out x135 x163 Pc62.out (by rw [HLEN.out]; exact Pc60.out) Pc71.out Pc72.out
                                                                      cases eA
                                                                      have HGB := Aside0.mk hgb
                                                                      have HCB := Aside0.mk hcb
                                                                      have HS1 := Aside0.mk (hput t153)
                                                                      rw [← HM2.out] at HS1
                                                                      clear hput hgb hcb
                                                                      refine start_ (n := 24) (S := fun w' => w'.cell? ⟨g, x135.toNat, none⟩ = some (.slice (some ⟨b, 0, none⟩) (rd_L1 m x135).length cb) ∧ w'.cell? ⟨b, x163.toNat, none⟩ = some (.int .u64 (rd (rd_L1 m x135) x163)) ∧ w'.cell? ⟨g, kk.toNat, none⟩ = some (.slice (some ad4) (rd_L1 m kk).length c4_) ∧ w'.cell? (ad4.add x163.toNat) = some (.int .u64 (rd (rd_L1 m kk) x163))) (ds := [23]) #[false, false, false, false, false, false, false, false, false, false, false, false, false, false, false, false, false, false, false, false, false, false, false, false] (by kernel_rfl) rfl rfl ⟨hx, hn, hx4, hn4⟩ (fun hHeld => ?_); refine with_tabW solve_clear.tab37 solve_clear.bits37 (fun HT_ HW_ => ?_)
                                                                      generalize wr.drew = w22 at HO_6 HO_12 HB hx hn hf hx4 hn4 HS1 HCB hHeld ⊢
                                                                      refine pure_ (i := 0) (N := some 166) (v := ?_) (a' := ?_) #[true, false, false, false, false, false, false, false, false, false, false, false, false, false, false, false, false, false, false, false, false, false, false, false] rfl rfl (any_of HT_.out (by kernel_rfl)) (fun _ _ _ h => h) (Or.inl ⟨by rfl, ?_⟩) ?_ ?_
                                                                      rotate_left
                                                                      · intro w'
                                                                        go_simp
                                                                        with_reducible rfl
                                                                      rotate_left
                                                                      · simp only [Act.put, List.setIfInBounds_toArray, List.set_cons_zero, List.set_cons_succ, i64_w, i32_w]
                                                                        rfl
                                                                      refine pure_ (i := 1) (N := some 167) (v := ?_) (a' := ?_) #[true, true, false, false, false, false, false, false, false, false, false, false, false, false, false, false, false, false, false, false, false, false, false, false] rfl rfl (any_of HT_.out (by kernel_rfl)) (fun _ _ _ h => h) (Or.inl ⟨by rfl, ?_⟩) ?_ ?_
                                                                      rotate_left
                                                                      · intro w'
                                                                        go_simp
                                                                        with_reducible rfl
                                                                      rotate_left
                                                                      · simp only [Act.put, List.setIfInBounds_toArray, List.set_cons_zero, List.set_cons_succ, i64_w, i32_w]
                                                                        rfl
                                                                      refine pure_ (i := 2) (N := some 168) (v := ?_) (a' := ?_) #[true, true, true, false, false, false, false, false, false, false, false, false, false, false, false, false, false, false, false, false, false, false, false, false] rfl rfl (any_of HT_.out (by kernel_rfl)) (fun _ _ _ h => h) (Or.inl ⟨by rfl, ?_⟩) ?_ ?_
                                                                      rotate_left
                                                                      · intro w'
                                                                        go_simp
                                                                        with_reducible rfl
                                                                      rotate_left
                                                                      · simp only [Act.put, List.setIfInBounds_toArray, List.set_cons_zero, List.set_cons_succ, i64_w, i32_w]
                                                                        rfl
                                                                      refine pure_ (i := 4) (N := some 170) (v := ?_) (a' := ?_) #[true, true, true, false, true, false, false, false, false, false, false, false, false, false, false, false, false, false, false, false, false, false, false, false] rfl rfl (any_of HT_.out (by kernel_rfl)) (fun _ _ _ h => h) (Or.inl ⟨by rfl, ?_⟩) ?_ ?_
                                                                      rotate_left
                                                                      · intro w'
                                                                        go_simp
                                                                        with_reducible rfl
                                                                      rotate_left
                                                                      · simp only [Act.put, List.setIfInBounds_toArray, List.set_cons_zero, List.set_cons_succ, i64_w, i32_w]
                                                                        rfl
                                                                      refine pure_ (i := 5) (N := some 171) (v := ?_) (a' := ?_) #[true, true, true, false, true, true, false, false, false, false, false, false, false, false, false, false, false, false, false, false, false, false, false, false] rfl rfl (any_of HT_.out (by kernel_rfl)) (fun _ _ _ h => h) (Or.inl ⟨by rfl, ?_⟩) ?_ ?_
                                                                      rotate_left
                                                                      · intro w'
                                                                        go_simp
                                                                        with_reducible rfl
                                                                      rotate_left
                                                                      · simp only [Act.put, List.setIfInBounds_toArray, List.set_cons_zero, List.set_cons_succ, i64_w, i32_w]
                                                                        rfl
                                                                      refine pure_ (i := 6) (N := some 172) (v := ?_) (a' := ?_) #[true, true, true, false, true, true, true, false, false, false, false, false, false, false, false, false, false, false, false, false, false, false, false, false] rfl rfl (any_of HT_.out (by kernel_rfl)) (fun _ _ _ h => h) (Or.inl ⟨by rfl, ?_⟩) ?_ ?_
                                                                      rotate_left
                                                                      · intro w'
                                                                        go_simp
                                                                        with_reducible rfl
                                                                      rotate_left
                                                                      · simp only [Act.put, List.setIfInBounds_toArray, List.set_cons_zero, List.set_cons_succ, i64_w, i32_w]
                                                                        rfl
                                                                      refine pure_ (i := 7) (N := some 173) (v := ?_) (a' := ?_) #[true, true, true, false, true, true, true, true, false, false, false, false, false, false, false, false, false, false, false, false, false, false, false, false] rfl rfl (any_of HT_.out (by kernel_rfl)) (fun _ _ _ h => h) (Or.inl ⟨by rfl, ?_⟩) ?_ ?_
                                                                      rotate_left
                                                                      · intro w'
                                                                        go_simp
                                                                        with_reducible rfl
                                                                      rotate_left
                                                                      · simp only [Act.put, List.setIfInBounds_toArray, List.set_cons_zero, List.set_cons_succ, i64_w, i32_w]
                                                                        rfl
                                                                      refine pure_ (i := 9) (N := some 175) (v := ?_) (a' := ?_) #[true, true, true, false, true, true, true, true, false, true, false, false, false, false, false, false, false, false, false, false, false, false, false, false] rfl rfl (any_of HT_.out (by kernel_rfl)) (fun _ _ _ h => h) (Or.inl ⟨by rfl, ?_⟩) ?_ ?_
                                                                      rotate_left
                                                                      · intro w'
                                                                        go_simp
                                                                        with_reducible rfl
                                                                      rotate_left
                                                                      · simp only [Act.put, List.setIfInBounds_toArray, List.set_cons_zero, List.set_cons_succ, i64_w, i32_w]
                                                                        rfl
                                                                      refine pure_ (i := 12) (N := some 178) (v := ?_) (a' := ?_) #[true, true, true, false, true, true, true, true, false, true, false, false, true, false, false, false, false, false, false, false, false, false, false, false] rfl rfl (any_of HT_.out (by kernel_rfl)) (fun _ _ _ h => h) (Or.inl ⟨by rfl, ?_⟩) ?_ ?_
                                                                      rotate_left
                                                                      · intro w'
                                                                        go_simp
                                                                        with_reducible rfl
                                                                      rotate_left
                                                                      · simp only [Act.put, List.setIfInBounds_toArray, List.set_cons_zero, List.set_cons_succ, i64_w, i32_w]
                                                                        rfl
                                                                      refine pure_ (i := 13) (N := some 179) (v := ?_) (a' := ?_) #[true, true, true, false, true, true, true, true, false, true, false, false, true, true, false, false, false, false, false, false, false, false, false, false] rfl rfl (any_of HT_.out (by kernel_rfl)) (fun _ _ _ h => h) (Or.inl ⟨by rfl, ?_⟩) ?_ ?_
                                                                      rotate_left
                                                                      · intro w'
                                                                        go_simp
                                                                        with_reducible rfl
                                                                      rotate_left
                                                                      · simp only [Act.put, List.setIfInBounds_toArray, List.set_cons_zero, List.set_cons_succ, i64_w, i32_w]
                                                                        rfl
                                                                      refine pure_ (i := 14) (N := some 180) (v := ?_) (a' := ?_) #[true, true, true, false, true, true, true, true, false, true, false, false, true, true, true, false, false, false, false, false, false, false, false, false] rfl rfl (any_of HT_.out (by kernel_rfl)) (fun _ _ _ h => h) (Or.inl ⟨by rfl, ?_⟩) ?_ ?_
                                                                      rotate_left
                                                                      · intro w'
                                                                        go_simp
                                                                        with_reducible rfl
                                                                      rotate_left
                                                                      · simp only [Act.put, List.setIfInBounds_toArray, List.set_cons_zero, List.set_cons_succ, i64_w, i32_w]
                                                                        rfl
                                                                      refine pure_ (i := 15) (N := some 181) (v := ?_) (a' := ?_) #[true, true, true, false, true, true, true, true, false, true, false, false, true, true, true, true, false, false, false, false, false, false, false, false] rfl rfl (any_of HT_.out (by kernel_rfl)) (fun _ _ _ h => h) (Or.inl ⟨by rfl, ?_⟩) ?_ ?_
                                                                      rotate_left
                                                                      · intro w'
                                                                        go_simp
                                                                        with_reducible rfl
                                                                      rotate_left
                                                                      · simp only [Act.put, List.setIfInBounds_toArray, List.set_cons_zero, List.set_cons_succ, i64_w, i32_w]
                                                                        rfl
                                                                      refine pure_ (i := 17) (N := some 183) (v := ?_) (a' := ?_) #[true, true, true, false, true, true, true, true, false, true, false, false, true, true, true, true, false, true, false, false, false, false, false, false] rfl rfl (any_of HT_.out (by kernel_rfl)) (fun _ _ _ h => h) (Or.inl ⟨by rfl, ?_⟩) ?_ ?_
                                                                      rotate_left
                                                                      · intro w'
                                                                        go_simp
                                                                        with_reducible rfl
                                                                      rotate_left
                                                                      · simp only [Act.put, List.setIfInBounds_toArray, List.set_cons_zero, List.set_cons_succ, i64_w, i32_w]
                                                                        rfl
                                                                      refine take_ (i := 3) (N := some 169) (v := ?_) (a' := ?_) #[true, true, true, true, true, true, true, true, false, true, false, false, true, true, true, true, false, true, false, false, false, false, false, false] rfl rfl (take_ofW HT_.out HW_.out (by kernel_rfl)) (fun _ _ _ h => h) (Or.inl ⟨by rfl, ?_⟩) hHeld ?_ ?_
                                                                      rotate_left
                                                                      · rintro w' ⟨s0, s1, s2, s3⟩
                                                                        go_simp
                                                                        with_reducible rfl
                                                                      rotate_left
                                                                      · simp only [Act.put, List.setIfInBounds_toArray, List.set_cons_zero, List.set_cons_succ, i64_w, i32_w]
                                                                        rfl
                                                                      refine take_ (i := 8) (N := some 174) (v := ?_) (a' := ?_) #[true, true, true, true, true, true, true, true, true, true, false, false, true, true, true, true, false, true, false, false, false, false, false, false] rfl rfl (take_ofW HT_.out HW_.out (by kernel_rfl)) (fun _ _ _ h => h) (Or.inl ⟨by rfl, ?_⟩) hHeld ?_ ?_
                                                                      rotate_left
                                                                      · rintro w' ⟨s0, s1, s2, s3⟩
                                                                        go_simp
                                                                        with_reducible rfl
                                                                      rotate_left
                                                                      · simp only [Act.put, List.setIfInBounds_toArray, List.set_cons_zero, List.set_cons_succ, i64_w, i32_w]
                                                                        rfl
                                                                      refine pure_ (i := 10) (N := some 176) (v := ?_) (a' := ?_) #[true, true, true, true, true, true, true, true, true, true, true, false, true, true, true, true, false, true, false, false, false, false, false, false] rfl rfl (any_of HT_.out (by kernel_rfl)) (fun _ _ _ h => h) (Or.inl ⟨by rfl, ?_⟩) ?_ ?_
                                                                      rotate_left
                                                                      · intro w'
                                                                        go_simp
                                                                        with_reducible rfl
                                                                      rotate_left
                                                                      · simp only [Act.put, List.setIfInBounds_toArray, List.set_cons_zero, List.set_cons_succ, i64_w, i32_w]
                                                                        rfl
                                                                      refine take_ (i := 11) (N := some 177) (v := ?_) (a' := ?_) #[true, true, true, true, true, true, true, true, true, true, true, true, true, true, true, true, false, true, false, false, false, false, false, false] rfl rfl (take_ofW HT_.out HW_.out (by kernel_rfl)) (fun _ _ _ h => h) (Or.inl ⟨by rfl, ?_⟩) hHeld ?_ ?_
                                                                      rotate_left
                                                                      · rintro w' ⟨s0, s1, s2, s3⟩
                                                                        go_simp
                                                                        with_reducible rfl
                                                                      rotate_left
                                                                      · simp only [Act.put, List.setIfInBounds_toArray, List.set_cons_zero, List.set_cons_succ, i64_w, i32_w]
                                                                        rfl
                                                                      refine take_ (i := 16) (N := some 182) (v := ?_) (a' := ?_) #[true, true, true, true, true, true, true, true, true, true, true, true, true, true, true, true, true, true, false, false, false, false, false, false] rfl rfl (take_ofW HT_.out HW_.out (by kernel_rfl)) (fun _ _ _ h => h) (Or.inl ⟨by rfl, ?_⟩) hHeld ?_ ?_
                                                                      rotate_left
                                                                      · rintro w' ⟨s0, s1, s2, s3⟩
                                                                        go_simp
                                                                        with_reducible rfl
                                                                      rotate_left
                                                                      · simp only [Act.put, List.setIfInBounds_toArray, List.set_cons_zero, List.set_cons_succ, i64_w, i32_w]
                                                                        rfl
                                                                      refine pure_ (i := 18) (N := some 184) (v := ?_) (a' := ?_) #[true, true, true, true, true, true, true, true, true, true, true, true, true, true, true, true, true, true, true, false, false, false, false, false] rfl rfl (any_of HT_.out (by kernel_rfl)) (fun _ _ _ h => h) (Or.inl ⟨by rfl, ?_⟩) ?_ ?_
                                                                      rotate_left
                                                                      · intro w'
                                                                        go_simp
                                                                        with_reducible rfl
                                                                      rotate_left
                                                                      · simp only [Act.put, List.setIfInBounds_toArray, List.set_cons_zero, List.set_cons_succ, i64_w, i32_w]
                                                                        rfl
                                                                      refine take_ (i := 19) (N := some 185) (v := ?_) (a' := ?_) #[true, true, true, true, true, true, true, true, true, true, true, true, true, true, true, true, true, true, true, true, false, false, false, false] rfl rfl (take_ofW HT_.out HW_.out (by kernel_rfl)) (fun _ _ _ h => h) (Or.inl ⟨by rfl, ?_⟩) hHeld ?_ ?_
                                                                      rotate_left
                                                                      · rintro w' ⟨s0, s1, s2, s3⟩
                                                                        go_simp
                                                                        with_reducible rfl
                                                                      rotate_left
                                                                      · simp only [Act.put, List.setIfInBounds_toArray, List.set_cons_zero, List.set_cons_succ, i64_w, i32_w]
                                                                        rfl
                                                                      refine one_ (i := 20) (N := some 186) #[true, true, true, true, true, true, true, true, true, true, true, true, true, true, true, true, true, true, true, true, true, false, false, false] rfl rfl (one_of HT_.out (by kernel_rfl)) (by decide) (fun K hK => ?_)
                                                                      refine goes_ Try.func27 (by kernel_rfl) rfl #[.int .u64 F, .int .u64 (rd (rd_L1 m kk) x163)] (by rfl) rfl rfl (by (try simp only [List.map_toArray, List.map_cons, List.map_nil]); first | done | rfl | (simp only [List.length_drop, List.length_take]; rfl)) ?_
                                                                      with_reducible refine (field_Mul.calls F (rd (rd_L1 m kk) x163) t152 _ A72.out).mono ?_
                                                                      rintro e w' ⟨rfl, ⟨nd, rfl⟩⟩
                                                                      refine ⟨_, rfl, ?_⟩
                                                                      refine hK.out _ _ ⟨hHeld.1, hHeld.2.1, hHeld.2.2.1, hHeld.2.2.2⟩ (fun hHeld => ?_)
                                                                      clear hK K
                                                                      refine norm_ (a' := ?_) ?_ ?_
                                                                      rotate_left
                                                                      · show Act.put _ (some 186) _ = _
                                                                        simp only [Act.put, List.setIfInBounds_toArray, List.set_cons_zero, List.set_cons_succ, i64_w, i32_w]
                                                                        rfl
                                                                      refine one_ (i := 21) (N := some 187) #[true, true, true, true, true, true, true, true, true, true, true, true, true, true, true, true, true, true, true, true, true, true, false, false] rfl rfl (one_of HT_.out (by kernel_rfl)) (by decide) (fun K hK => ?_)
                                                                      refine goes_ Try.func32 (by kernel_rfl) rfl #[.int .u64 (rd (rd_L1 m x135) x163), .int .u64 t152] (by rfl) rfl rfl (by (try simp only [List.map_toArray, List.map_cons, List.map_nil]); first | done | rfl | (simp only [List.length_drop, List.length_take]; rfl)) ?_
                                                                      with_reducible refine (field_Sub.calls (rd (rd_L1 m x135) x163) t152 t153 _ A73.out).mono ?_
                                                                      rintro e w' ⟨rfl, ⟨nd, rfl⟩⟩
                                                                      refine ⟨_, rfl, ?_⟩
                                                                      refine hK.out _ _ ⟨hHeld.1, hHeld.2.1, hHeld.2.2.1, hHeld.2.2.2⟩ (fun hHeld => ?_)
                                                                      clear hK K
                                                                      refine norm_ (a' := ?_) ?_ ?_
                                                                      rotate_left
                                                                      · show Act.put _ (some 187) _ = _
                                                                        simp only [Act.put, List.setIfInBounds_toArray, List.set_cons_zero, List.set_cons_succ, i64_w, i32_w]
                                                                        rfl
                                                                      refine pure_ (i := 22) (N := some 188) (v := ?_) (a' := ?_) #[true, true, true, true, true, true, true, true, true, true, true, true, true, true, true, true, true, true, true, true, true, true, true, false] rfl rfl (any_of HT_.out (by kernel_rfl)) (fun _ _ _ h => h) (Or.inl ⟨by rfl, ?_⟩) ?_ ?_
                                                                      rotate_left
                                                                      · intro w'
                                                                        go_simp
                                                                        with_reducible rfl
                                                                      rotate_left
                                                                      · simp only [Act.put, List.setIfInBounds_toArray, List.set_cons_zero, List.set_cons_succ, i64_w, i32_w]
                                                                        rfl
                                                                      refine last_ (i := 23) (N := none) #[true, true, true, true, true, true, true, true, true, true, true, true, true, true, true, true, true, true, true, true, true, true, true, true] rfl rfl (one_of HT_.out (by kernel_rfl)) (by decide) (fun K hK => ?_)
                                                                      refine skip_ (w1 := ?_) (by rfl) rfl ?_ ?_
                                                                      rotate_left
                                                                      · go_simp
                                                                        rfl
                                                                      refine hK.out _ _ ?_
                                                                      clear hK K
                                                                      refine done_ (done_of HT_.out (by kernel_rfl)) ?_
                                                                      replace HO_12 := Aside0.mk (Kd.R_set HO_12.out HCB.out (by decide) x163.toNat (.int .u64 t153))
                                                                      clear HO_6
                                                                      have HO_6 := HS1
                                                                      clear HS1
                                                                      try go_wp2
                                                                      go_roundg k8
                                                                      case measure => have := HK1.out; have := HK2.out; have := HJ20.out; have := HJ25.out; have := HK5.out; have := HK6.out; have := HK8.out; omega
                                                                      case rel => exact ⟨m2, (wrap64 (x163 + 1)), (by first | rfl | (simp; done) | (simp [*]; done)), ⟨by rw [HM2.out, List.length_set]; exact HLEN.out⟩, H', ⟨by have := HK1.out; have := HK2.out; have := HJ20.out; have := HJ25.out; have := HK5.out; have := HK6.out; have := HK8.out; omega⟩, ⟨by (with_reducible repeat (first | apply Kd.S_alloc | apply Kd.S_drewN | apply Kd.S_drew)); exact HO_6.out⟩, ⟨by (with_reducible repeat (first | apply Kd.R_alloc | apply Kd.R_drewN | apply Kd.R_drew)); exact HO_12.out⟩, ⟨by repeat (first | (with_reducible first | exact HB.out | apply below_alloc | apply pw_below_drewN | apply below_drew1 | refine below_set ?_ HGB.out) | exact HB.out)⟩⟩
                                                                    · rw [if_neg c73] at H
                                                                      exact absurd H (by simp)
                                                                  · rw [if_neg c72] at H
                                                                    exact absurd H (by simp)
                                                                · rw [if_neg c71] at H
                                                                  exact absurd H (by simp)
                                                              · rw [if_neg c70] at H
                                                                have c70b0 : decide (x163 < (LR : Int)) = false := decide_eq_false c70
                                                                clear c70
                                                                have H' := Aside0.mk H
                                                                clear H
                                                                go_wp2
                                                                repeat (go_quiet (fail); try go_wp2)
                                                                go_roundg k8
                                                                case measure => have := HK1.out; have := HK2.out; have := HJ20.out; have := HJ25.out; have := HK5.out; have := HK6.out; have := HK8.out; omega
                                                                case rel => exact ⟨m, (wrap64 (x135 + 1)), (by first | rfl | (simp; done) | (simp [*]; done)), HLEN, H', ⟨by have := HK1.out; have := HK2.out; have := HJ20.out; have := HJ25.out; have := HK5.out; have := HK6.out; have := HK8.out; omega⟩, ⟨by (with_reducible repeat (first | apply Kd.S_alloc | apply Kd.S_drewN | apply Kd.S_drew)); exact HO_6.out⟩, ⟨by (with_reducible repeat (first | apply Kd.R_alloc | apply Kd.R_drewN | apply Kd.R_drew)); exact HO_12.out⟩, ⟨by repeat (first | (with_reducible first | exact HB.out | apply below_alloc | apply pw_below_drewN | apply below_drew1) | exact HB.out)⟩⟩
                                                    · rw [if_neg c63] at H
                                                      exact absurd H (by simp)
                                                  · rw [if_neg c62] at H
                                                    exact absurd H (by simp)
                                              · rw [if_neg c60] at H
                                                have c60b0 : decide (x135 < (x6_1.length : Int)) = false := decide_eq_false c60
                                                clear c60
                                                by_cases c74 : x12_2.length < 17592186044416
                                                · rw [if_pos c74] at H
                                                  have LMc74 := Aside0.mk c74
                                                  clear c74
                                                  obtain ⟨y142, hy142⟩ : ∃ y_ : List Int, y_ = (x12_2 ++ [x13_2]) := ⟨_, rfl⟩
                                                  replace H : (solve_clear.l2 k6 a1 m y142 (wrap64 (x13_2 + 1))) = some (r1, r2) := by first | (rw [hy142]; with_reducible exact H) | (have H2_ := (Option.bind_some _ _).symm.trans H; rw [hy142]; with_reducible exact H2_) | (have H2_ := (Option.bind_some _ _).symm.trans H; with_reducible exact H2_) | with_reducible exact H | (rw [hy142]; exact H) | exact H
                                                  have Ny142 := Aside0.mk hy142
                                                  clear hy142
                                                  have H' := Aside0.mk H
                                                  clear H
                                                  go_wp2_with (first | ((with_reducible refine gate_builtin (b := .append) (xs := #[.tmp 191, .tmp 193]) rfl ?_); (try (refine gate_guard (by rfl) ?_; dsimp only)); at_builtin; refine Kd.R_append (Kd.int .i64) (w0 := w) w.heap.size rfl (.tmp 191) (.tmp 193) 40 3 (.int .i64 0) 8 rfl Try.underlying40 solve_clear.info3 rfl (by decide) (by omega) (.slice Ao27 x12_2.length co27) x12_2 x13_2 [.int .i64 x13_2] (fun _ => True) (fun _ => False) rfl rfl ?aP (fun _ hk => hk.elim) ?aF ?aO ?aB ?aS ?aL ?_; (case aP => exact rfl); (case aB => exact (by repeat (first | (with_reducible first | exact HB.out | apply below_alloc | apply pw_below_drewN | apply below_drew1) | exact HB.out))); (case aF => exact (fun _ _ => trivial)); (case aO => exact (by (with_reducible repeat (first | apply Kd.R_alloc | apply Kd.R_drewN | apply Kd.R_drew)); exact HO_12.out)); (case aS => exact (below_size (by repeat (first | (with_reducible first | exact HB.out | apply below_alloc | apply pw_below_drewN | apply below_drew1) | exact HB.out)))); (case aL => have := LMc74.out; omega); intro v143 w75 ho hb hg hat; rw [← Ny142.out] at ho; have n0_ := Aside0.mk (Kd.S_over' (by (with_reducible repeat (first | apply Kd.S_alloc | apply Kd.S_drewN | apply Kd.S_drew)); exact HO_6.out) (Kd.R_typed (by (with_reducible repeat (first | apply Kd.R_alloc | apply Kd.R_drewN | apply Kd.R_drew)); exact HO_12.out)) (by decide) hg); have n1_ := Aside0.mk (hb); have n2_ := Aside0.mk (ho); clear HO_6; clear HB; clear HO_12; have HO_6 := n0_; have HB := n1_; have HO144 := n2_; clear n0_ n1_ n2_; clear ho hb hg hat))
                                                  repeat (go_quiet (first | ((with_reducible refine gate_builtin (b := .append) (xs := #[.tmp 191, .tmp 193]) rfl ?_); (try (refine gate_guard (by rfl) ?_; dsimp only)); at_builtin; refine Kd.R_append (Kd.int .i64) (w0 := w) w.heap.size rfl (.tmp 191) (.tmp 193) 40 3 (.int .i64 0) 8 rfl Try.underlying40 solve_clear.info3 rfl (by decide) (by omega) (.slice Ao27 x12_2.length co27) x12_2 x13_2 [.int .i64 x13_2] (fun _ => True) (fun _ => False) rfl rfl ?aP (fun _ hk => hk.elim) ?aF ?aO ?aB ?aS ?aL ?_; (case aP => exact rfl); (case aB => exact (by repeat (first | (with_reducible first | exact HB.out | apply below_alloc | apply pw_below_drewN | apply below_drew1) | exact HB.out))); (case aF => exact (fun _ _ => trivial)); (case aO => exact (by (with_reducible repeat (first | apply Kd.R_alloc | apply Kd.R_drewN | apply Kd.R_drew)); exact HO_12.out)); (case aS => exact (below_size (by repeat (first | (with_reducible first | exact HB.out | apply below_alloc | apply pw_below_drewN | apply below_drew1) | exact HB.out)))); (case aL => have := LMc74.out; omega); intro v143 w75 ho hb hg hat; rw [← Ny142.out] at ho; have n0_ := Aside0.mk (Kd.S_over' (by (with_reducible repeat (first | apply Kd.S_alloc | apply Kd.S_drewN | apply Kd.S_drew)); exact HO_6.out) (Kd.R_typed (by (with_reducible repeat (first | apply Kd.R_alloc | apply Kd.R_drewN | apply Kd.R_drew)); exact HO_12.out)) (by decide) hg); have n1_ := Aside0.mk (hb); have n2_ := Aside0.mk (ho); clear HO_6; clear HB; clear HO_12; have HO_6 := n0_; have HB := n1_; have HO144 := n2_; clear n0_ n1_ n2_; clear ho hb hg hat)); try go_wp2_with (first | ((with_reducible refine gate_builtin (b := .append) (xs := #[.tmp 191, .tmp 193]) rfl ?_); (try (refine gate_guard (by rfl) ?_; dsimp only)); at_builtin; refine Kd.R_append (Kd.int .i64) (w0 := w) w.heap.size rfl (.tmp 191) (.tmp 193) 40 3 (.int .i64 0) 8 rfl Try.underlying40 solve_clear.info3 rfl (by decide) (by omega) (.slice Ao27 x12_2.length co27) x12_2 x13_2 [.int .i64 x13_2] (fun _ => True) (fun _ => False) rfl rfl ?aP (fun _ hk => hk.elim) ?aF ?aO ?aB ?aS ?aL ?_; (case aP => exact rfl); (case aB => exact (by repeat (first | (with_reducible first | exact HB.out | apply below_alloc | apply pw_below_drewN | apply below_drew1) | exact HB.out))); (case aF => exact (fun _ _ => trivial)); (case aO => exact (by (with_reducible repeat (first | apply Kd.R_alloc | apply Kd.R_drewN | apply Kd.R_drew)); exact HO_12.out)); (case aS => exact (below_size (by repeat (first | (with_reducible first | exact HB.out | apply below_alloc | apply pw_below_drewN | apply below_drew1) | exact HB.out)))); (case aL => have := LMc74.out; omega); intro v143 w75 ho hb hg hat; rw [← Ny142.out] at ho; have n0_ := Aside0.mk (Kd.S_over' (by (with_reducible repeat (first | apply Kd.S_alloc | apply Kd.S_drewN | apply Kd.S_drew)); exact HO_6.out) (Kd.R_typed (by (with_reducible repeat (first | apply Kd.R_alloc | apply Kd.R_drewN | apply Kd.R_drew)); exact HO_12.out)) (by decide) hg); have n1_ := Aside0.mk (hb); have n2_ := Aside0.mk (ho); clear HO_6; clear HB; clear HO_12; have HO_6 := n0_; have HB := n1_; have HO144 := n2_; clear n0_ n1_ n2_; clear ho hb hg hat)))
                                                  go_roundg k6
                                                  case measure => have := HK1.out; have := HK2.out; have := HJ20.out; have := HJ25.out; have := HK5.out; have := HK6.out; omega
                                                  case rel => exact ⟨m, (y142), (wrap64 (x13_2 + 1)), (by first | rfl | (simp; done) | (simp [*]; done)), H', ⟨by have := HK1.out; have := HK2.out; have := HJ20.out; have := HJ25.out; have := HK5.out; have := HK6.out; omega⟩, ⟨by (with_reducible repeat (first | apply Kd.S_alloc | apply Kd.S_drewN | apply Kd.S_drew)); exact HO_6.out⟩, ⟨by (with_reducible repeat (first | apply Kd.R_alloc | apply Kd.R_drewN | apply Kd.R_drew)); exact HO144.out⟩, ⟨by repeat (first | (with_reducible first | exact HB.out | apply below_alloc | apply pw_below_drewN | apply below_drew1) | exact HB.out)⟩⟩
                                                · rw [if_neg c74] at H
                                                  exact absurd H (by simp)
                                  · rw [if_neg c43] at H
                                    exact absurd H (by simp)
                                · rw [if_neg c42] at H
                                  exact absurd H (by simp)
                              · rw [if_neg c41] at H
                                exact absurd H (by simp)
                            · rw [if_neg c40] at H
                              exact absurd H (by simp)
                          · rw [if_neg c39] at H
                            exact absurd H (by simp)
                        · rw [if_neg c38] at H
                          exact absurd H (by simp)
                · replace c25 := Bool.eq_false_iff.mpr c25
                  subst c25
                  have H1 : (some (x6_1, x12_2)) = some (r1, r2) := by rw [if_neg (show ¬ (false = true) by decide)] at H; exact H
                  clear H
                  have H := H1
                  clear H1
                  simp only [Option.some.injEq, Prod.mk.injEq] at H
                  obtain ⟨rfl, rfl⟩ := H
                  go_wp2
                  repeat (go_quiet (fail); try go_wp2)
                  go_ret2
                  exact ⟨_, _, by first | rfl | (simp [errW_none, errW_some] <;> rfl) | (simp [*, errW_none, errW_some] <;> rfl), by (with_reducible repeat (first | apply Kd.S_alloc | apply Kd.S_drewN | apply Kd.S_drew)); exact HO_6.out, by (with_reducible repeat (first | apply Kd.R_alloc | apply Kd.R_drewN | apply Kd.R_drew)); exact HO_12.out, by repeat (first | (with_reducible first | exact HB.out | apply below_alloc | apply pw_below_drewN | apply below_drew1) | exact HB.out)⟩

