/- The functions that a law uses, each as a plain function, with the proof that a call of the Go function comes to its answer. Condition of each: the arguments read as the data that it names, and the plain function has an answer. Written by a program of this session (standin.py). -/
import Derived.Test.YteakbghjhckoeaaDoorPBitmapGrowsx0
import Derived.Test.YteakbghjhckoeaaDoorPBitmapGrowsx1
import Derived.Test.YteakbghjhckoeaaDoorPBitmapGrowsx2
import Derived.Test.YteakbghjhckoeaaDoorPBitmapGrowsx3
import Derived.Test.YteakbghjhckoeaaDoorShort
import Derived.Lib.SliceRun
import Derived.Shelf.Abstract
import Derived.StillTailTactics
import Derived.Test.YteakbghjhckoeaaDoorTabs
import Derived.Test.YteakbghjhckoeaaDoorPress
namespace Go.Proofs.YteakbghjhckoeaaDoor.PBitmapGrows
open Go.RowKit Go.Proofs.YteakbghjhckoeaaDoorW.PrintWords Go.Proofs.YteakbghjhckoeaaDoorW.PrintLast Go.Proofs.YteakbghjhckoeaaDoorW.PrintMore Go.Proofs.YteakbghjhckoeaaDoor.Short Go.Proofs.YteakbghjhckoeaaDoor.Tabs Go.Proofs.YteakbghjhckoeaaDoor.Short Go.Proofs.YteakbghjhckoeaaDoor.Press
attribute [local go_sem] max2_int min2_int max_two min_two max_three min_three max_four min_four   -- for this text's walks alone
set_option linter.unusedVariables false
set_option linter.unusedSimpArgs false

/-! ### bitmap_Estimate: function 17 -/
mutual
def bitmap_Estimate.l0 : Nat → Int → List (List Bool) → Int → Int → Option (Int)
  | 0, _, _, _, _ => none
  | k + 1, x3, x15, x16, x17 => if x17 < x16 then (if 0 ≤ x17 then (if x17 < (x15.length : Int) then (bitmap_Estimate.l1 k x3 ((rd_L1 x15 x17).length : Int) ((rd_L1 x15 x17).length : Int) x15 x16 x17 (rd_L1 x15 x17) ((rd_L1 x15 x17).length : Int) 0) else (none)) else (none)) else (some x3)
def bitmap_Estimate.l1 : Nat → Int → Int → Int → List (List Bool) → Int → Int → List Bool → Int → Int → Option (Int)
  | 0, _, _, _, _, _, _, _, _, _ => none
  | k + 1, x3, x6, x7, x15, x16, x17, x25, x26, x27 => if x27 < x26 then (if 0 ≤ x27 then (if x27 < (x25.length : Int) then (if rdOf false x25 x27 = true then (bitmap_Estimate.l1 k x3 x6 (wrap64 (x7 - 1)) x15 x16 x17 x25 x26 (wrap64 (x27 + 1))) else (bitmap_Estimate.l1 k x3 x6 x7 x15 x16 x17 x25 x26 (wrap64 (x27 + 1)))) else (none)) else (none)) else (bitmap_Estimate.l2 k x3 x6 (wrap64 (x7 + 1)) x15 x16 x17)
def bitmap_Estimate.l2 : Nat → Int → Int → Int → List (List Bool) → Int → Int → Option (Int)
  | 0, _, _, _, _, _, _ => none
  | k + 1, x3, x6, x10, x15, x16, x17 => if x10 ≤ x6 then (if x10 = 0 then (none) else (bitmap_Estimate.l2 k (wrap64 (x3 + (wrap64 (Int.tdiv (wrap64 (x6 * 65536)) x10)))) x6 (wrap64 (x10 + 1)) x15 x16 x17)) else (bitmap_Estimate.l0 k x3 x15 x16 (wrap64 (x17 + 1)))
end
def bitmap_Estimate.f (k : Nat) (a0_0 : Int) (l0_1 : List (List Bool)) : Option (Int) := (bitmap_Right.f a0_0 l0_1).bind fun t179 => (if t179 = true then (bitmap_Estimate.l0 k 0 l0_1 (l0_1.length : Int) 0) else (some 0))
theorem bitmap_Estimate.mono_l : ∀ k, (∀ y0 y1 y2 y3, LeO (bitmap_Estimate.l0 k y0 y1 y2 y3) (bitmap_Estimate.l0 (k + 1) y0 y1 y2 y3)) ∧ (∀ y0 y1 y2 y3 y4 y5 y6 y7 y8, LeO (bitmap_Estimate.l1 k y0 y1 y2 y3 y4 y5 y6 y7 y8) (bitmap_Estimate.l1 (k + 1) y0 y1 y2 y3 y4 y5 y6 y7 y8)) ∧ (∀ y0 y1 y2 y3 y4 y5, LeO (bitmap_Estimate.l2 k y0 y1 y2 y3 y4 y5) (bitmap_Estimate.l2 (k + 1) y0 y1 y2 y3 y4 y5))
  | 0 => ⟨fun _ _ _ _ r h => by simp [bitmap_Estimate.l0] at h, fun _ _ _ _ _ _ _ _ _ r h => by simp [bitmap_Estimate.l1] at h, fun _ _ _ _ _ _ r h => by simp [bitmap_Estimate.l2] at h⟩
  | k + 1 => by
    obtain ⟨ih0, ih1, ih2⟩ := bitmap_Estimate.mono_l k
    refine ⟨?_, ?_, ?_⟩
    · intro y0 y1 y2 y3
      unfold bitmap_Estimate.l0
      repeat' first
      | (with_reducible exact ih0 _ _ _ _)
      | (with_reducible exact ih1 _ _ _ _ _ _ _ _ _)
      | (with_reducible exact ih2 _ _ _ _ _ _)
      | (with_reducible exact LeO.refl _)
      | (with_reducible exact LeO.none _)
      | (with_reducible refine LeO.ite ?_ ?_)
      | (with_reducible refine LeO.bind ?_ (fun _ => ?_))
      | exact ih0 _ _ _ _
      | exact ih1 _ _ _ _ _ _ _ _ _
      | exact ih2 _ _ _ _ _ _
      | exact LeO.none _
      | refine LeO.ite ?_ ?_
      | refine LeO.bind ?_ (fun _ => ?_)
    · intro y0 y1 y2 y3 y4 y5 y6 y7 y8
      unfold bitmap_Estimate.l1
      repeat' first
      | (with_reducible exact ih0 _ _ _ _)
      | (with_reducible exact ih1 _ _ _ _ _ _ _ _ _)
      | (with_reducible exact ih2 _ _ _ _ _ _)
      | (with_reducible exact LeO.refl _)
      | (with_reducible exact LeO.none _)
      | (with_reducible refine LeO.ite ?_ ?_)
      | (with_reducible refine LeO.bind ?_ (fun _ => ?_))
      | exact ih0 _ _ _ _
      | exact ih1 _ _ _ _ _ _ _ _ _
      | exact ih2 _ _ _ _ _ _
      | exact LeO.none _
      | refine LeO.ite ?_ ?_
      | refine LeO.bind ?_ (fun _ => ?_)
    · intro y0 y1 y2 y3 y4 y5
      unfold bitmap_Estimate.l2
      repeat' first
      | (with_reducible exact ih0 _ _ _ _)
      | (with_reducible exact ih1 _ _ _ _ _ _ _ _ _)
      | (with_reducible exact ih2 _ _ _ _ _ _)
      | (with_reducible exact LeO.refl _)
      | (with_reducible exact LeO.none _)
      | (with_reducible refine LeO.ite ?_ ?_)
      | (with_reducible refine LeO.bind ?_ (fun _ => ?_))
      | exact ih0 _ _ _ _
      | exact ih1 _ _ _ _ _ _ _ _ _
      | exact ih2 _ _ _ _ _ _
      | exact LeO.none _
      | refine LeO.ite ?_ ?_
      | refine LeO.bind ?_ (fun _ => ?_)
theorem bitmap_Estimate.mono : ∀ a0 a1 k, LeO (bitmap_Estimate.f k a0 a1) (bitmap_Estimate.f (k + 1) a0 a1) := by
  intro a0 a1 k
  obtain ⟨ih0, ih1, ih2⟩ := bitmap_Estimate.mono_l k
  unfold bitmap_Estimate.f
  repeat' first
      | (with_reducible exact ih0 _ _ _ _)
      | (with_reducible exact ih1 _ _ _ _ _ _ _ _ _)
      | (with_reducible exact ih2 _ _ _ _ _ _)
      | (with_reducible exact LeO.refl _)
      | (with_reducible exact LeO.none _)
      | (with_reducible refine LeO.ite ?_ ?_)
      | (with_reducible refine LeO.bind ?_ (fun _ => ?_))
      | exact ih0 _ _ _ _
      | exact ih1 _ _ _ _ _ _ _ _ _
      | exact ih2 _ _ _ _ _ _
      | exact LeO.none _
      | refine LeO.ite ?_ ?_
      | refine LeO.bind ?_ (fun _ => ?_)
set_option maxHeartbeats 80000000 in
set_option maxRecDepth 100000 in
theorem bitmap_Estimate.calls (k : Nat) (a0_0 : Int) (A0_1 : Option Addr) (c0_1 : Nat) (l0_1 : List (List Bool)) (r : Int) (w : World) (hr0_1 : Kd.C (Kd.slice 4 Kd.bool) w A0_1 l0_1.length l0_1) (hc0_1 : l0_1.length ≤ c0_1) (h : bitmap_Estimate.f k a0_0 l0_1 = some r) :
    Calls Tryd.prog 17 #[.agg #[.int .u64 a0_0, .slice A0_1 l0_1.length c0_1]] w fun e w' => e = .returned (.int .i64 r) ∧ Below w.heap.size w w' := by
 have hu25 := Tryd.underlying25; have HR0_1 := Aside0.mk hr0_1; have HC0_1 := Aside0.mk hc0_1; clear hr0_1 hc0_1; have HB := Aside0.mk (Below.refl w.heap.size w); have H : ((bitmap_Right.f a0_0 l0_1).bind fun t179 => (if t179 = true then (bitmap_Estimate.l0 k 0 l0_1 (l0_1.length : Int) 0) else (some 0))) = some r := h; clear h; replace H := Option.bind_eq_some_iff.mp H; obtain ⟨t179, A20, H⟩ := H; replace H : (if t179 = true then (bitmap_Estimate.l0 k 0 l0_1 (l0_1.length : Int) 0) else (some 0)) = some r := H; have A2 := Aside0.mk A20; clear A20
 by_cases c3 : t179 = true
 ·subst c3
  have H1 : (bitmap_Estimate.l0 k 0 l0_1 (l0_1.length : Int) 0) = some r := by rw [if_pos rfl] at H; exact H
  clear H; have H := H1; clear H1; have H' := Aside0.mk H; clear H
  go_enter Tryd.func17, Tryd.ntmps17
  go_wp2_with (first | ((with_reducible refine gate_dst (N := 1) rfl ?_); refine box_event ?hg (N := 1) ?hd (cs := #[.int .u64 a0_0, .slice A0_1 l0_1.length c0_1]) (t := 25) ?hr ?_; (case hd => rfl); (case hg => rfl); (case hr => first | (go_simp; done) | (go_simp; rfl)); intro gb178 hg w4 hbox hb; have n0_ := Aside0.mk (below_step (bl_ HB) hb); have n1_ := Aside0.mk (hbox); have n2_ := Aside0.mk (gl_ hg HB); have n3_ := Aside0.mk (gl_ hg HB); clear HB; have HB := n0_; have BK178 := n1_; have GW178 := n2_; have GE178 := n3_; clear n0_ n1_ n2_ n3_; clear hb hbox hg; have hcz5_0 : w4.cell? ⟨gb178, 0, none⟩ = some (.int .u64 a0_0) := (blk_cell BK178.out 0).trans rfl; have hcz5_1 : w4.cell? ⟨gb178, 1, none⟩ = some (.slice A0_1 l0_1.length c0_1) := (blk_cell BK178.out 1).trans rfl; have hfz5_0 := blk_frozen BK178.out 0; have hfz5_1 := blk_frozen BK178.out 1) | ((with_reducible refine gate_callee (f := 13) rfl ?_); refine goesL_ (some 12) rfl rfl Tryd.func13 (by kernel_rfl) rfl #[.agg #[.int .u64 a0_0, .slice A0_1 l0_1.length c0_1]] rfl (by (try simp only [List.map_toArray, List.map_cons, List.map_nil]); first | done | rfl | (simp only [List.length_drop, List.length_take]; rfl)) ?_; (with_reducible refine (bitmap_Right.calls a0_0 _ _ l0_1 true _ ?side1 ?side2 A2.out).mono ?_); (case side1 => repeat (first | exact (Kd.C_below HR0_1.out HB.out) | (with_reducible refine Kd.C_alloc ?_ _) | (with_reducible refine Kd.C_drewN ?_ _) | (with_reducible refine Kd.C_drew ?_))); (case side2 => exact HC0_1.out); rintro e w6 ⟨rfl, hb⟩; refine ⟨_, rfl, ?_⟩; have n0_ := Aside0.mk (blk_below (bk_ BK178) hb); have n1_ := Aside0.mk (below_step (bl_ HB) hb); clear BK178; clear HB; have BK178 := n0_; have HB := n1_; clear n0_ n1_; (try clear hb); (try clear hb2); (try clear hk); (try clear hi); have hcz7_0 : w6.cell? ⟨gb178, 0, none⟩ = some (.int .u64 a0_0) := (blk_cell BK178.out 0).trans rfl; have hcz7_1 : w6.cell? ⟨gb178, 1, none⟩ = some (.slice A0_1 l0_1.length c0_1) := (blk_cell BK178.out 1).trans rfl; have hfz7_0 := blk_frozen BK178.out 0; have hfz7_1 := blk_frozen BK178.out 1))
  go_loopg [3, 17] k (fun kq v3 v17 w' => ∃ (x3_1 : Int) (x17_1 : Int), v3 = .int .i64 x3_1 ∧ v17 = .int .i64 x17_1 ∧ Aside0 (bitmap_Estimate.l0 kq x3_1 l0_1 (l0_1.length : Int) x17_1 = some r) ∧ Aside0 (kq ≤ k) ∧ Aside0 (w'.heap[gb178]? = some (.cells #[.int .u64 a0_0, (.slice A0_1 l0_1.length c0_1)] 25 (0, 0))) ∧ Aside0 (Below w.heap.size w w'))
  case atStart => exact ⟨(0), (0), (by first | rfl | (simp; done) | (simp [*]; done)), (by first | rfl | (simp; done) | (simp [*]; done)), H', ⟨Nat.le_refl _⟩, ⟨bk_ BK178⟩, ⟨bl_ HB⟩⟩
  case round =>
   clear H'; (try clear c1); (try clear p2); (try clear c3); (try clear hcz5_0); (try clear hcz5_1); (try clear hcz7_0); (try clear hcz7_1); (try clear hfz5_0); (try clear hfz5_1); (try clear hfz7_0); (try clear hfz7_1); obtain ⟨x3_1, x17_1, rfl, rfl, HA, HK1, BK178, HB⟩ := hrel
   cases gk with
   | zero => exact absurd HA.out (by simp [bitmap_Estimate.l0])
   | succ k1 =>
    have H := HA.out; clear HA; simp only [bitmap_Estimate.l0] at H
    by_cases c8 : x17_1 < (l0_1.length : Int)
    ·rw [if_pos c8] at H; have c8b0 : decide (x17_1 < (l0_1.length : Int)) = true := decide_eq_true c8; clear c8
     by_cases c9 : 0 ≤ x17_1
     ·rw [if_pos c9] at H; have c9b0 : decide (0 ≤ x17_1) = true := decide_eq_true c9; clear c9
      by_cases c10 : x17_1 < (l0_1.length : Int)
      ·rw [if_pos c10] at H; have c10b0 : decide (x17_1 < (l0_1.length : Int)) = true := decide_eq_true c10; clear c10; have H' := Aside0.mk H; clear H; have p180 : 0 ≤ (x17_1 : Int) := of_decide_eq_true (by first | (with_reducible assumption) | assumption); have q180 : x17_1 < (l0_1.length : Int) := of_decide_eq_true (by first | (with_reducible assumption) | assumption); obtain ⟨ad180, A180_0, c180_0, e180, hx180_0, hl180_0, hi180_0⟩ := at_L1 HR0_1.out x17_1 p180 q180
       cases e180; (try replace hx180_0 := (HB.out.cell (World.block_lt_of_cell? w _ hx180_0)).trans hx180_0); have HR180_0 := Aside0.mk hi180_0; have HC180_0 := Aside0.mk hl180_0; clear hi180_0 hl180_0; replace p180 := eq_true p180; replace q180 := eq_true q180
       go_wp2
       go_loopg [7, 27] k1 (fun kq v7 v27 w' => ∃ (x7_2 : Int) (x27_2 : Int), v7 = .int .i64 x7_2 ∧ v27 = .int .i64 x27_2 ∧ Aside0 (bitmap_Estimate.l1 kq x3_1 ((rd_L1 l0_1 x17_1).length : Int) x7_2 l0_1 (l0_1.length : Int) x17_1 (rd_L1 l0_1 x17_1) ((rd_L1 l0_1 x17_1).length : Int) x27_2 = some r) ∧ Aside0 (kq ≤ k1) ∧ Aside0 (w'.heap[gb178]? = some (.cells #[.int .u64 a0_0, (.slice (some ad180) l0_1.length c0_1)] 25 (0, 0))) ∧ Aside0 (Below w.heap.size w w'))
       case atStart => exact ⟨(((rd_L1 l0_1 x17_1).length : Int)), (0), (by first | rfl | (simp; done) | (simp [*]; done)), (by first | rfl | (simp; done) | (simp [*]; done)), H', ⟨Nat.le_refl _⟩, ⟨bk_ BK178⟩, ⟨bl_ HB⟩⟩
       case round =>
        clear H'; (try clear c1); (try clear p1); (try clear q1); (try clear hx1); (try clear p2); (try clear c3); (try clear c8); (try clear c8b0); (try clear c9); (try clear c9b0); (try clear c10); (try clear c10b0); (try clear hcz5_0); (try clear hcz5_1); (try clear hcz7_0); (try clear hcz7_1); (try clear hfz5_0); (try clear hfz5_1); (try clear hfz7_0); (try clear hfz7_1); (try clear hx180_0); (try clear p180); (try clear p2); (try clear q180); obtain ⟨x7_2, x27_2, rfl, rfl, HA, HK2, BK178, HB⟩ := hrel
        cases gk with
        | zero => exact absurd HA.out (by simp [bitmap_Estimate.l1])
        | succ k2 =>
         have H := HA.out; clear HA; simp only [bitmap_Estimate.l1] at H
         by_cases c11 : x27_2 < ((rd_L1 l0_1 x17_1).length : Int)
         ·rw [if_pos c11] at H; have c11b0 : decide (x27_2 < ((rd_L1 l0_1 x17_1).length : Int)) = true := decide_eq_true c11; clear c11
          by_cases c12 : 0 ≤ x27_2
          ·rw [if_pos c12] at H; have c12b0 : decide (0 ≤ x27_2) = true := decide_eq_true c12; clear c12
           by_cases c13 : x27_2 < ((rd_L1 l0_1 x17_1).length : Int)
           ·rw [if_pos c13] at H; have c13b0 : decide (x27_2 < ((rd_L1 l0_1 x17_1).length : Int)) = true := decide_eq_true c13; clear c13; obtain ⟨bq14, hbq14⟩ : ∃ b_ : Bool, b_ = (rdOf false (rd_L1 l0_1 x17_1) x27_2) := ⟨_, rfl⟩
            replace H : (if bq14 = true then (bitmap_Estimate.l1 k2 x3_1 ((rd_L1 l0_1 x17_1).length : Int) (wrap64 (x7_2 - 1)) l0_1 (l0_1.length : Int) x17_1 (rd_L1 l0_1 x17_1) ((rd_L1 l0_1 x17_1).length : Int) (wrap64 (x27_2 + 1))) else (bitmap_Estimate.l1 k2 x3_1 ((rd_L1 l0_1 x17_1).length : Int) x7_2 l0_1 (l0_1.length : Int) x17_1 (rd_L1 l0_1 x17_1) ((rd_L1 l0_1 x17_1).length : Int) (wrap64 (x27_2 + 1)))) = some r := by rw [← hbq14] at H; exact H
            have Nbq14 := Aside0.mk hbq14; clear hbq14
            by_cases c15 : bq14 = true
            ·subst c15
             have H1 : (bitmap_Estimate.l1 k2 x3_1 ((rd_L1 l0_1 x17_1).length : Int) (wrap64 (x7_2 - 1)) l0_1 (l0_1.length : Int) x17_1 (rd_L1 l0_1 x17_1) ((rd_L1 l0_1 x17_1).length : Int) (wrap64 (x27_2 + 1))) = some r := by rw [if_pos rfl] at H; exact H
             clear H; have H := H1; clear H1; have H' := Aside0.mk H; clear H; have p181 : 0 ≤ (x27_2 : Int) := of_decide_eq_true (by first | (with_reducible assumption) | assumption); have q181 : x27_2 < ((rd_L1 l0_1 x17_1).length : Int) := of_decide_eq_true (by first | (with_reducible assumption) | assumption); obtain ⟨ad181, e181, hx181_0⟩ := Kd.at_bool HR180_0.out x27_2 p181 q181; (try rw [← Nbq14.out] at hx181_0); (try rw [← Nbq14.out] at hw181_0)
             cases e181; (try replace hx181_0 := (HB.out.cell (World.block_lt_of_cell? w _ hx181_0)).trans hx181_0); replace p181 := eq_true p181; replace q181 := eq_true q181
             go_wp2
             go_roundg k2
             case measure => have := HK1.out; have := HK2.out; omega
             case rel => exact ⟨(wrap64 (x7_2 - 1)), (wrap64 (x27_2 + 1)), (by first | rfl | (simp; done) | (simp [*]; done)), (by first | rfl | (simp; done) | (simp [*]; done)), H', ⟨by have := HK1.out; have := HK2.out; omega⟩, ⟨bk_ BK178⟩, ⟨bl_ HB⟩⟩
            ·replace c15 := Bool.eq_false_iff.mpr c15; subst c15
             have H1 : (bitmap_Estimate.l1 k2 x3_1 ((rd_L1 l0_1 x17_1).length : Int) x7_2 l0_1 (l0_1.length : Int) x17_1 (rd_L1 l0_1 x17_1) ((rd_L1 l0_1 x17_1).length : Int) (wrap64 (x27_2 + 1))) = some r := by rw [if_neg (show ¬ (false = true) by decide)] at H; exact H
             clear H; have H := H1; clear H1; have H' := Aside0.mk H; clear H; have p181 : 0 ≤ (x27_2 : Int) := of_decide_eq_true (by first | (with_reducible assumption) | assumption); have q181 : x27_2 < ((rd_L1 l0_1 x17_1).length : Int) := of_decide_eq_true (by first | (with_reducible assumption) | assumption); obtain ⟨ad181, e181, hx181_0⟩ := Kd.at_bool HR180_0.out x27_2 p181 q181; (try rw [← Nbq14.out] at hx181_0); (try rw [← Nbq14.out] at hw181_0)
             cases e181; (try replace hx181_0 := (HB.out.cell (World.block_lt_of_cell? w _ hx181_0)).trans hx181_0); replace p181 := eq_true p181; replace q181 := eq_true q181
             go_wp2
             go_roundg k2
             case measure => have := HK1.out; have := HK2.out; omega
             case rel => exact ⟨(x7_2), (wrap64 (x27_2 + 1)), (by first | rfl | (simp; done) | (simp [*]; done)), (by first | rfl | (simp; done) | (simp [*]; done)), H', ⟨by have := HK1.out; have := HK2.out; omega⟩, ⟨bk_ BK178⟩, ⟨bl_ HB⟩⟩
           ·rw [if_neg c13] at H; exact absurd H (by simp)
          ·rw [if_neg c12] at H; exact absurd H (by simp)
         ·rw [if_neg c11] at H; have c11b0 : decide (x27_2 < ((rd_L1 l0_1 x17_1).length : Int)) = false := decide_eq_false c11; clear c11; have H' := Aside0.mk H; clear H
          go_wp2
          go_loopg [3, 10] k2 (fun kq v3 v10 w' => ∃ (x3_3 : Int) (x10_3 : Int), v3 = .int .i64 x3_3 ∧ v10 = .int .i64 x10_3 ∧ Aside0 (bitmap_Estimate.l2 kq x3_3 ((rd_L1 l0_1 x17_1).length : Int) x10_3 l0_1 (l0_1.length : Int) x17_1 = some r) ∧ Aside0 (kq ≤ k2) ∧ Aside0 (w'.heap[gb178]? = some (.cells #[.int .u64 a0_0, (.slice (some ad180) l0_1.length c0_1)] 25 (0, 0))) ∧ Aside0 (Below w.heap.size w w'))
          case atStart => exact ⟨(x3_1), (wrap64 (x7_2 + 1)), (by first | rfl | (simp; done) | (simp [*]; done)), (by first | rfl | (simp; done) | (simp [*]; done)), H', ⟨Nat.le_refl _⟩, ⟨bk_ BK178⟩, ⟨bl_ HB⟩⟩
          case round =>
           clear H'; (try clear c1); (try clear p1); (try clear q1); (try clear hx1); (try clear p2); (try clear c3); (try clear p6); (try clear c8); (try clear c8b0); (try clear c9); (try clear c9b0); (try clear c10); (try clear c10b0); (try clear c11); (try clear c11b0); (try clear c12); (try clear c12b0); (try clear c13); (try clear c13b0); (try clear q14); (try clear c15); (try clear hcz5_0); (try clear hcz5_1); (try clear hcz7_0); (try clear hcz7_1); (try clear hfz5_0); (try clear hfz5_1); (try clear hfz7_0); (try clear hfz7_1); (try clear hx180_0); (try clear hx181_0); (try clear p1); (try clear p180); (try clear p181); (try clear p2); (try clear q1); (try clear q180); (try clear q181); obtain ⟨x3_3, x10_3, rfl, rfl, HA, HK3, BK178, HB⟩ := hrel
           cases gk with
           | zero => exact absurd HA.out (by simp [bitmap_Estimate.l2])
           | succ k3 =>
            have H := HA.out; clear HA; simp only [bitmap_Estimate.l2] at H
            by_cases c16 : x10_3 ≤ ((rd_L1 l0_1 x17_1).length : Int)
            ·rw [if_pos c16] at H; have c16b0 : decide (x10_3 ≤ ((rd_L1 l0_1 x17_1).length : Int)) = true := decide_eq_true c16; clear c16
             by_cases c17 : x10_3 = 0
             ·rw [if_pos c17] at H; exact absurd H (by simp)
             ·rw [if_neg c17] at H; have c17b0 : (x10_3 == 0) = false := beq_eq_false_iff_ne.mpr c17; have c17b1 : (x10_3 != 0) = true := bne_iff_ne.mpr c17; have H' := Aside0.mk H; clear H
              go_wp2
              go_roundg k3
              case measure => have := HK1.out; have := HK2.out; have := HK3.out; omega
              case rel => exact ⟨(wrap64 (x3_3 + (wrap64 (Int.tdiv (wrap64 (((rd_L1 l0_1 x17_1).length : Int) * 65536)) x10_3)))), (wrap64 (x10_3 + 1)), (by first | rfl | (simp; done) | (simp [*]; done)), (by first | rfl | (simp; done) | (simp [*]; done)), H', ⟨by have := HK1.out; have := HK2.out; have := HK3.out; omega⟩, ⟨bk_ BK178⟩, ⟨bl_ HB⟩⟩
            ·rw [if_neg c16] at H; have c16b0 : decide (x10_3 ≤ ((rd_L1 l0_1 x17_1).length : Int)) = false := decide_eq_false c16; clear c16; have H' := Aside0.mk H; clear H
             go_wp2
             go_roundg k3
             case measure => have := HK1.out; have := HK2.out; have := HK3.out; omega
             case rel => exact ⟨(x3_3), (wrap64 (x17_1 + 1)), (by first | rfl | (simp; done) | (simp [*]; done)), (by first | rfl | (simp; done) | (simp [*]; done)), H', ⟨by have := HK1.out; have := HK2.out; have := HK3.out; omega⟩, ⟨bk_ BK178⟩, ⟨bl_ HB⟩⟩
      ·rw [if_neg c10] at H; exact absurd H (by simp)
     ·rw [if_neg c9] at H; exact absurd H (by simp)
    ·rw [if_neg c8] at H; have c8b0 : decide (x17_1 < (l0_1.length : Int)) = false := decide_eq_false c8; clear c8; obtain rfl := Option.some.inj H
     go_wp2
     go_ret; exact ⟨by first | rfl | (simp [errW_none, errW_some] <;> rfl) | (simp [*, errW_none, errW_some] <;> rfl), bl_ HB⟩
 ·replace c3 := Bool.eq_false_iff.mpr c3; subst c3
  have H1 : (some 0) = some r := by rw [if_neg (show ¬ (false = true) by decide)] at H; exact H
  clear H; have H := H1; clear H1; obtain rfl := Option.some.inj H
  go_enter Tryd.func17, Tryd.ntmps17
  go_wp2_with (first | ((with_reducible refine gate_dst (N := 1) rfl ?_); refine box_event ?hg (N := 1) ?hd (cs := #[.int .u64 a0_0, .slice A0_1 l0_1.length c0_1]) (t := 25) ?hr ?_; (case hd => rfl); (case hg => rfl); (case hr => first | (go_simp; done) | (go_simp; rfl)); intro gb178 hg w18 hbox hb; have n0_ := Aside0.mk (below_step (bl_ HB) hb); have n1_ := Aside0.mk (hbox); have n2_ := Aside0.mk (gl_ hg HB); have n3_ := Aside0.mk (gl_ hg HB); clear HB; have HB := n0_; have BK178 := n1_; have GW178 := n2_; have GE178 := n3_; clear n0_ n1_ n2_ n3_; clear hb hbox hg; have hcz19_0 : w18.cell? ⟨gb178, 0, none⟩ = some (.int .u64 a0_0) := (blk_cell BK178.out 0).trans rfl; have hcz19_1 : w18.cell? ⟨gb178, 1, none⟩ = some (.slice A0_1 l0_1.length c0_1) := (blk_cell BK178.out 1).trans rfl; have hfz19_0 := blk_frozen BK178.out 0; have hfz19_1 := blk_frozen BK178.out 1) | ((with_reducible refine gate_callee (f := 13) rfl ?_); refine goesL_ (some 12) rfl rfl Tryd.func13 (by kernel_rfl) rfl #[.agg #[.int .u64 a0_0, .slice A0_1 l0_1.length c0_1]] rfl (by (try simp only [List.map_toArray, List.map_cons, List.map_nil]); first | done | rfl | (simp only [List.length_drop, List.length_take]; rfl)) ?_; (with_reducible refine (bitmap_Right.calls a0_0 _ _ l0_1 false _ ?side1 ?side2 A2.out).mono ?_); (case side1 => repeat (first | exact (Kd.C_below HR0_1.out HB.out) | (with_reducible refine Kd.C_alloc ?_ _) | (with_reducible refine Kd.C_drewN ?_ _) | (with_reducible refine Kd.C_drew ?_))); (case side2 => exact HC0_1.out); rintro e w20 ⟨rfl, hb⟩; refine ⟨_, rfl, ?_⟩; have n0_ := Aside0.mk (blk_below (bk_ BK178) hb); have n1_ := Aside0.mk (below_step (bl_ HB) hb); clear BK178; clear HB; have BK178 := n0_; have HB := n1_; clear n0_ n1_; (try clear hb); (try clear hb2); (try clear hk); (try clear hi)))
  go_ret; exact ⟨by first | rfl | (simp [errW_none, errW_some] <;> rfl) | (simp [*, errW_none, errW_some] <;> rfl), bl_ HB⟩

/-! ### rillmeterlaw13_awake: function 11 -/
def rillmeterlaw13_awake.f (k : Nat)  : Option (Bool) := (bitmap_New.f k 1 1 2).bind fun bt182 => (if bt182.2.2 = 0 then ((bitmap_Estimate.f k bt182.1 bt182.2.1).bind fun t188 => (if t188 = 0 then ((bitmap_Add.f k bt182.1 bt182.2.1 (⟨#[97]⟩ : ByteArray)).bind fun bt189 => ((bitmap_Estimate.f k bt189.1 bt189.2).bind fun t193 => (if t193 = 65536 then ((bitmap_Estimate.f k 0 (([(([true, true] : List Bool))] : List (List Bool)))).bind fun t200 => (some (t200 == 196608))) else (some false)))) else (some false))) else (some false))
theorem rillmeterlaw13_awake.mono : ∀ k, LeO (rillmeterlaw13_awake.f k ) (rillmeterlaw13_awake.f (k + 1) ) := by
  intro  k
  unfold rillmeterlaw13_awake.f
  repeat' first
      | (with_reducible exact bitmap_Add.mono _ _ _ _)
      | (with_reducible exact bitmap_Estimate.mono _ _ _)
      | (with_reducible exact bitmap_New.mono _ _ _ _)
      | (with_reducible exact LeO.refl _)
      | (with_reducible exact LeO.none _)
      | (with_reducible refine LeO.ite ?_ ?_)
      | (with_reducible refine LeO.bind ?_ (fun _ => ?_))
      | exact bitmap_Add.mono _ _ _ _
      | exact bitmap_Estimate.mono _ _ _
      | exact bitmap_New.mono _ _ _ _
      | exact LeO.none _
      | refine LeO.ite ?_ ?_
      | refine LeO.bind ?_ (fun _ => ?_)
set_option maxHeartbeats 80000000 in
set_option maxRecDepth 100000 in
theorem rillmeterlaw13_awake.calls (k : Nat)  (r : Bool) (w : World) (h : rillmeterlaw13_awake.f k  = some r) (HT0 : Aside0 (Tab w)) :
    Calls Tryd.prog 11 #[] w fun e w' => e = .returned (.bool r) ∧ Below w.heap.size w w' := by
 have hu25 := Tryd.underlying25; have HB := Aside0.mk (Below.refl w.heap.size w); have H : ((bitmap_New.f k 1 1 2).bind fun bt182 => (if bt182.2.2 = 0 then ((bitmap_Estimate.f k bt182.1 bt182.2.1).bind fun t188 => (if t188 = 0 then ((bitmap_Add.f k bt182.1 bt182.2.1 (⟨#[97]⟩ : ByteArray)).bind fun bt189 => ((bitmap_Estimate.f k bt189.1 bt189.2).bind fun t193 => (if t193 = 65536 then ((bitmap_Estimate.f k 0 (([(([true, true] : List Bool))] : List (List Bool)))).bind fun t200 => (some (t200 == 196608))) else (some false)))) else (some false))) else (some false))) = some r := h; clear h; replace H := Option.bind_eq_some_iff.mp H; obtain ⟨⟨t182, t183, t186⟩, A10, H⟩ := H; replace H : (if t186 = 0 then ((bitmap_Estimate.f k t182 t183).bind fun t188 => (if t188 = 0 then ((bitmap_Add.f k t182 t183 (⟨#[97]⟩ : ByteArray)).bind fun bt189 => ((bitmap_Estimate.f k bt189.1 bt189.2).bind fun t193 => (if t193 = 65536 then ((bitmap_Estimate.f k 0 (([(([true, true] : List Bool))] : List (List Bool)))).bind fun t200 => (some (t200 == 196608))) else (some false)))) else (some false))) else (some false)) = some r := H; have A1 := Aside0.mk A10; clear A10
 by_cases c2 : t186 = 0
 ·rw [if_pos c2] at H; have c2b0 : (t186 == 0) = true := beq_iff_eq.mpr c2; have c2b1 : (t186 != 0) = false := bne_eq_false_iff_eq.mpr c2; clear c2; replace H := Option.bind_eq_some_iff.mp H; obtain ⟨t188, A30, H⟩ := H; replace H : (if t188 = 0 then ((bitmap_Add.f k t182 t183 (⟨#[97]⟩ : ByteArray)).bind fun bt189 => ((bitmap_Estimate.f k bt189.1 bt189.2).bind fun t193 => (if t193 = 65536 then ((bitmap_Estimate.f k 0 (([(([true, true] : List Bool))] : List (List Bool)))).bind fun t200 => (some (t200 == 196608))) else (some false)))) else (some false)) = some r := H; have A3 := Aside0.mk A30; clear A30
  by_cases c4 : t188 = 0
  ·rw [if_pos c4] at H; have c4b0 : (t188 == 0) = true := beq_iff_eq.mpr c4; have c4b1 : (t188 != 0) = false := bne_eq_false_iff_eq.mpr c4; clear c4; replace H := Option.bind_eq_some_iff.mp H; obtain ⟨⟨t189, t190⟩, A50, H⟩ := H; replace H : ((bitmap_Estimate.f k t189 t190).bind fun t193 => (if t193 = 65536 then ((bitmap_Estimate.f k 0 (([(([true, true] : List Bool))] : List (List Bool)))).bind fun t200 => (some (t200 == 196608))) else (some false))) = some r := H; have A5 := Aside0.mk A50; clear A50; replace H := Option.bind_eq_some_iff.mp H; obtain ⟨t193, A60, H⟩ := H; replace H : (if t193 = 65536 then ((bitmap_Estimate.f k 0 (([(([true, true] : List Bool))] : List (List Bool)))).bind fun t200 => (some (t200 == 196608))) else (some false)) = some r := H; have A6 := Aside0.mk A60; clear A60
   by_cases c7 : t193 = 65536
   ·rw [if_pos c7] at H; have c7b0 : (t193 == 65536) = true := beq_iff_eq.mpr c7; have c7b1 : (t193 != 65536) = false := bne_eq_false_iff_eq.mpr c7; clear c7; obtain ⟨y194, hy194⟩ : ∃ y_ : List Bool, y_ = (([true, true] : List Bool)) := ⟨_, rfl⟩
    replace H : ((bitmap_Estimate.f k 0 (([y194] : List (List Bool)))).bind fun t200 => (some (t200 == 196608))) = some r := by first | (rw [hy194]; with_reducible exact H) | (have H2_ := (Option.bind_some _ _).symm.trans H; rw [hy194]; with_reducible exact H2_) | (have H2_ := (Option.bind_some _ _).symm.trans H; with_reducible exact H2_) | with_reducible exact H | (rw [hy194]; exact H) | exact H
    have Ny194 := Aside0.mk hy194; clear hy194; obtain ⟨y197, hy197⟩ : ∃ y_ : List (List Bool), y_ = (([y194] : List (List Bool))) := ⟨_, rfl⟩
    replace H : ((bitmap_Estimate.f k 0 y197).bind fun t200 => (some (t200 == 196608))) = some r := by first | (rw [hy197]; with_reducible exact H) | (have H2_ := (Option.bind_some _ _).symm.trans H; rw [hy197]; with_reducible exact H2_) | (have H2_ := (Option.bind_some _ _).symm.trans H; with_reducible exact H2_) | with_reducible exact H | (rw [hy197]; exact H) | exact H
    have Ny197 := Aside0.mk hy197; clear hy197; replace H := Option.bind_eq_some_iff.mp H; obtain ⟨t200, A80, H⟩ := H; replace H : (some (t200 == 196608)) = some r := H; have A8 := Aside0.mk A80; clear A80; obtain rfl := Option.some.inj H
    go_enter Tryd.func11, Tryd.ntmps11
    go_wp2_with (first | ((with_reducible refine gate_callee (f := 8) rfl ?_); refine goesL_ (some 4) rfl rfl Tryd.func8 (by kernel_rfl) rfl #[.int .u64 1, .int .i64 1, .int .i64 2] rfl (by (try simp only [List.map_toArray, List.map_cons, List.map_nil]); first | done | rfl | (simp only [List.length_drop, List.length_take]; rfl)) ?_; (with_reducible refine (bitmap_New.calls k 1 1 2 t182 t183 t186 _ A1.out).mono ?_); rintro e w9 ⟨v184, rfl, ho0, hb⟩; refine ⟨_, rfl, ?_⟩; have n0_ := Aside0.mk (Kd.N_lower (Kd.N_mono (ok' := fun k_ => True) (Kd.S_N (Kd.S_bound ho0)) (fun k_ hk_ => trivial)) (below_size (bl_ HB))); have n1_ := Aside0.mk (below_step (bl_ HB) hb); clear HB; have HO185 := n0_; have HB := n1_; clear n0_ n1_; (try clear hb); (try clear hb2); (try clear hk); (try clear hi); (try clear ho0)) | ((with_reducible refine gate_dst (N := 1) rfl ?_); (try (refine gate_guard (by rfl) ?_; dsimp only)); refine box_event ?hg (N := 1) ?hd (cs := #[.int .u64 0, .slice none 0 0]) (t := 25) ?hr ?_; (case hd => rfl); (case hg => rfl); (case hr => first | (go_simp; done) | (go_simp; rfl)); intro gb187 hg w10 hbox hb; have n0_ := Aside0.mk (Kd.N_below (Kd.N_elderB (by (with_reducible repeat (first | apply Kd.N_alloc | apply Kd.N_drewN | apply Kd.N_drew)); exact HO185.out) gb187 (Nat.le_of_eq hg.symm)) hb); have n1_ := Aside0.mk (below_step (bl_ HB) hb); have n2_ := Aside0.mk (hbox); have n3_ := Aside0.mk (gl_ hg HB); have n4_ := Aside0.mk (gl_ hg HB); clear HO185; clear HB; have HO185 := n0_; have HB := n1_; have BK187 := n2_; have GW187 := n3_; have GE187 := n4_; clear n0_ n1_ n2_ n3_ n4_; clear hb hbox hg; have hcz11_0 : w10.cell? ⟨gb187, 0, none⟩ = some (.int .u64 0) := (blk_cell BK187.out 0).trans rfl; have hcz11_1 : w10.cell? ⟨gb187, 1, none⟩ = some (.slice none 0 0) := (blk_cell BK187.out 1).trans rfl; have hfz11_0 := blk_frozen BK187.out 0; have hfz11_1 := blk_frozen BK187.out 1; obtain ⟨Ao12, co12, eo12⟩ := Kd.N_slice HO185.out; subst eo12) | (go_at_call 17; (with_reducible refine (bitmap_Estimate.calls k t182 _ _ t183 t188 _ ?side1 ?side2 A3.out).mono ?_); (case side1 => refine (Kd.N_reads' (e := 33) (base := w.heap.size) (ok := fun k_ => (True ∧ k_ ≠ gb187)) (n := t183.length) (c := co12) ?_).2.2; exact (by (with_reducible repeat (first | apply Kd.N_alloc | apply Kd.N_drewN | apply Kd.N_drew)); exact (Kd.N_mono (Kd.N_far (p := ⟨gb187, 1, none⟩) (Kd.N_far (p := ⟨gb187, 0, none⟩) (Kd.N_mono HO185.out (fun k_ hk => (⟨hk, hk.2⟩ : _ ∧ k_ ≠ gb187))) (fun _ hk => hk.2) (.int .u64 t182)) (fun _ hk => hk.2) (.slice Ao12 t183.length co12)) (fun _ h_ => h_.1)))); (case side2 => exact (Kd.N_reads' HO185.out).2.1); rintro e w13 ⟨rfl, hb⟩; have n0_ := Aside0.mk (Kd.N_below (by (with_reducible repeat (first | apply Kd.N_alloc | apply Kd.N_drewN | apply Kd.N_drew)); exact (Kd.N_mono (Kd.N_far (p := ⟨gb187, 1, none⟩) (Kd.N_far (p := ⟨gb187, 0, none⟩) (Kd.N_mono HO185.out (fun k_ hk => (⟨hk, hk.2⟩ : _ ∧ k_ ≠ gb187))) (fun _ hk => hk.2) (.int .u64 t182)) (fun _ hk => hk.2) (.slice Ao12 t183.length co12)) (fun _ h_ => h_.1))) hb); have n1_ := Aside0.mk (blk_below (g := gb187) (o := .cells #[.int .u64 t182, .slice Ao12 t183.length co12] 25 (0, 0)) (by (with_reducible repeat (first | refine blk_drewN ?_ _ | refine blk_drew ?_ | refine blk_alloc ?_ _)); refine blk_put (cs := #[.int .u64 t182, .slice none 0 0]) ?_ 1 _ rfl; (with_reducible repeat (first | refine blk_drewN ?_ _ | refine blk_drew ?_ | refine blk_alloc ?_ _)); refine blk_put (cs := #[.int .u64 0, .slice none 0 0]) ?_ 0 _ rfl; (with_reducible repeat (first | refine blk_drewN ?_ _ | refine blk_drew ?_ | refine blk_alloc ?_ _)); exact BK187.out) hb); have n2_ := Aside0.mk (below_step (bl_ HB) hb); clear HO185; clear BK187; clear HB; have HO185 := n0_; have BK187 := n1_; have HB := n2_; clear n0_ n1_ n2_; (try clear hb); (try clear hb2); (try clear hk); (try clear hi); have hcz14_0 : w13.cell? ⟨gb187, 0, none⟩ = some (.int .u64 t182) := (blk_cell BK187.out 0).trans rfl; have hcz14_1 : w13.cell? ⟨gb187, 1, none⟩ = some (.slice Ao12 t183.length co12) := (blk_cell BK187.out 1).trans rfl; have hfz14_0 := blk_frozen BK187.out 0; have hfz14_1 := blk_frozen BK187.out 1) | (go_at_call 15; (with_reducible refine (bitmap_Add.calls k t182 (fun k_ => (True ∧ k_ ≠ gb187)) _ _ t183 (⟨#[97]⟩ : ByteArray) t189 t190 _ ?side1 A5.out ⟨tb_ HT0 HB⟩).mono ?_); (case side1 => exact Kd.N_V (HO185.out)); rintro e w15 ⟨v191, rfl, ho0, hb⟩; have n0_ := Aside0.mk (Kd.N_below (by (with_reducible repeat (first | apply Kd.N_alloc | apply Kd.N_drewN | apply Kd.N_drew)); exact HO185.out) hb); have n1_ := Aside0.mk (Kd.V_lower (Kd.V_mono (ok' := fun k_ => k_ ≠ gb187) ho0 (fun k_ hk_ => Or.elim hk_ (fun hs_ => hs_.2) (fun hn_ => (Kd.freshB (g := gb187) (o := .cells #[.int .u64 t182, .slice Ao12 t183.length co12] 25 (0, 0)) (bk_ BK187) k_ hn_)))) (below_size (bl_ HB))); have n2_ := Aside0.mk (blk_below (bk_ BK187) hb); have n3_ := Aside0.mk (below_step (bl_ HB) hb); clear HO185; clear BK187; clear HB; have HO185 := n0_; have HO192 := n1_; have BK187 := n2_; have HB := n3_; clear n0_ n1_ n2_ n3_; (try clear hb); (try clear hb2); (try clear hk); (try clear hi); (try clear ho0); obtain ⟨Ao16, co16, eo16⟩ := Kd.V_slice HO192.out; subst eo16) | (go_at_call 17; (with_reducible refine (bitmap_Estimate.calls k t189 _ _ t190 t193 _ ?side1 ?side2 A6.out).mono ?_); (case side1 => repeat (first | exact (Kd.V_reads' HO192.out).2.2 | (with_reducible refine Kd.C_alloc ?_ _) | (with_reducible refine Kd.C_drewN ?_ _) | (with_reducible refine Kd.C_drew ?_))); (case side2 => exact (Kd.V_reads' HO192.out).2.1); rintro e w17 ⟨rfl, hb⟩; have n0_ := Aside0.mk (Kd.N_below (by (with_reducible repeat (first | apply Kd.N_alloc | apply Kd.N_drewN | apply Kd.N_drew)); exact HO185.out) hb); have n1_ := Aside0.mk (Kd.V_below (vk_ HO192) hb); have n2_ := Aside0.mk (blk_below (bk_ BK187) hb); have n3_ := Aside0.mk (below_step (bl_ HB) hb); clear HO185; clear HO192; clear BK187; clear HB; have HO185 := n0_; have HO192 := n1_; have BK187 := n2_; have HB := n3_; clear n0_ n1_ n2_ n3_; (try clear hb); (try clear hb2); (try clear hk); (try clear hi)) | ((with_reducible refine gate_dst (N := 21) rfl ?_); (try (refine gate_guard (by rfl) ?_; dsimp only)); refine Kd.R_lit Kd.bool _ 4 ?hg (N := 21) ?hd (xs := ([true, true] : List Bool)) (inner := [.bool true, .bool true]) (ok := fun _ => True) (okp := fun _ => True) ?hr ?hp (fun _ hk => hk) trivial (Below.refl _ _) (Nat.le_refl _) (by simp) ?_; (case hd => rfl); (case hg => rfl); (case hr => first | (go_simp; done) | (go_simp; rfl)); (case hp => exact (Reps.one (show Kd.M Kd.bool _ _ _ true [.bool true] from rfl) (Reps.one (show Kd.M Kd.bool _ _ _ true [.bool true] from rfl) (Reps.none _ _)))); intro v195 w18 ho19 hb hg_ hnew_; clear hg_ hnew_; (first | rw [← Ny194.out] at ho19 | (simp only [Int.reduceToNat] at ho19; rw [← Ny194.out] at ho19)); have n0_ := Aside0.mk (Kd.N_elder' (by (with_reducible repeat (first | apply Kd.N_alloc | apply Kd.N_drewN | apply Kd.N_drew)); exact HO185.out) (Kd.R_base ho19) hb); have n1_ := Aside0.mk (Kd.V_elder' (vk_ HO192) (Kd.R_base ho19) hb); have n2_ := Aside0.mk (Kd.R_lower ho19 (below_size (bl_ HB))); have n3_ := Aside0.mk (blk_below (bk_ BK187) hb); have n4_ := Aside0.mk (below_step (bl_ HB) hb); clear HO185; clear HO192; clear BK187; clear HB; have HO185 := n0_; have HO192 := n1_; have HO196 := n2_; have BK187 := n3_; have HB := n4_; clear n0_ n1_ n2_ n3_ n4_; clear hb ho19; obtain ⟨Ao20, co20, eo20⟩ := Kd.R_slice HO196.out; subst eo20) | ((with_reducible refine gate_dst (N := 22) rfl ?_); (try (refine gate_guard (by rfl) ?_; dsimp only)); refine Kd.N_lit (Kd.slice 4 Kd.bool) _ 33 ?hg (N' := 22) ?hd (xs := ([y194] : List (List Bool))) (inner := [.slice Ao20 y194.length co20]) (ok := (fun k_ => some k_ ≠ (.slice Ao12 t183.length co12 : Value).ownBlock ∧ k_ ≠ gb187)) (okp := (fun k_ => some k_ ≠ (.slice Ao12 t183.length co12 : Value).ownBlock ∧ k_ ≠ gb187)) ?hr ?hp (fun _ hk => hk) ((show ∀ k_, w18.heap.size ≤ k_ → (fun k_ => some k_ ≠ (.slice Ao12 t183.length co12 : Value).ownBlock ∧ k_ ≠ gb187) k_ from fun k_ hk => ⟨Kd.fresh' (Kd.N_lt (by (with_reducible repeat (first | apply Kd.N_alloc | apply Kd.N_drewN | apply Kd.N_drew)); exact HO185.out)) k_ hk, Kd.freshB (g := gb187) (o := .cells #[.int .u64 t182, .slice Ao12 t183.length co12] 25 (0, 0)) (bk_ BK187) k_ hk⟩) _ (Nat.le_refl _)) (Below.refl _ _) (Nat.le_refl _) (by simp) ?_; (case hd => rfl); (case hg => rfl); (case hr => first | (go_simp; done) | (go_simp; rfl)); (case hp => exact (Reps.one (show Kd.FK (Kd.slice 4 Kd.bool) _ _ y194 [.slice Ao20 y194.length co20] from (Kd.FK_slice_mk (Kd.R_reads' (Kd.R_mono (ok' := (fun k_ => some k_ ≠ (.slice Ao12 t183.length co12 : Value).ownBlock ∧ k_ ≠ gb187)) (Kd.R_types (Kd.R_apart' (HO196.out) (Kd.N_typed HO185.out) (by decide)) BK187.out (by decide)) (fun k_ hk => ⟨hk.1.2, hk.2⟩))).2.1 (Kd.R_F (Kd.R_mono (ok' := (fun k_ => some k_ ≠ (.slice Ao12 t183.length co12 : Value).ownBlock ∧ k_ ≠ gb187)) (Kd.R_types (Kd.R_apart' (HO196.out) (Kd.N_typed HO185.out) (by decide)) BK187.out (by decide)) (fun k_ hk => ⟨hk.1.2, hk.2⟩))))) (Reps.none _ _))); intro v198 w21 ho22 hb hg_ hnew_; clear hg_ hnew_; (first | rw [← Ny197.out] at ho22 | (simp only [Int.reduceToNat] at ho22; rw [← Ny197.out] at ho22)); have n0_ := Aside0.mk (Kd.N_elder' (by (with_reducible repeat (first | apply Kd.N_alloc | apply Kd.N_drewN | apply Kd.N_drew)); exact HO185.out) (Kd.N_base ho22) hb); have n1_ := Aside0.mk (Kd.V_elder' (vk_ HO192) (Kd.N_base ho22) hb); have n2_ := Aside0.mk (Kd.N_lower ho22 (below_size (bl_ HB))); have n3_ := Aside0.mk (blk_below (bk_ BK187) hb); have n4_ := Aside0.mk (below_step (bl_ HB) hb); clear HO185; clear HO192; clear BK187; clear HB; clear HO196; have HO185 := n0_; have HO192 := n1_; have HO199 := n2_; have BK187 := n3_; have HB := n4_; clear n0_ n1_ n2_ n3_ n4_; clear hb ho22; obtain ⟨Ao23, co23, eo23⟩ := Kd.N_slice HO199.out; subst eo23) | (go_at_call 17; (with_reducible refine (bitmap_Estimate.calls k 0 _ _ y197 t200 _ ?side1 ?side2 A8.out).mono ?_); (case side1 => repeat (first | exact (Kd.N_reads' HO199.out).2.2 | (with_reducible refine Kd.C_alloc ?_ _) | (with_reducible refine Kd.C_drewN ?_ _) | (with_reducible refine Kd.C_drew ?_))); (case side2 => exact (Kd.N_reads' HO199.out).2.1); rintro e w24 ⟨rfl, hb⟩; have n0_ := Aside0.mk (Kd.N_below (by (with_reducible repeat (first | apply Kd.N_alloc | apply Kd.N_drewN | apply Kd.N_drew)); exact HO185.out) hb); have n1_ := Aside0.mk (Kd.V_below (vk_ HO192) hb); have n2_ := Aside0.mk (Kd.N_below (by (with_reducible repeat (first | apply Kd.N_alloc | apply Kd.N_drewN | apply Kd.N_drew)); exact HO199.out) hb); have n3_ := Aside0.mk (blk_below (bk_ BK187) hb); have n4_ := Aside0.mk (below_step (bl_ HB) hb); clear HO185; clear HO192; clear HO199; clear BK187; clear HB; have HO185 := n0_; have HO192 := n1_; have HO199 := n2_; have BK187 := n3_; have HB := n4_; clear n0_ n1_ n2_ n3_ n4_; (try clear hb); (try clear hb2); (try clear hk); (try clear hi)))
    go_ret; exact ⟨by first | rfl | (simp [errW_none, errW_some] <;> rfl) | (simp [*, errW_none, errW_some] <;> rfl), bl_ HB⟩
   ·rw [if_neg c7] at H; have c7b0 : (t193 == 65536) = false := beq_eq_false_iff_ne.mpr c7; have c7b1 : (t193 != 65536) = true := bne_iff_ne.mpr c7; obtain rfl := Option.some.inj H
    go_enter Tryd.func11, Tryd.ntmps11
    go_wp2_with (first | ((with_reducible refine gate_callee (f := 8) rfl ?_); refine goesL_ (some 4) rfl rfl Tryd.func8 (by kernel_rfl) rfl #[.int .u64 1, .int .i64 1, .int .i64 2] rfl (by (try simp only [List.map_toArray, List.map_cons, List.map_nil]); first | done | rfl | (simp only [List.length_drop, List.length_take]; rfl)) ?_; (with_reducible refine (bitmap_New.calls k 1 1 2 t182 t183 t186 _ A1.out).mono ?_); rintro e w25 ⟨v184, rfl, ho0, hb⟩; refine ⟨_, rfl, ?_⟩; have n0_ := Aside0.mk (Kd.N_lower (Kd.N_mono (ok' := fun k_ => True) (Kd.S_N (Kd.S_bound ho0)) (fun k_ hk_ => trivial)) (below_size (bl_ HB))); have n1_ := Aside0.mk (below_step (bl_ HB) hb); clear HB; have HO185 := n0_; have HB := n1_; clear n0_ n1_; (try clear hb); (try clear hb2); (try clear hk); (try clear hi); (try clear ho0)) | ((with_reducible refine gate_dst (N := 1) rfl ?_); (try (refine gate_guard (by rfl) ?_; dsimp only)); refine box_event ?hg (N := 1) ?hd (cs := #[.int .u64 0, .slice none 0 0]) (t := 25) ?hr ?_; (case hd => rfl); (case hg => rfl); (case hr => first | (go_simp; done) | (go_simp; rfl)); intro gb187 hg w26 hbox hb; have n0_ := Aside0.mk (Kd.N_below (Kd.N_elderB (by (with_reducible repeat (first | apply Kd.N_alloc | apply Kd.N_drewN | apply Kd.N_drew)); exact HO185.out) gb187 (Nat.le_of_eq hg.symm)) hb); have n1_ := Aside0.mk (below_step (bl_ HB) hb); have n2_ := Aside0.mk (hbox); have n3_ := Aside0.mk (gl_ hg HB); have n4_ := Aside0.mk (gl_ hg HB); clear HO185; clear HB; have HO185 := n0_; have HB := n1_; have BK187 := n2_; have GW187 := n3_; have GE187 := n4_; clear n0_ n1_ n2_ n3_ n4_; clear hb hbox hg; have hcz27_0 : w26.cell? ⟨gb187, 0, none⟩ = some (.int .u64 0) := (blk_cell BK187.out 0).trans rfl; have hcz27_1 : w26.cell? ⟨gb187, 1, none⟩ = some (.slice none 0 0) := (blk_cell BK187.out 1).trans rfl; have hfz27_0 := blk_frozen BK187.out 0; have hfz27_1 := blk_frozen BK187.out 1; obtain ⟨Ao28, co28, eo28⟩ := Kd.N_slice HO185.out; subst eo28) | (go_at_call 17; (with_reducible refine (bitmap_Estimate.calls k t182 _ _ t183 t188 _ ?side1 ?side2 A3.out).mono ?_); (case side1 => refine (Kd.N_reads' (e := 33) (base := w.heap.size) (ok := fun k_ => (True ∧ k_ ≠ gb187)) (n := t183.length) (c := co28) ?_).2.2; exact (by (with_reducible repeat (first | apply Kd.N_alloc | apply Kd.N_drewN | apply Kd.N_drew)); exact (Kd.N_mono (Kd.N_far (p := ⟨gb187, 1, none⟩) (Kd.N_far (p := ⟨gb187, 0, none⟩) (Kd.N_mono HO185.out (fun k_ hk => (⟨hk, hk.2⟩ : _ ∧ k_ ≠ gb187))) (fun _ hk => hk.2) (.int .u64 t182)) (fun _ hk => hk.2) (.slice Ao28 t183.length co28)) (fun _ h_ => h_.1)))); (case side2 => exact (Kd.N_reads' HO185.out).2.1); rintro e w29 ⟨rfl, hb⟩; have n0_ := Aside0.mk (Kd.N_below (by (with_reducible repeat (first | apply Kd.N_alloc | apply Kd.N_drewN | apply Kd.N_drew)); exact (Kd.N_mono (Kd.N_far (p := ⟨gb187, 1, none⟩) (Kd.N_far (p := ⟨gb187, 0, none⟩) (Kd.N_mono HO185.out (fun k_ hk => (⟨hk, hk.2⟩ : _ ∧ k_ ≠ gb187))) (fun _ hk => hk.2) (.int .u64 t182)) (fun _ hk => hk.2) (.slice Ao28 t183.length co28)) (fun _ h_ => h_.1))) hb); have n1_ := Aside0.mk (blk_below (g := gb187) (o := .cells #[.int .u64 t182, .slice Ao28 t183.length co28] 25 (0, 0)) (by (with_reducible repeat (first | refine blk_drewN ?_ _ | refine blk_drew ?_ | refine blk_alloc ?_ _)); refine blk_put (cs := #[.int .u64 t182, .slice none 0 0]) ?_ 1 _ rfl; (with_reducible repeat (first | refine blk_drewN ?_ _ | refine blk_drew ?_ | refine blk_alloc ?_ _)); refine blk_put (cs := #[.int .u64 0, .slice none 0 0]) ?_ 0 _ rfl; (with_reducible repeat (first | refine blk_drewN ?_ _ | refine blk_drew ?_ | refine blk_alloc ?_ _)); exact BK187.out) hb); have n2_ := Aside0.mk (below_step (bl_ HB) hb); clear HO185; clear BK187; clear HB; have HO185 := n0_; have BK187 := n1_; have HB := n2_; clear n0_ n1_ n2_; (try clear hb); (try clear hb2); (try clear hk); (try clear hi); have hcz30_0 : w29.cell? ⟨gb187, 0, none⟩ = some (.int .u64 t182) := (blk_cell BK187.out 0).trans rfl; have hcz30_1 : w29.cell? ⟨gb187, 1, none⟩ = some (.slice Ao28 t183.length co28) := (blk_cell BK187.out 1).trans rfl; have hfz30_0 := blk_frozen BK187.out 0; have hfz30_1 := blk_frozen BK187.out 1) | (go_at_call 15; (with_reducible refine (bitmap_Add.calls k t182 (fun k_ => (True ∧ k_ ≠ gb187)) _ _ t183 (⟨#[97]⟩ : ByteArray) t189 t190 _ ?side1 A5.out ⟨tb_ HT0 HB⟩).mono ?_); (case side1 => exact Kd.N_V (HO185.out)); rintro e w31 ⟨v191, rfl, ho0, hb⟩; have n0_ := Aside0.mk (Kd.N_below (by (with_reducible repeat (first | apply Kd.N_alloc | apply Kd.N_drewN | apply Kd.N_drew)); exact HO185.out) hb); have n1_ := Aside0.mk (Kd.V_lower (Kd.V_mono (ok' := fun k_ => k_ ≠ gb187) ho0 (fun k_ hk_ => Or.elim hk_ (fun hs_ => hs_.2) (fun hn_ => (Kd.freshB (g := gb187) (o := .cells #[.int .u64 t182, .slice Ao28 t183.length co28] 25 (0, 0)) (bk_ BK187) k_ hn_)))) (below_size (bl_ HB))); have n2_ := Aside0.mk (blk_below (bk_ BK187) hb); have n3_ := Aside0.mk (below_step (bl_ HB) hb); clear HO185; clear BK187; clear HB; have HO185 := n0_; have HO192 := n1_; have BK187 := n2_; have HB := n3_; clear n0_ n1_ n2_ n3_; (try clear hb); (try clear hb2); (try clear hk); (try clear hi); (try clear ho0); obtain ⟨Ao32, co32, eo32⟩ := Kd.V_slice HO192.out; subst eo32) | (go_at_call 17; (with_reducible refine (bitmap_Estimate.calls k t189 _ _ t190 t193 _ ?side1 ?side2 A6.out).mono ?_); (case side1 => repeat (first | exact (Kd.V_reads' HO192.out).2.2 | (with_reducible refine Kd.C_alloc ?_ _) | (with_reducible refine Kd.C_drewN ?_ _) | (with_reducible refine Kd.C_drew ?_))); (case side2 => exact (Kd.V_reads' HO192.out).2.1); rintro e w33 ⟨rfl, hb⟩; have n0_ := Aside0.mk (Kd.N_below (by (with_reducible repeat (first | apply Kd.N_alloc | apply Kd.N_drewN | apply Kd.N_drew)); exact HO185.out) hb); have n1_ := Aside0.mk (Kd.V_below (vk_ HO192) hb); have n2_ := Aside0.mk (blk_below (bk_ BK187) hb); have n3_ := Aside0.mk (below_step (bl_ HB) hb); clear HO185; clear HO192; clear BK187; clear HB; have HO185 := n0_; have HO192 := n1_; have BK187 := n2_; have HB := n3_; clear n0_ n1_ n2_ n3_; (try clear hb); (try clear hb2); (try clear hk); (try clear hi)))
    go_ret; exact ⟨by first | rfl | (simp [errW_none, errW_some] <;> rfl) | (simp [*, errW_none, errW_some] <;> rfl), bl_ HB⟩
  ·rw [if_neg c4] at H; have c4b0 : (t188 == 0) = false := beq_eq_false_iff_ne.mpr c4; have c4b1 : (t188 != 0) = true := bne_iff_ne.mpr c4; obtain rfl := Option.some.inj H
   go_enter Tryd.func11, Tryd.ntmps11
   go_wp2_with (first | ((with_reducible refine gate_callee (f := 8) rfl ?_); refine goesL_ (some 4) rfl rfl Tryd.func8 (by kernel_rfl) rfl #[.int .u64 1, .int .i64 1, .int .i64 2] rfl (by (try simp only [List.map_toArray, List.map_cons, List.map_nil]); first | done | rfl | (simp only [List.length_drop, List.length_take]; rfl)) ?_; (with_reducible refine (bitmap_New.calls k 1 1 2 t182 t183 t186 _ A1.out).mono ?_); rintro e w34 ⟨v184, rfl, ho0, hb⟩; refine ⟨_, rfl, ?_⟩; have n0_ := Aside0.mk (Kd.N_lower (Kd.N_mono (ok' := fun k_ => True) (Kd.S_N (Kd.S_bound ho0)) (fun k_ hk_ => trivial)) (below_size (bl_ HB))); have n1_ := Aside0.mk (below_step (bl_ HB) hb); clear HB; have HO185 := n0_; have HB := n1_; clear n0_ n1_; (try clear hb); (try clear hb2); (try clear hk); (try clear hi); (try clear ho0)) | ((with_reducible refine gate_dst (N := 1) rfl ?_); (try (refine gate_guard (by rfl) ?_; dsimp only)); refine box_event ?hg (N := 1) ?hd (cs := #[.int .u64 0, .slice none 0 0]) (t := 25) ?hr ?_; (case hd => rfl); (case hg => rfl); (case hr => first | (go_simp; done) | (go_simp; rfl)); intro gb187 hg w35 hbox hb; have n0_ := Aside0.mk (Kd.N_below (Kd.N_elderB (by (with_reducible repeat (first | apply Kd.N_alloc | apply Kd.N_drewN | apply Kd.N_drew)); exact HO185.out) gb187 (Nat.le_of_eq hg.symm)) hb); have n1_ := Aside0.mk (below_step (bl_ HB) hb); have n2_ := Aside0.mk (hbox); have n3_ := Aside0.mk (gl_ hg HB); have n4_ := Aside0.mk (gl_ hg HB); clear HO185; clear HB; have HO185 := n0_; have HB := n1_; have BK187 := n2_; have GW187 := n3_; have GE187 := n4_; clear n0_ n1_ n2_ n3_ n4_; clear hb hbox hg; have hcz36_0 : w35.cell? ⟨gb187, 0, none⟩ = some (.int .u64 0) := (blk_cell BK187.out 0).trans rfl; have hcz36_1 : w35.cell? ⟨gb187, 1, none⟩ = some (.slice none 0 0) := (blk_cell BK187.out 1).trans rfl; have hfz36_0 := blk_frozen BK187.out 0; have hfz36_1 := blk_frozen BK187.out 1; obtain ⟨Ao37, co37, eo37⟩ := Kd.N_slice HO185.out; subst eo37) | (go_at_call 17; (with_reducible refine (bitmap_Estimate.calls k t182 _ _ t183 t188 _ ?side1 ?side2 A3.out).mono ?_); (case side1 => refine (Kd.N_reads' (e := 33) (base := w.heap.size) (ok := fun k_ => (True ∧ k_ ≠ gb187)) (n := t183.length) (c := co37) ?_).2.2; exact (by (with_reducible repeat (first | apply Kd.N_alloc | apply Kd.N_drewN | apply Kd.N_drew)); exact (Kd.N_mono (Kd.N_far (p := ⟨gb187, 1, none⟩) (Kd.N_far (p := ⟨gb187, 0, none⟩) (Kd.N_mono HO185.out (fun k_ hk => (⟨hk, hk.2⟩ : _ ∧ k_ ≠ gb187))) (fun _ hk => hk.2) (.int .u64 t182)) (fun _ hk => hk.2) (.slice Ao37 t183.length co37)) (fun _ h_ => h_.1)))); (case side2 => exact (Kd.N_reads' HO185.out).2.1); rintro e w38 ⟨rfl, hb⟩; have n0_ := Aside0.mk (Kd.N_below (by (with_reducible repeat (first | apply Kd.N_alloc | apply Kd.N_drewN | apply Kd.N_drew)); exact (Kd.N_mono (Kd.N_far (p := ⟨gb187, 1, none⟩) (Kd.N_far (p := ⟨gb187, 0, none⟩) (Kd.N_mono HO185.out (fun k_ hk => (⟨hk, hk.2⟩ : _ ∧ k_ ≠ gb187))) (fun _ hk => hk.2) (.int .u64 t182)) (fun _ hk => hk.2) (.slice Ao37 t183.length co37)) (fun _ h_ => h_.1))) hb); have n1_ := Aside0.mk (blk_below (g := gb187) (o := .cells #[.int .u64 t182, .slice Ao37 t183.length co37] 25 (0, 0)) (by (with_reducible repeat (first | refine blk_drewN ?_ _ | refine blk_drew ?_ | refine blk_alloc ?_ _)); refine blk_put (cs := #[.int .u64 t182, .slice none 0 0]) ?_ 1 _ rfl; (with_reducible repeat (first | refine blk_drewN ?_ _ | refine blk_drew ?_ | refine blk_alloc ?_ _)); refine blk_put (cs := #[.int .u64 0, .slice none 0 0]) ?_ 0 _ rfl; (with_reducible repeat (first | refine blk_drewN ?_ _ | refine blk_drew ?_ | refine blk_alloc ?_ _)); exact BK187.out) hb); have n2_ := Aside0.mk (below_step (bl_ HB) hb); clear HO185; clear BK187; clear HB; have HO185 := n0_; have BK187 := n1_; have HB := n2_; clear n0_ n1_ n2_; (try clear hb); (try clear hb2); (try clear hk); (try clear hi)))
   go_ret; exact ⟨by first | rfl | (simp [errW_none, errW_some] <;> rfl) | (simp [*, errW_none, errW_some] <;> rfl), bl_ HB⟩
 ·rw [if_neg c2] at H; have c2b0 : (t186 == 0) = false := beq_eq_false_iff_ne.mpr c2; have c2b1 : (t186 != 0) = true := bne_iff_ne.mpr c2; obtain rfl := Option.some.inj H
  go_enter Tryd.func11, Tryd.ntmps11
  go_wp2_with (first | ((with_reducible refine gate_callee (f := 8) rfl ?_); refine goesL_ (some 4) rfl rfl Tryd.func8 (by kernel_rfl) rfl #[.int .u64 1, .int .i64 1, .int .i64 2] rfl (by (try simp only [List.map_toArray, List.map_cons, List.map_nil]); first | done | rfl | (simp only [List.length_drop, List.length_take]; rfl)) ?_; (with_reducible refine (bitmap_New.calls k 1 1 2 t182 t183 t186 _ A1.out).mono ?_); rintro e w39 ⟨v184, rfl, ho0, hb⟩; refine ⟨_, rfl, ?_⟩; have n0_ := Aside0.mk (Kd.N_lower (Kd.N_mono (ok' := fun k_ => True) (Kd.S_N (Kd.S_bound ho0)) (fun k_ hk_ => trivial)) (below_size (bl_ HB))); have n1_ := Aside0.mk (below_step (bl_ HB) hb); clear HB; have HO185 := n0_; have HB := n1_; clear n0_ n1_; (try clear hb); (try clear hb2); (try clear hk); (try clear hi); (try clear ho0)) | ((with_reducible refine gate_dst (N := 1) rfl ?_); (try (refine gate_guard (by rfl) ?_; dsimp only)); refine box_event ?hg (N := 1) ?hd (cs := #[.int .u64 0, .slice none 0 0]) (t := 25) ?hr ?_; (case hd => rfl); (case hg => rfl); (case hr => first | (go_simp; done) | (go_simp; rfl)); intro gb187 hg w40 hbox hb; have n0_ := Aside0.mk (Kd.N_below (Kd.N_elderB (by (with_reducible repeat (first | apply Kd.N_alloc | apply Kd.N_drewN | apply Kd.N_drew)); exact HO185.out) gb187 (Nat.le_of_eq hg.symm)) hb); have n1_ := Aside0.mk (below_step (bl_ HB) hb); have n2_ := Aside0.mk (hbox); have n3_ := Aside0.mk (gl_ hg HB); have n4_ := Aside0.mk (gl_ hg HB); clear HO185; clear HB; have HO185 := n0_; have HB := n1_; have BK187 := n2_; have GW187 := n3_; have GE187 := n4_; clear n0_ n1_ n2_ n3_ n4_; clear hb hbox hg; have hcz41_0 : w40.cell? ⟨gb187, 0, none⟩ = some (.int .u64 0) := (blk_cell BK187.out 0).trans rfl; have hcz41_1 : w40.cell? ⟨gb187, 1, none⟩ = some (.slice none 0 0) := (blk_cell BK187.out 1).trans rfl; have hfz41_0 := blk_frozen BK187.out 0; have hfz41_1 := blk_frozen BK187.out 1; obtain ⟨Ao42, co42, eo42⟩ := Kd.N_slice HO185.out; subst eo42))
  go_ret; exact ⟨by first | rfl | (simp [errW_none, errW_some] <;> rfl) | (simp [*, errW_none, errW_some] <;> rfl), bl_ HB⟩

/-! ### rillmeterref10_Short: function 21 -/
def rillmeterref10_Short.l0 : Nat → List ByteArray → Int → Option (Bool)
  | 0, _, _ => none
  | k + 1, x0, x5 => if x5 < (x0.length : Int) then (if 0 ≤ x5 then (if ((rdOf ByteArray.empty x0 x5).size : Int) > 100 then (some false) else (rillmeterref10_Short.l0 k x0 (wrap64 (x5 + 1)))) else (none)) else (some true)
def rillmeterref10_Short.f (k : Nat) (l0 : List ByteArray) (a1 : Int) : Option (Bool) := if (l0.length : Int) > a1 then (some false) else (rillmeterref10_Short.l0 k l0 0)
theorem rillmeterref10_Short.mono_l : ∀ k, (∀ y0 y1, LeO (rillmeterref10_Short.l0 k y0 y1) (rillmeterref10_Short.l0 (k + 1) y0 y1))
  | 0 => fun _ _ r h => by simp [rillmeterref10_Short.l0] at h
  | k + 1 => by
    have ih0 := rillmeterref10_Short.mono_l k
    · intro y0 y1
      unfold rillmeterref10_Short.l0
      repeat' first
      | (with_reducible exact ih0 _ _)
      | (with_reducible exact LeO.refl _)
      | (with_reducible exact LeO.none _)
      | (with_reducible refine LeO.ite ?_ ?_)
      | (with_reducible refine LeO.bind ?_ (fun _ => ?_))
      | exact ih0 _ _
      | exact LeO.none _
      | refine LeO.ite ?_ ?_
      | refine LeO.bind ?_ (fun _ => ?_)
theorem rillmeterref10_Short.mono : ∀ a0 a1 k, LeO (rillmeterref10_Short.f k a0 a1) (rillmeterref10_Short.f (k + 1) a0 a1) := by
  intro a0 a1 k
  have ih0 := rillmeterref10_Short.mono_l k
  unfold rillmeterref10_Short.f
  repeat' first
      | (with_reducible exact ih0 _ _)
      | (with_reducible exact LeO.refl _)
      | (with_reducible exact LeO.none _)
      | (with_reducible refine LeO.ite ?_ ?_)
      | (with_reducible refine LeO.bind ?_ (fun _ => ?_))
      | exact ih0 _ _
      | exact LeO.none _
      | refine LeO.ite ?_ ?_
      | refine LeO.bind ?_ (fun _ => ?_)
set_option maxHeartbeats 80000000 in
set_option maxRecDepth 100000 in
theorem rillmeterref10_Short.calls (k : Nat) (A0 : Option Addr) (c0 : Nat) (l0 : List ByteArray) (a1 : Int) (r : Bool) (w : World) (hr0 : Kd.C Kd.string w A0 l0.length l0) (hc0 : l0.length ≤ c0) (h : rillmeterref10_Short.f k l0 a1 = some r) :
    Calls Tryd.prog 21 #[.slice A0 l0.length c0, .int .i64 a1] w fun e w' => e = .returned (.bool r) ∧ Drawn0 w w' := by
 have HR0 := Aside0.mk hr0; have HC0 := Aside0.mk hc0; clear hr0 hc0; have H : (if (l0.length : Int) > a1 then (some false) else (rillmeterref10_Short.l0 k l0 0)) = some r := h; clear h
 by_cases c3 : (l0.length : Int) > a1
 ·rw [if_pos c3] at H; have c3b0 : decide (a1 < (l0.length : Int)) = true := decide_eq_true c3; clear c3; obtain rfl := Option.some.inj H
  go_enter Tryd.func21, Tryd.ntmps21
  go_wp2
  go_ret; exact ⟨by first | rfl | (simp; done) | (simp [*]; done), by repeat (first | exact Drawn0.refl _ | apply Drawn0.step)⟩
 ·rw [if_neg c3] at H; have c3b0 : decide (a1 < (l0.length : Int)) = false := decide_eq_false c3; clear c3; have H' := Aside0.mk H; clear H
  go_enter Tryd.func21, Tryd.ntmps21
  go_wp2
  go_loopg [5] k (fun kq v5 w' => ∃ (x5_1 : Int), v5 = .int .i64 x5_1 ∧ Aside0 (rillmeterref10_Short.l0 kq l0 x5_1 = some r) ∧ Aside0 (kq ≤ k) ∧ Drawn0 w w')
  case atStart => exact ⟨(0), (by first | rfl | (simp; done) | (simp [*]; done)), H', ⟨Nat.le_refl _⟩, by repeat (first | exact Drawn0.refl _ | apply Drawn0.step)⟩
  case round =>
   clear H'; (try clear c2); (try clear p2); (try clear c3); (try clear c3b0); obtain ⟨x5_1, rfl, HA, HK1, ⟨m1, rfl⟩⟩ := hrel
   cases gk with
   | zero => exact absurd HA.out (by simp [rillmeterref10_Short.l0])
   | succ k1 =>
    have H := HA.out; clear HA; simp only [rillmeterref10_Short.l0] at H
    by_cases c4 : x5_1 < (l0.length : Int)
    ·rw [if_pos c4] at H; have c4b0 : decide (x5_1 < (l0.length : Int)) = true := decide_eq_true c4; clear c4
     by_cases c5 : 0 ≤ x5_1
     ·rw [if_pos c5] at H; have c5b0 : decide (0 ≤ x5_1) = true := decide_eq_true c5; clear c5
      by_cases c6 : ((rdOf ByteArray.empty l0 x5_1).size : Int) > 100
      ·rw [if_pos c6] at H; have c6b0 : decide (100 < ((rdOf ByteArray.empty l0 x5_1).size : Int)) = true := decide_eq_true c6; have c6b1 : decide (100 < (rdOf ByteArray.empty l0 x5_1).size) = true := decide_eq_true (by omega); clear c6; obtain rfl := Option.some.inj H; have p201 : 0 ≤ (x5_1 : Int) := of_decide_eq_true (by first | (with_reducible assumption) | assumption); have q201 : x5_1 < (l0.length : Int) := of_decide_eq_true (by first | (with_reducible assumption) | assumption); obtain ⟨ad201, e201, hx201_0⟩ := Kd.at_string HR0.out x5_1 p201 q201
       cases e201; replace p201 := eq_true p201; replace q201 := eq_true q201
       go_wp2
       go_ret; exact ⟨by first | rfl | (simp; done) | (simp [*]; done), by repeat (first | exact Drawn0.refl _ | apply Drawn0.step)⟩
      ·rw [if_neg c6] at H; have c6b0 : decide (100 < ((rdOf ByteArray.empty l0 x5_1).size : Int)) = false := decide_eq_false c6; have c6b1 : decide (100 < (rdOf ByteArray.empty l0 x5_1).size) = false := decide_eq_false (by omega); clear c6; have H' := Aside0.mk H; clear H; have p201 : 0 ≤ (x5_1 : Int) := of_decide_eq_true (by first | (with_reducible assumption) | assumption); have q201 : x5_1 < (l0.length : Int) := of_decide_eq_true (by first | (with_reducible assumption) | assumption); obtain ⟨ad201, e201, hx201_0⟩ := Kd.at_string HR0.out x5_1 p201 q201
       cases e201; replace p201 := eq_true p201; replace q201 := eq_true q201
       go_wp2
       go_roundg k1
       case measure => have := HK1.out; omega
       case rel => exact ⟨(wrap64 (x5_1 + 1)), (by first | rfl | (simp; done) | (simp [*]; done)), H', ⟨by have := HK1.out; omega⟩, by repeat (first | exact Drawn0.refl _ | apply Drawn0.step)⟩
     ·rw [if_neg c5] at H; exact absurd H (by simp)
    ·rw [if_neg c4] at H; have c4b0 : decide (x5_1 < (l0.length : Int)) = false := decide_eq_false c4; clear c4; obtain rfl := Option.some.inj H
     go_wp2
     go_ret; exact ⟨by first | rfl | (simp; done) | (simp [*]; done), by repeat (first | exact Drawn0.refl _ | apply Drawn0.step)⟩

/-! ### rillmeterlaw13_adds: function 22 -/
def rillmeterlaw13_adds.l0 : Nat → List ByteArray → Int → Int → Int → List (List Bool) → Option (Int × (List (List Bool)))
  | 0, _, _, _, _, _ => none
  | k + 1, x7, x8, x9, x203000, x203001 => if x9 < x8 then (if 0 ≤ x9 then (if x9 < (x7.length : Int) then ((bitmap_Add.f k x203000 x203001 (rdOf ByteArray.empty x7 x9)).bind fun bt205 => (rillmeterlaw13_adds.l0 k x7 x8 (wrap64 (x9 + 1)) bt205.1 bt205.2)) else (none)) else (none)) else (some (x203000, x203001))
def rillmeterlaw13_adds.f (k : Nat) (a0_0 : Int) (l0_1 : List (List Bool)) (l1 : List ByteArray) : Option (Int × (List (List Bool))) := rillmeterlaw13_adds.l0 k l1 (l1.length : Int) 0 a0_0 l0_1
theorem rillmeterlaw13_adds.mono_l : ∀ k, (∀ y0 y1 y2 y3 y4, LeO (rillmeterlaw13_adds.l0 k y0 y1 y2 y3 y4) (rillmeterlaw13_adds.l0 (k + 1) y0 y1 y2 y3 y4))
  | 0 => fun _ _ _ _ _ r h => by simp [rillmeterlaw13_adds.l0] at h
  | k + 1 => by
    have ih0 := rillmeterlaw13_adds.mono_l k
    · intro y0 y1 y2 y3 y4
      unfold rillmeterlaw13_adds.l0
      repeat' first
      | (with_reducible exact ih0 _ _ _ _ _)
      | (with_reducible exact bitmap_Add.mono _ _ _ _)
      | (with_reducible exact LeO.refl _)
      | (with_reducible exact LeO.none _)
      | (with_reducible refine LeO.ite ?_ ?_)
      | (with_reducible refine LeO.bind ?_ (fun _ => ?_))
      | exact ih0 _ _ _ _ _
      | exact bitmap_Add.mono _ _ _ _
      | exact LeO.none _
      | refine LeO.ite ?_ ?_
      | refine LeO.bind ?_ (fun _ => ?_)
theorem rillmeterlaw13_adds.mono : ∀ a0 a1 a2 k, LeO (rillmeterlaw13_adds.f k a0 a1 a2) (rillmeterlaw13_adds.f (k + 1) a0 a1 a2) := by
  intro a0 a1 a2 k
  have ih0 := rillmeterlaw13_adds.mono_l k
  unfold rillmeterlaw13_adds.f
  repeat' first
      | (with_reducible exact ih0 _ _ _ _ _)
      | (with_reducible exact bitmap_Add.mono _ _ _ _)
      | (with_reducible exact LeO.refl _)
      | (with_reducible exact LeO.none _)
      | (with_reducible refine LeO.ite ?_ ?_)
      | (with_reducible refine LeO.bind ?_ (fun _ => ?_))
      | exact ih0 _ _ _ _ _
      | exact bitmap_Add.mono _ _ _ _
      | exact LeO.none _
      | refine LeO.ite ?_ ?_
      | refine LeO.bind ?_ (fun _ => ?_)
set_option maxHeartbeats 80000000 in
set_option maxRecDepth 100000 in
theorem rillmeterlaw13_adds.calls (k : Nat) (a0_0 : Int) (P0_1_ : Nat → Prop) (A0_1 : Option Addr) (c0_1 : Nat) (l0_1 : List (List Bool)) (A1 : Option Addr) (c1 : Nat) (l1 : List ByteArray) (r1 : Int) (r2 : List (List Bool)) (w : World) (hs0_1 : Kd.V (Kd.slice 4 Kd.bool) 33 w w.heap.size (fun k_ => P0_1_ k_) (.slice A0_1 l0_1.length c0_1) l0_1) (hr1 : Kd.C Kd.string w A1 l1.length l1) (hc1 : l1.length ≤ c1) (h : rillmeterlaw13_adds.f k a0_0 l0_1 l1 = some (r1, r2)) (HT0 : Aside0 (Tab w)) :
    Calls Tryd.prog 22 #[.agg #[.int .u64 a0_0, .slice A0_1 l0_1.length c0_1], .slice A1 l1.length c1] w fun e w' => ∃ v1_ : Value, e = .returned (.agg #[.int .u64 r1, v1_]) ∧ Kd.V (Kd.slice 4 Kd.bool) 33 w' w.heap.size (fun k_ => (P0_1_ k_ ∨ w.heap.size ≤ k_)) v1_ r2 ∧ Below w.heap.size w w' := by
 have hu25 := Tryd.underlying25; have HO0_1 := Aside0.mk (show Kd.V (Kd.slice 4 Kd.bool) 33 w w.heap.size (fun k_ => (P0_1_ k_ ∨ w.heap.size ≤ k_)) (.slice A0_1 l0_1.length c0_1) l0_1 from Kd.V_mono hs0_1 (fun k_ hk => .inl hk)); have HR1 := Aside0.mk hr1; have HC1 := Aside0.mk hc1; clear hr1 hc1; have HB := Aside0.mk (Below.refl w.heap.size w); have H : (rillmeterlaw13_adds.l0 k l1 (l1.length : Int) 0 a0_0 l0_1) = some (r1, r2) := h; clear h; have H' := Aside0.mk H; clear H
 go_enter Tryd.func22, Tryd.ntmps22
 go_wp2_with (first | ((with_reducible refine gate_dst (N := 2) rfl ?_); refine box_event ?hg (N := 2) ?hd (cs := #[.int .u64 a0_0, .slice A0_1 l0_1.length c0_1]) (t := 25) ?hr ?_; (case hd => rfl); (case hg => rfl); (case hr => first | (go_simp; done) | (go_simp; rfl)); intro gb202 hg w3 hbox hb; have n0_ := Aside0.mk (Kd.V_below (Kd.V_elderB (vk_ HO0_1) gb202 (Nat.le_of_eq hg.symm)) hb); have n1_ := Aside0.mk (below_step (bl_ HB) hb); have n2_ := Aside0.mk (hbox); have n3_ := Aside0.mk (gl_ hg HB); have n4_ := Aside0.mk (gl_ hg HB); clear HO0_1; clear HB; have HO0_1 := n0_; have HB := n1_; have BK202 := n2_; have GW202 := n3_; have GE202 := n4_; clear n0_ n1_ n2_ n3_ n4_; clear hb hbox hg) | ((with_reducible refine gate_dst (N := 4) rfl ?_); refine box_event ?hg (N := 4) ?hd (cs := #[.int .u64 0, .slice none 0 0]) (t := 25) ?hr ?_; (case hd => rfl); (case hg => rfl); (case hr => first | (go_simp; done) | (go_simp; rfl)); intro gb203 hg w4 hbox hb; have n0_ := Aside0.mk (Kd.V_below (Kd.V_elderB (vk_ HO0_1) gb203 (Nat.le_of_eq hg.symm)) hb); have n1_ := Aside0.mk (blk_below (bk_ BK202) hb); have n2_ := Aside0.mk (below_step (bl_ HB) hb); have n3_ := Aside0.mk (hbox); have n4_ := Aside0.mk (gl_ hg HB); have n5_ := Aside0.mk (gl_ hg HB); have n6_ := Aside0.mk (nl_ hg BK202); have n7_ := Aside0.mk (ng_ hg BK202); clear HO0_1; clear BK202; clear HB; have HO0_1 := n0_; have BK202 := n1_; have HB := n2_; have BK203 := n3_; have GW203 := n4_; have GE203 := n5_; have NB202_203 := n6_; have NB203_202 := n7_; clear n0_ n1_ n2_ n3_ n4_ n5_ n6_ n7_; clear hb hbox hg))
 go_loopg [9] k (fun kq v9 w' => ∃ (x9_1 : Int) (x203000_1 : Int) (x203001_1 : List (List Bool)) (u203001 : Value), v9 = .int .i64 x9_1 ∧ Aside0 (rillmeterlaw13_adds.l0 kq l1 (l1.length : Int) x9_1 x203000_1 x203001_1 = some (r1, r2)) ∧ Aside0 (kq ≤ k) ∧ Aside0 (Kd.V (Kd.slice 4 Kd.bool) 33 w' w.heap.size (fun k_ => (P0_1_ k_ ∨ w.heap.size ≤ k_) ∧ k_ ≠ gb202 ∧ k_ ≠ gb203) u203001 x203001_1) ∧ Aside0 (w'.heap[gb202]? = some (.cells #[.int .u64 x203000_1, u203001] 25 (0, 0))) ∧ Aside0 (w'.heap[gb203]? = some (.cells #[.int .u64 0, (.slice none 0 0)] 25 (0, 0))) ∧ Aside0 (Below w.heap.size w w'))
 case atStart => exact ⟨(0), (a0_0), (l0_1), (.slice A0_1 l0_1.length c0_1), (by first | rfl | (simp; done) | (simp [*]; done)), H', ⟨Nat.le_refl _⟩, ⟨by (with_reducible repeat (first | apply Kd.V_alloc | apply Kd.V_drewN | apply Kd.V_drew)); exact Kd.V_mono HO0_1.out (fun _ hk => ⟨hk.1.1, ⟨hk.1.2, hk.2⟩⟩)⟩, ⟨bk_ BK202⟩, ⟨bk_ BK203⟩, ⟨bl_ HB⟩⟩
 case round =>
  clear H'; (try clear c1); (try clear c2); (try clear p2); obtain ⟨x9_1, x203000_1, x203001_1, u203001, rfl, HA, HK1, HO_203001, BK202, BK203, HB⟩ := hrel
  cases gk with
  | zero => exact absurd HA.out (by simp [rillmeterlaw13_adds.l0])
  | succ k1 =>
   have H := HA.out; clear HA; simp only [rillmeterlaw13_adds.l0] at H
   by_cases c5 : x9_1 < (l1.length : Int)
   ·rw [if_pos c5] at H; have c5b0 : decide (x9_1 < (l1.length : Int)) = true := decide_eq_true c5; clear c5
    by_cases c6 : 0 ≤ x9_1
    ·rw [if_pos c6] at H; have c6b0 : decide (0 ≤ x9_1) = true := decide_eq_true c6; clear c6
     by_cases c7 : x9_1 < (l1.length : Int)
     ·rw [if_pos c7] at H; have c7b0 : decide (x9_1 < (l1.length : Int)) = true := decide_eq_true c7; clear c7; replace H := Option.bind_eq_some_iff.mp H; obtain ⟨⟨t205, t206⟩, A80, H⟩ := H; replace H : (rillmeterlaw13_adds.l0 k1 l1 (l1.length : Int) (wrap64 (x9_1 + 1)) t205 t206) = some (r1, r2) := H; have A8 := Aside0.mk A80; clear A80; have H' := Aside0.mk H; clear H; have p204 : 0 ≤ (x9_1 : Int) := of_decide_eq_true (by first | (with_reducible assumption) | assumption); have q204 : x9_1 < (l1.length : Int) := of_decide_eq_true (by first | (with_reducible assumption) | assumption); obtain ⟨ad204, e204, hx204_0⟩ := Kd.at_string HR1.out x9_1 p204 q204
      cases e204; (try replace hx204_0 := (HB.out.cell (World.block_lt_of_cell? w _ hx204_0)).trans hx204_0); replace p204 := eq_true p204; replace q204 := eq_true q204; have hnb9 := NB202_203.out; have hnc9 := NB203_202.out; have hcz10_0 : wr.cell? ⟨gb202, 0, none⟩ = some (.int .u64 x203000_1) := (blk_cell BK202.out 0).trans rfl; have hcz10_1 : wr.cell? ⟨gb202, 1, none⟩ = some (u203001) := (blk_cell BK202.out 1).trans rfl; have hfz10_0 := blk_frozen BK202.out 0; have hfz10_1 := blk_frozen BK202.out 1; obtain ⟨Ao11, co11, eo11⟩ := Kd.V_slice HO_203001.out; subst eo11
      go_wp2_with (first | ((with_reducible refine gate_callee (f := 15) rfl ?_); refine goesL_ (some 15) rfl rfl Tryd.func15 (by kernel_rfl) rfl #[.agg #[.int .u64 x203000_1, .slice Ao11 x203001_1.length co11], .string (rdOf ByteArray.empty l1 x9_1)] rfl (by (try simp only [List.map_toArray, List.map_cons, List.map_nil]); first | done | rfl | (simp only [List.length_drop, List.length_take]; rfl)) ?_; (with_reducible refine (bitmap_Add.calls k1 x203000_1 (fun k_ => ((P0_1_ k_ ∨ w.heap.size ≤ k_) ∧ (k_ ≠ gb202 ∧ k_ ≠ gb203))) _ _ x203001_1 (rdOf ByteArray.empty l1 x9_1) t205 t206 _ ?side1 A8.out ⟨tb_ HT0 HB⟩).mono ?_); (case side1 => exact HO_203001.out); rintro e w12 ⟨v207, rfl, ho0, hb⟩; refine ⟨_, rfl, ?_⟩; have n0_ := Aside0.mk (Kd.V_below (vk_ HO_203001) hb); have n1_ := Aside0.mk (Kd.V_lower (Kd.V_mono (ok' := fun k_ => (P0_1_ k_ ∨ w.heap.size ≤ k_) ∧ k_ ≠ gb202 ∧ k_ ≠ gb203) ho0 (fun k_ hk_ => ⟨Or.elim hk_ (fun hs_ => hs_.1) (fun hn_ => (.inr (Nat.le_trans (below_size (bl_ HB)) hn_))), Or.elim hk_ (fun hs_ => hs_.2.1) (fun hn_ => (Kd.freshB (g := gb202) (o := .cells #[.int .u64 x203000_1, .slice Ao11 x203001_1.length co11] 25 (0, 0)) (bk_ BK202) k_ hn_)), Or.elim hk_ (fun hs_ => hs_.2.2) (fun hn_ => (Kd.freshB (g := gb203) (o := .cells #[.int .u64 0, .slice none 0 0] 25 (0, 0)) (bk_ BK203) k_ hn_))⟩)) (below_size (bl_ HB))); have n2_ := Aside0.mk (blk_below (bk_ BK202) hb); have n3_ := Aside0.mk (blk_below (bk_ BK203) hb); have n4_ := Aside0.mk (below_step (bl_ HB) hb); clear HO_203001; clear BK202; clear BK203; clear HB; have HO_203001 := n0_; have HO208 := n1_; have BK202 := n2_; have BK203 := n3_; have HB := n4_; clear n0_ n1_ n2_ n3_ n4_; (try clear hb); (try clear hb2); (try clear hk); (try clear hi); (try clear ho0); have hcz13_0 : w12.cell? ⟨gb202, 0, none⟩ = some (.int .u64 x203000_1) := (blk_cell BK202.out 0).trans rfl; have hcz13_1 : w12.cell? ⟨gb202, 1, none⟩ = some (.slice Ao11 x203001_1.length co11) := (blk_cell BK202.out 1).trans rfl; have hfz13_0 := blk_frozen BK202.out 0; have hfz13_1 := blk_frozen BK202.out 1; obtain ⟨Ao14, co14, eo14⟩ := Kd.V_slice HO208.out; subst eo14))
      go_roundg k1
      case measure => have := HK1.out; omega
      case rel => exact ⟨(wrap64 (x9_1 + 1)), (t205), (t206), (.slice Ao14 t206.length co14), (by first | rfl | (simp; done) | (simp [*]; done)), H', ⟨by have := HK1.out; omega⟩, ⟨by (with_reducible repeat (first | apply Kd.V_alloc | apply Kd.V_drewN | apply Kd.V_drew)); exact Kd.V_mono (Kd.V_far (p := ⟨gb202, 1, none⟩) (Kd.V_far (p := ⟨gb202, 0, none⟩) (Kd.V_mono HO208.out (fun k_ hk => (⟨hk, hk.2.1⟩ : _ ∧ k_ ≠ gb202))) (fun _ hk => hk.2) (.int .u64 t205)) (fun _ hk => hk.2) (.slice Ao14 t206.length co14)) (fun _ hk => ⟨hk.1.1, ⟨hk.1.2.1, hk.1.2.2⟩⟩)⟩, ⟨by (with_reducible repeat (first | refine blk_drewN ?_ _ | refine blk_drew ?_ | refine blk_alloc ?_ _)); refine blk_put (cs := #[.int .u64 t205, .slice Ao11 x203001_1.length co11]) ?_ 1 _ rfl; (with_reducible repeat (first | refine blk_drewN ?_ _ | refine blk_drew ?_ | refine blk_alloc ?_ _)); refine blk_put (cs := #[.int .u64 x203000_1, .slice Ao11 x203001_1.length co11]) ?_ 0 _ rfl; (with_reducible repeat (first | refine blk_drewN ?_ _ | refine blk_drew ?_ | refine blk_alloc ?_ _)); exact BK202.out⟩, ⟨by (with_reducible repeat (first | refine blk_drewN ?_ _ | refine blk_drew ?_ | refine blk_alloc ?_ _)); refine blk_far ?_ NB203_202.out _; (with_reducible repeat (first | refine blk_drewN ?_ _ | refine blk_drew ?_ | refine blk_alloc ?_ _)); refine blk_far ?_ NB203_202.out _; (with_reducible repeat (first | refine blk_drewN ?_ _ | refine blk_drew ?_ | refine blk_alloc ?_ _)); exact BK203.out⟩, ⟨bl_ HB⟩⟩
     ·rw [if_neg c7] at H; exact absurd H (by simp)
    ·rw [if_neg c6] at H; exact absurd H (by simp)
   ·rw [if_neg c5] at H; have c5b0 : decide (x9_1 < (l1.length : Int)) = false := decide_eq_false c5; clear c5; simp only [Option.some.injEq, Prod.mk.injEq] at H; obtain ⟨rfl, rfl⟩ := H; have hnb15 := NB202_203.out; have hnc15 := NB203_202.out; have hcz16_0 : wr.cell? ⟨gb202, 0, none⟩ = some (.int .u64 x203000_1) := (blk_cell BK202.out 0).trans rfl; have hcz16_1 : wr.cell? ⟨gb202, 1, none⟩ = some (u203001) := (blk_cell BK202.out 1).trans rfl; have hfz16_0 := blk_frozen BK202.out 0; have hfz16_1 := blk_frozen BK202.out 1; have hcz17_0 : wr.cell? ⟨gb203, 0, none⟩ = some (.int .u64 0) := (blk_cell BK203.out 0).trans rfl; have hcz17_1 : wr.cell? ⟨gb203, 1, none⟩ = some (.slice none 0 0) := (blk_cell BK203.out 1).trans rfl; have hfz17_0 := blk_frozen BK203.out 0; have hfz17_1 := blk_frozen BK203.out 1; obtain ⟨Ao18, co18, eo18⟩ := Kd.V_slice HO_203001.out; subst eo18
    go_wp2
    refine bodyPost_ret (results_cell_row rfl _ _ gb203 25 #[.int .u64 x203000_1, .slice Ao18 x203001_1.length co18] (0, 0) _ rfl (by (with_reducible repeat (first | refine blk_drewN ?_ _ | refine blk_drew ?_ | refine blk_alloc ?_ _)); refine blk_put (cs := #[.int .u64 x203000_1, .slice none 0 0]) ?_ 1 _ rfl; (with_reducible repeat (first | refine blk_drewN ?_ _ | refine blk_drew ?_ | refine blk_alloc ?_ _)); refine blk_put (cs := #[.int .u64 0, .slice none 0 0]) ?_ 0 _ rfl; (with_reducible repeat (first | refine blk_drewN ?_ _ | refine blk_drew ?_ | refine blk_alloc ?_ _)); exact BK203.out) Tryd.underlying25 rfl (by kernel_rfl)) rfl ?_; exact ⟨_, by first | rfl | (simp [errW_none, errW_some] <;> rfl) | (simp [*, errW_none, errW_some] <;> rfl), by (with_reducible repeat (first | apply Kd.V_alloc | apply Kd.V_drewN | apply Kd.V_drew)); exact Kd.V_mono (Kd.V_far (p := ⟨gb203, 1, none⟩) (Kd.V_far (p := ⟨gb203, 0, none⟩) (Kd.V_mono HO_203001.out (fun k_ hk => (⟨hk, hk.2.2⟩ : _ ∧ k_ ≠ gb203))) (fun _ hk => hk.2) (.int .u64 x203000_1)) (fun _ hk => hk.2) (.slice Ao18 x203001_1.length co18)) (fun _ hk => hk.1.1), bl_ HB⟩

/-! ### bitmap_Merge: function 23 -/
mutual
def bitmap_Merge.j0 : Nat → Bool → Int → List (List Bool) → List (List Bool) → Option (Int × (List (List Bool)) × Int)
  | 0, _, _, _, _ => none
  | k + 1, x47, s, a, b => if x47 = true then (some (0, ([] : List (List Bool)), 1)) else (if 0 < (a.length : Int) then ((bitmap_New.f k s (a.length : Int) ((rd_L1 a 0).length : Int)).bind fun bt205 => (bitmap_Merge.l0 k a b bt205.2.1 (bt205.2.1.length : Int) 0 bt205.1)) else (none))
def bitmap_Merge.l0 : Nat → List (List Bool) → List (List Bool) → List (List Bool) → Int → Int → Int → Option (Int × (List (List Bool)) × Int)
  | 0, _, _, _, _, _, _ => none
  | k + 1, a, b, cur, n, i, s => if i < n then (if 0 ≤ i then (if i < (cur.length : Int) then (bitmap_Merge.l1 k a b cur n i ((rd_L1 cur i).length : Int) 0 s) else (none)) else (none)) else (some (s, cur, 0))
def bitmap_Merge.l1 : Nat → List (List Bool) → List (List Bool) → List (List Bool) → Int → Int → Int → Int → Int → Option (Int × (List (List Bool)) × Int)
  | 0, _, _, _, _, _, _, _, _ => none
  | k + 1, a, b, cur, n, i, m, c, s => if c < m then (if 0 ≤ c then (if i < (a.length : Int) then (if c < ((rd_L1 a i).length : Int) then (if rdOf false (rd_L1 a i) c = true then (bitmap_Merge.l1 k a b (cur.set (i : Int).toNat ((rd_L1 cur i).set (c : Int).toNat true)) n i m (wrap64 (c + 1)) s) else (if i < (b.length : Int) then (if c < ((rd_L1 b i).length : Int) then (bitmap_Merge.l1 k a b (cur.set (i : Int).toNat ((rd_L1 cur i).set (c : Int).toNat (rdOf false (rd_L1 b i) c))) n i m (wrap64 (c + 1)) s) else (none)) else (none))) else (none)) else (none)) else (none)) else (bitmap_Merge.l0 k a b cur n (wrap64 (i + 1)) s)
end
def bitmap_Merge.f (k : Nat) (a0_0 : Int) (l0_1 : List (List Bool)) (a1_0 : Int) (l1_1 : List (List Bool)) : Option (Int × (List (List Bool)) × Int) := (bitmap_Right.f a0_0 l0_1).bind fun t200 => (if t200 = true then ((bitmap_Right.f a1_0 l1_1).bind fun t201 => (if t201 = true then (if a0_0 = a1_0 then (if (l0_1.length : Int) = (l1_1.length : Int) then (if 0 < (l0_1.length : Int) then (if 0 < (l1_1.length : Int) then (bitmap_Merge.j0 k (((rd_L1 l0_1 0).length : Int) != ((rd_L1 l1_1 0).length : Int)) a0_0 l0_1 l1_1) else (none)) else (none)) else (bitmap_Merge.j0 k true a0_0 l0_1 l1_1)) else (bitmap_Merge.j0 k true a0_0 l0_1 l1_1)) else (bitmap_Merge.j0 k true a0_0 l0_1 l1_1))) else (bitmap_Merge.j0 k true a0_0 l0_1 l1_1))
theorem bitmap_Merge.mono_l : ∀ k, (∀ y0 y1 y2 y3, LeO (bitmap_Merge.j0 k y0 y1 y2 y3) (bitmap_Merge.j0 (k + 1) y0 y1 y2 y3)) ∧ (∀ y0 y1 y2 y3 y4 y5, LeO (bitmap_Merge.l0 k y0 y1 y2 y3 y4 y5) (bitmap_Merge.l0 (k + 1) y0 y1 y2 y3 y4 y5)) ∧ (∀ y0 y1 y2 y3 y4 y5 y6 y7, LeO (bitmap_Merge.l1 k y0 y1 y2 y3 y4 y5 y6 y7) (bitmap_Merge.l1 (k + 1) y0 y1 y2 y3 y4 y5 y6 y7))
  | 0 => ⟨fun _ _ _ _ r h => by simp [bitmap_Merge.j0] at h, fun _ _ _ _ _ _ r h => by simp [bitmap_Merge.l0] at h, fun _ _ _ _ _ _ _ _ r h => by simp [bitmap_Merge.l1] at h⟩
  | k + 1 => by
    obtain ⟨ih0, ih1, ih2⟩ := bitmap_Merge.mono_l k
    refine ⟨?_, ?_, ?_⟩
    · intro y0 y1 y2 y3
      unfold bitmap_Merge.j0
      repeat' first
      | (with_reducible exact bitmap_New.mono _ _ _ _)
      | (with_reducible exact ih1 _ _ _ _ _ _)
      | (with_reducible exact ih2 _ _ _ _ _ _ _ _)
      | (with_reducible exact LeO.refl _)
      | (with_reducible exact LeO.none _)
      | (with_reducible refine LeO.ite ?_ ?_)
      | (with_reducible refine LeO.bind ?_ (fun _ => ?_))
      | exact bitmap_New.mono _ _ _ _
      | exact ih1 _ _ _ _ _ _
      | exact ih2 _ _ _ _ _ _ _ _
      | exact LeO.none _
      | refine LeO.ite ?_ ?_
      | refine LeO.bind ?_ (fun _ => ?_)
    · intro y0 y1 y2 y3 y4 y5
      unfold bitmap_Merge.l0
      repeat' first
      | (with_reducible exact bitmap_New.mono _ _ _ _)
      | (with_reducible exact ih1 _ _ _ _ _ _)
      | (with_reducible exact ih2 _ _ _ _ _ _ _ _)
      | (with_reducible exact LeO.refl _)
      | (with_reducible exact LeO.none _)
      | (with_reducible refine LeO.ite ?_ ?_)
      | (with_reducible refine LeO.bind ?_ (fun _ => ?_))
      | exact bitmap_New.mono _ _ _ _
      | exact ih1 _ _ _ _ _ _
      | exact ih2 _ _ _ _ _ _ _ _
      | exact LeO.none _
      | refine LeO.ite ?_ ?_
      | refine LeO.bind ?_ (fun _ => ?_)
    · intro y0 y1 y2 y3 y4 y5 y6 y7
      unfold bitmap_Merge.l1
      repeat' first
      | (with_reducible exact bitmap_New.mono _ _ _ _)
      | (with_reducible exact ih1 _ _ _ _ _ _)
      | (with_reducible exact ih2 _ _ _ _ _ _ _ _)
      | (with_reducible exact LeO.refl _)
      | (with_reducible exact LeO.none _)
      | (with_reducible refine LeO.ite ?_ ?_)
      | (with_reducible refine LeO.bind ?_ (fun _ => ?_))
      | exact bitmap_New.mono _ _ _ _
      | exact ih1 _ _ _ _ _ _
      | exact ih2 _ _ _ _ _ _ _ _
      | exact LeO.none _
      | refine LeO.ite ?_ ?_
      | refine LeO.bind ?_ (fun _ => ?_)
theorem bitmap_Merge.mono : ∀ a0 a1 a2 a3 k, LeO (bitmap_Merge.f k a0 a1 a2 a3) (bitmap_Merge.f (k + 1) a0 a1 a2 a3) := by
  intro a0 a1 a2 a3 k
  obtain ⟨ih0, ih1, ih2⟩ := bitmap_Merge.mono_l k
  unfold bitmap_Merge.f
  repeat' first
      | (with_reducible exact ih0 _ _ _ _)
      | (with_reducible exact ih1 _ _ _ _ _)
      | (with_reducible exact ih2 _ _ _ _ _ _ _)
      | (with_reducible exact bitmap_New.mono _ _ _ _)
      | (with_reducible exact LeO.refl _)
      | (with_reducible exact LeO.none _)
      | (with_reducible refine LeO.ite ?_ ?_)
      | (with_reducible refine LeO.bind ?_ (fun _ => ?_))
      | exact ih0 _ _ _ _
      | exact ih1 _ _ _ _ _
      | exact ih2 _ _ _ _ _ _ _
      | exact bitmap_New.mono _ _ _ _
      | exact LeO.none _
      | refine LeO.ite ?_ ?_
      | refine LeO.bind ?_ (fun _ => ?_)
def bitmap_Merge.T1 : Bool × List (List Nat × List Nat) := (true, [([], []), ([0], [0]), ([1], [1]), ([2, 1], [2]), ([3], [3]), ([4, 3, 3], [3, 4]), ([5, 3], [3, 5]), ([3, 6], [3, 6]), ([7, 5], [7]), ([8], [8]), ([9, 8], [8, 9]), ([8], [8]), ([11, 8], [8, 11]), ([10, 12, 8], [8, 10, 12]), ([8, 13], [8, 13]), ([14, 8], [14]), ([15], [15]), ([16, 15], [15, 16]), ([17, 15], [15, 17]), ([15], [15]), ([19, 15], [15, 19]), ([20, 15], [15, 20]), ([18, 21, 15], [15, 18, 21]), ([15, 22], [15, 22]), ([23, 15], [23]), ([24], [24]), ([25, 24], [24, 25]), ([26, 24], [24, 26]), ([27, 24], [24, 27]), ([28, 24], [24, 28]), ([24], [24]), ([30, 24], [24, 30]), ([31, 24], [24, 31]), ([32, 24], [24, 32]), ([33, 24], [24, 33]), ([29, 34, 24], [24, 29, 34]), ([24, 35], [24, 35])])
def bitmap_Merge.B1 : List Nat := [0, 1, 3, 7, 15, 31, 63, 127, 255, 511, 1023, 511, 2559, 8191, 16383, 32767, 65535, 131071, 262143, 65535, 589823, 1638399, 4194303, 8388607, 16777215, 33554431, 67108863, 134217727, 268435455, 536870911, 33554431, 1107296255, 3254779903, 7549747199, 16139681791, 34359738367, 68719476735]
theorem bitmap_Merge.tab1 : rtab .any (opsOf Tryd.f23 1) = bitmap_Merge.T1 := by kernel_rfl
theorem bitmap_Merge.bits1 : waitsOk bitmap_Merge.T1.2 bitmap_Merge.B1 = true := by kernel_rfl
def bitmap_Merge.T3 : Bool × List (List Nat × List Nat) := (true, [([], []), ([0], [0]), ([], []), ([2], [2]), ([3], [3]), ([], []), ([5], [5]), ([6], [6]), ([7], [7]), ([8], [8]), ([1, 4, 9], [1, 4, 9]), ([10], [10]), ([11], [11]), ([11], [11]), ([], []), ([14, 12, 10, 0, 1, 2, 3, 4, 5, 6, 7, 8, 9, 10, 11, 12, 14], [12, 14]), ([13, 15, 0, 1, 2, 3, 4, 5, 6, 7, 8, 9, 10, 11, 12, 13, 14, 15], [13])])
def bitmap_Merge.B3 : List Nat := [0, 1, 0, 4, 12, 0, 32, 96, 224, 480, 1023, 2047, 4095, 4095, 0, 24575, 65535]
theorem bitmap_Merge.tab3 : rtab .any (opsOf Tryd.f23 3) = bitmap_Merge.T3 := by kernel_rfl
theorem bitmap_Merge.bits3 : waitsOk bitmap_Merge.T3.2 bitmap_Merge.B3 = true := by kernel_rfl

set_option maxHeartbeats 80000000 in
set_option maxRecDepth 100000 in
theorem bitmap_Merge.calls (k : Nat) (a0_0 : Int) (A0_1 : Option Addr) (c0_1 : Nat) (l0_1 : List (List Bool)) (a1_0 : Int) (A1_1 : Option Addr) (c1_1 : Nat) (l1_1 : List (List Bool)) (r1 : Int) (r2 : List (List Bool)) (r3 : Int) (w : World) (hr0_1 : Kd.C (Kd.slice 4 Kd.bool) w A0_1 l0_1.length l0_1) (hc0_1 : l0_1.length ≤ c0_1) (hr1_1 : Kd.C (Kd.slice 4 Kd.bool) w A1_1 l1_1.length l1_1) (hc1_1 : l1_1.length ≤ c1_1) (h : bitmap_Merge.f k a0_0 l0_1 a1_0 l1_1 = some (r1, r2, r3)) :
    Calls Tryd.prog 23 #[.agg #[.int .u64 a0_0, .slice A0_1 l0_1.length c0_1], .agg #[.int .u64 a1_0, .slice A1_1 l1_1.length c1_1]] w fun e w' => ∃ v1_ : Value, e = .returned (.tuple #[.agg #[.int .u64 r1, v1_], .int .i64 r3]) ∧ Kd.S (Kd.slice 4 Kd.bool) 33 w' w.heap.size (fun _ => True) v1_ r2 ∧ Below w.heap.size w w' := by
 have hu25 := Tryd.underlying25; have HR0_1 := Aside0.mk hr0_1; have HC0_1 := Aside0.mk hc0_1; clear hr0_1 hc0_1; have HR1_1 := Aside0.mk hr1_1; have HC1_1 := Aside0.mk hc1_1; clear hr1_1 hc1_1; have HB := Aside0.mk (Below.refl w.heap.size w); have H : ((bitmap_Right.f a0_0 l0_1).bind fun t200 => (if t200 = true then ((bitmap_Right.f a1_0 l1_1).bind fun t201 => (if t201 = true then (if a0_0 = a1_0 then (if (l0_1.length : Int) = (l1_1.length : Int) then (if 0 < (l0_1.length : Int) then (if 0 < (l1_1.length : Int) then (bitmap_Merge.j0 k (((rd_L1 l0_1 0).length : Int) != ((rd_L1 l1_1 0).length : Int)) a0_0 l0_1 l1_1) else (none)) else (none)) else (bitmap_Merge.j0 k true a0_0 l0_1 l1_1)) else (bitmap_Merge.j0 k true a0_0 l0_1 l1_1)) else (bitmap_Merge.j0 k true a0_0 l0_1 l1_1))) else (bitmap_Merge.j0 k true a0_0 l0_1 l1_1))) = some (r1, r2, r3) := h; clear h; have HC3 := Aside0.mk H; clear H
 go_enter Tryd.func23, Tryd.ntmps23
 go_upto_region 1 with (first | ((with_reducible refine gate_dst (N := 2) rfl ?_); (try (refine gate_guard (by rfl) ?_; dsimp only)); refine box_event ?hg (N := 2) ?hd (cs := #[.int .u64 a0_0, .slice A0_1 l0_1.length c0_1]) (t := 25) ?hr ?_; (case hd => rfl); (case hg => rfl); (case hr => first | (go_simp; done) | (go_simp; rfl)); intro gb197 hg w4 hbox hb; have n0_ := Aside0.mk (below_step (bl_ HB) hb); have n1_ := Aside0.mk (hbox); have n2_ := Aside0.mk (gl_ hg HB); have n3_ := Aside0.mk (gl_ hg HB); clear HB; have HB := n0_; have BK197 := n1_; have GW197 := n2_; have GE197 := n3_; clear n0_ n1_ n2_ n3_; clear hb hbox hg) | ((with_reducible refine gate_dst (N := 3) rfl ?_); (try (refine gate_guard (by rfl) ?_; dsimp only)); refine box_event ?hg (N := 3) ?hd (cs := #[.int .u64 a1_0, .slice A1_1 l1_1.length c1_1]) (t := 25) ?hr ?_; (case hd => rfl); (case hg => rfl); (case hr => first | (go_simp; done) | (go_simp; rfl)); intro gb198 hg w5 hbox hb; have n0_ := Aside0.mk (blk_below (bk_ BK197) hb); have n1_ := Aside0.mk (below_step (bl_ HB) hb); have n2_ := Aside0.mk (hbox); have n3_ := Aside0.mk (gl_ hg HB); have n4_ := Aside0.mk (gl_ hg HB); have n5_ := Aside0.mk (nl_ hg BK197); have n6_ := Aside0.mk (ng_ hg BK197); clear BK197; clear HB; have BK197 := n0_; have HB := n1_; have BK198 := n2_; have GW198 := n3_; have GE198 := n4_; have NB197_198 := n5_; have NB198_197 := n6_; clear n0_ n1_ n2_ n3_ n4_ n5_ n6_; clear hb hbox hg) | ((with_reducible refine gate_dst (N := 4) rfl ?_); (try (refine gate_guard (by rfl) ?_; dsimp only)); refine box_event ?hg (N := 4) ?hd (cs := #[.int .u64 0, .slice none 0 0]) (t := 25) ?hr ?_; (case hd => rfl); (case hg => rfl); (case hr => first | (go_simp; done) | (go_simp; rfl)); intro gb199 hg w6 hbox hb; have n0_ := Aside0.mk (blk_below (bk_ BK197) hb); have n1_ := Aside0.mk (blk_below (bk_ BK198) hb); have n2_ := Aside0.mk (below_step (bl_ HB) hb); have n3_ := Aside0.mk (hbox); have n4_ := Aside0.mk (gl_ hg HB); have n5_ := Aside0.mk (gl_ hg HB); have n6_ := Aside0.mk (nl_ hg BK197); have n7_ := Aside0.mk (ng_ hg BK197); have n8_ := Aside0.mk (nl_ hg BK198); have n9_ := Aside0.mk (ng_ hg BK198); clear BK197; clear BK198; clear HB; have BK197 := n0_; have BK198 := n1_; have HB := n2_; have BK199 := n3_; have GW199 := n4_; have GE199 := n5_; have NB197_199 := n6_; have NB199_197 := n7_; have NB198_199 := n8_; have NB199_198 := n9_; clear n0_ n1_ n2_ n3_ n4_ n5_ n6_ n7_ n8_ n9_; clear hb hbox hg))
 (try simp only [Act.put, sa_, sb_, sc_])
 go_cut [47] (fun v47 wc => ∃ (kq : Nat) (x47_2 : Bool), v47 = .bool x47_2 ∧ Aside0 (bitmap_Merge.j0 kq x47_2 a0_0 l0_1 l1_1 = some (r1, r2, r3)) ∧ Aside0 (kq ≤ k) ∧ Aside0 (wc.heap[gb197]? = some (.cells #[.int .u64 a0_0, (.slice A0_1 l0_1.length c0_1)] 25 (0, 0))) ∧ Aside0 (wc.heap[gb198]? = some (.cells #[.int .u64 a1_0, (.slice A1_1 l1_1.length c1_1)] 25 (0, 0))) ∧ Aside0 (wc.heap[gb199]? = some (.cells #[.int .u64 0, (.slice none 0 0)] 25 (0, 0))) ∧ Aside0 (Below w.heap.size w wc))
 case first =>
  have H := HC3.out; clear HC3; replace H := Option.bind_eq_some_iff.mp H; obtain ⟨t200, A70, H⟩ := H; replace H : (if t200 = true then ((bitmap_Right.f a1_0 l1_1).bind fun t201 => (if t201 = true then (if a0_0 = a1_0 then (if (l0_1.length : Int) = (l1_1.length : Int) then (if 0 < (l0_1.length : Int) then (if 0 < (l1_1.length : Int) then (bitmap_Merge.j0 k (((rd_L1 l0_1 0).length : Int) != ((rd_L1 l1_1 0).length : Int)) a0_0 l0_1 l1_1) else (none)) else (none)) else (bitmap_Merge.j0 k true a0_0 l0_1 l1_1)) else (bitmap_Merge.j0 k true a0_0 l0_1 l1_1)) else (bitmap_Merge.j0 k true a0_0 l0_1 l1_1))) else (bitmap_Merge.j0 k true a0_0 l0_1 l1_1)) = some (r1, r2, r3) := H; have A7 := Aside0.mk A70; clear A70
  by_cases c8 : t200 = true
  ·subst c8
   have H1 : ((bitmap_Right.f a1_0 l1_1).bind fun t201 => (if t201 = true then (if a0_0 = a1_0 then (if (l0_1.length : Int) = (l1_1.length : Int) then (if 0 < (l0_1.length : Int) then (if 0 < (l1_1.length : Int) then (bitmap_Merge.j0 k (((rd_L1 l0_1 0).length : Int) != ((rd_L1 l1_1 0).length : Int)) a0_0 l0_1 l1_1) else (none)) else (none)) else (bitmap_Merge.j0 k true a0_0 l0_1 l1_1)) else (bitmap_Merge.j0 k true a0_0 l0_1 l1_1)) else (bitmap_Merge.j0 k true a0_0 l0_1 l1_1))) = some (r1, r2, r3) := by rw [if_pos rfl] at H; exact H
   clear H; have H := H1; clear H1; replace H := Option.bind_eq_some_iff.mp H; obtain ⟨t201, A90, H⟩ := H; replace H : (if t201 = true then (if a0_0 = a1_0 then (if (l0_1.length : Int) = (l1_1.length : Int) then (if 0 < (l0_1.length : Int) then (if 0 < (l1_1.length : Int) then (bitmap_Merge.j0 k (((rd_L1 l0_1 0).length : Int) != ((rd_L1 l1_1 0).length : Int)) a0_0 l0_1 l1_1) else (none)) else (none)) else (bitmap_Merge.j0 k true a0_0 l0_1 l1_1)) else (bitmap_Merge.j0 k true a0_0 l0_1 l1_1)) else (bitmap_Merge.j0 k true a0_0 l0_1 l1_1)) = some (r1, r2, r3) := H; have A9 := Aside0.mk A90; clear A90
   by_cases c10 : t201 = true
   ·subst c10
    have H1 : (if a0_0 = a1_0 then (if (l0_1.length : Int) = (l1_1.length : Int) then (if 0 < (l0_1.length : Int) then (if 0 < (l1_1.length : Int) then (bitmap_Merge.j0 k (((rd_L1 l0_1 0).length : Int) != ((rd_L1 l1_1 0).length : Int)) a0_0 l0_1 l1_1) else (none)) else (none)) else (bitmap_Merge.j0 k true a0_0 l0_1 l1_1)) else (bitmap_Merge.j0 k true a0_0 l0_1 l1_1)) = some (r1, r2, r3) := by rw [if_pos rfl] at H; exact H
    clear H; have H := H1; clear H1
    by_cases c11 : a0_0 = a1_0
    ·rw [if_pos c11] at H; have c11b0 : (a0_0 == a1_0) = true := beq_iff_eq.mpr c11; have c11b1 : (a0_0 != a1_0) = false := bne_eq_false_iff_eq.mpr c11; clear c11
     (first | rw [c11b0] | (simp only [i64_w, i32_w]; rw [c11b0]) | skip)
     by_cases c12 : (l0_1.length : Int) = (l1_1.length : Int)
     ·rw [if_pos c12] at H; have c12b0 : ((l0_1.length : Int) == (l1_1.length : Int)) = true := beq_iff_eq.mpr c12; have c12b1 : ((l0_1.length : Int) != (l1_1.length : Int)) = false := bne_eq_false_iff_eq.mpr c12
      have c12b2 : (l0_1.length == l1_1.length) = true := by first | simpa using c12 | (simp at c12 ⊢; omega)
      clear c12
      by_cases c13 : 0 < (l0_1.length : Int)
      ·rw [if_pos c13] at H; have c13b0 : decide (0 < (l0_1.length : Int)) = true := decide_eq_true c13; have c13b1 : decide (0 < l0_1.length) = true := decide_eq_true (by omega); clear c13
       by_cases c14 : 0 < (l1_1.length : Int)
       ·rw [if_pos c14] at H; have c14b0 : decide (0 < (l1_1.length : Int)) = true := decide_eq_true c14; have c14b1 : decide (0 < l1_1.length) = true := decide_eq_true (by omega); clear c14; have H' := Aside0.mk H; clear H
        try go_wp2
        replace BK197 := Aside0.mk (blk_drew BK197.out); replace BK198 := Aside0.mk (blk_drew BK198.out); replace BK199 := Aside0.mk (blk_drew BK199.out); replace HB := Aside0.mk (below_drew1 HB.out); have p202 : 0 ≤ (0 : Int) := (by omega); have q202 : 0 < (l0_1.length : Int) := of_decide_eq_true (by first | (with_reducible assumption) | assumption); obtain ⟨ad202, A202_0, c202_0, e202, hx202_0, hl202_0, hi202_0⟩ := at_L1 HR0_1.out 0 p202 q202; have hw202_0 := hx202_0; (try rw [show ((0 : Int)).toNat = 0 from rfl] at hw202_0); (try rw [show 0 * 1 = 0 from rfl] at hw202_0); (try rw [Addr.add_zero'] at hw202_0)
        cases e202; have qi202 : (0 < l0_1.length) = True := eq_true (by omega); (try rw [show ((0 : Int)).toNat = 0 from rfl] at hx202_0); (try rw [Addr.add_zero'] at hx202_0); (try replace hx202_0 := (HB.out.cell (World.block_lt_of_cell? w _ hx202_0)).trans hx202_0); have HR202_0 := Aside0.mk hi202_0; have HC202_0 := Aside0.mk hl202_0; clear hi202_0 hl202_0; replace p202 := eq_true p202; replace q202 := eq_true q202; have p203 : 0 ≤ (0 : Int) := (by omega); have q203 : 0 < (l1_1.length : Int) := of_decide_eq_true (by first | (with_reducible assumption) | assumption); obtain ⟨ad203, A203_0, c203_0, e203, hx203_0, hl203_0, hi203_0⟩ := at_L1 HR1_1.out 0 p203 q203; have hw203_0 := hx203_0; (try rw [show ((0 : Int)).toNat = 0 from rfl] at hw203_0); (try rw [show 0 * 1 = 0 from rfl] at hw203_0); (try rw [Addr.add_zero'] at hw203_0)
        cases e203; have qi203 : (0 < l1_1.length) = True := eq_true (by omega); (try rw [show ((0 : Int)).toNat = 0 from rfl] at hx203_0); (try rw [Addr.add_zero'] at hx203_0); (try replace hx203_0 := (HB.out.cell (World.block_lt_of_cell? w _ hx203_0)).trans hx203_0); have HR203_0 := Aside0.mk hi203_0; have HC203_0 := Aside0.mk hl203_0; clear hi203_0 hl203_0; replace p203 := eq_true p203; replace q203 := eq_true q203; refine start_ (n := 37) (S := fun w' => w'.cell? ⟨gb197, 0, none⟩ = some (.int .u64 a0_0) ∧ w'.cell? ⟨gb197, 1, none⟩ = some (.slice (some ad202) l0_1.length c0_1) ∧ w'.cell? ⟨gb198, 0, none⟩ = some (.int .u64 a1_0) ∧ w'.cell? ⟨gb198, 1, none⟩ = some (.slice (some ad203) l1_1.length c1_1) ∧ w'.cell? ad202 = some (.slice A202_0 (rd_L1 l0_1 0).length c202_0) ∧ w'.cell? ad203 = some (.slice A203_0 (rd_L1 l1_1 0).length c203_0)) (ds := []) (mB 37 0) (by kernel_rfl) rfl rfl ⟨(blk_cell BK197.out 0).trans rfl, (blk_cell BK197.out 1).trans rfl, (blk_cell BK198.out 0).trans rfl, (blk_cell BK198.out 1).trans rfl, ((HB.out.cell (World.block_lt_of_cell? w _ hw202_0)).trans hw202_0), ((HB.out.cell (World.block_lt_of_cell? w _ hw203_0)).trans hw203_0)⟩ (fun hHeld => ?_); refine with_tabW bitmap_Merge.tab1 bitmap_Merge.bits1 (fun HT_ HW_ => ?_); generalize w6.drew = w15 at BK197 BK198 BK199 HB HR202_0 HR203_0 hx202_0 hx203_0 hHeld ⊢
        refine take_ (i := 0) (N := some 11) (v := ?_) (a' := ?_) (mB 37 1) rfl rfl (take_ofW HT_.out HW_.out (by kernel_rfl)) (fun _ _ _ h => h) (Or.inl ⟨by rfl, ?_⟩) hHeld ?_ ?_; rotate_left
        ·rintro w' ⟨s0, s1, s2, s3, s4, s5⟩; go_simp; with_reducible rfl
        rotate_left
        ·simp only [Act.put, sa_, sb_, sc_, i64_w, i32_w]; rfl
        refine one_ (i := 1) (N := some 12) (mB 37 3) rfl rfl (one_of HT_.out (by kernel_rfl)) (by decide) (fun K hK => ?_); refine goes_ Tryd.func13 (by kernel_rfl) rfl #[.agg #[.int .u64 a0_0, .slice (some ad202) l0_1.length c0_1]] (by rfl) rfl rfl (by (try simp only [List.map_toArray, List.map_cons, List.map_nil]); first | done | rfl | (simp only [List.length_drop, List.length_take]; rfl)) ?_; with_reducible refine (bitmap_Right.calls a0_0 _ _ l0_1 true _ ?side1 ?side2 A7.out).mono ?_
        (case side1 => repeat (first | exact (Kd.C_below HR0_1.out HB.out) | (with_reducible refine Kd.C_alloc ?_ _) | (with_reducible refine Kd.C_drewN ?_ _) | (with_reducible refine Kd.C_drew ?_))); (case side2 => exact HC0_1.out); rintro e w16 ⟨rfl, hb⟩; refine ⟨_, rfl, ?_⟩; replace BK197 := Aside0.mk (blk_below (bk_ BK197) hb); replace BK198 := Aside0.mk (blk_below (bk_ BK198) hb); replace BK199 := Aside0.mk (blk_below (bk_ BK199) hb); replace HB := Aside0.mk (below_step (bl_ HB) hb); (try clear hb); refine hK.out _ _ ⟨(blk_cell BK197.out 0).trans rfl, (blk_cell BK197.out 1).trans rfl, (blk_cell BK198.out 0).trans rfl, (blk_cell BK198.out 1).trans rfl, ((HB.out.cell (World.block_lt_of_cell? w _ hw202_0)).trans hw202_0), ((HB.out.cell (World.block_lt_of_cell? w _ hw203_0)).trans hw203_0)⟩ (fun hHeld => ?_); clear hK K; refine norm_ (a' := ?_) ?_ ?_; rotate_left
        ·show Act.put _ (some 12) _ = _
         simp only [Act.put, sa_, sb_, sc_, i64_w, i32_w]; rfl
        refine pw_ 2 13 (v := ?_) (a' := ?_) (mB 37 7) rfl rfl HT_ (by kernel_rfl) (fun _ _ _ h => h) ?_ ?_ ?_; rotate_left
        ·intro w'; go_simp; with_reducible rfl
        rotate_left
        ·simp only [Act.put, sa_, sb_, sc_, i64_w, i32_w]; rfl
        refine pw_ 3 14 (v := ?_) (a' := ?_) (mB 37 15) rfl rfl HT_ (by kernel_rfl) (fun _ _ _ h => h) ?_ ?_ ?_; rotate_left
        ·intro w'; go_simp; with_reducible rfl
        rotate_left
        ·simp only [Act.put, sa_, sb_, sc_, i64_w, i32_w]; rfl
        refine take_ (i := 4) (N := some 15) (v := ?_) (a' := ?_) (mB 37 31) rfl rfl (take_ofW HT_.out HW_.out (by kernel_rfl)) (fun _ _ _ h => h) (Or.inl ⟨by rfl, ?_⟩) hHeld ?_ ?_; rotate_left
        ·rintro w' ⟨s0, s1, s2, s3, s4, s5⟩; go_simp; with_reducible rfl
        rotate_left
        ·simp only [Act.put, sa_, sb_, sc_, i64_w, i32_w]; rfl
        refine one_ (i := 5) (N := some 16) (mB 37 63) rfl rfl (one_of HT_.out (by kernel_rfl)) (by decide) (fun K hK => ?_); refine goes_ Tryd.func13 (by kernel_rfl) rfl #[.agg #[.int .u64 a1_0, .slice (some ad203) l1_1.length c1_1]] (by rfl) rfl rfl (by (try simp only [List.map_toArray, List.map_cons, List.map_nil]); first | done | rfl | (simp only [List.length_drop, List.length_take]; rfl)) ?_; with_reducible refine (bitmap_Right.calls a1_0 _ _ l1_1 true _ ?side1 ?side2 A9.out).mono ?_
        (case side1 => repeat (first | exact (Kd.C_below HR1_1.out HB.out) | (with_reducible refine Kd.C_alloc ?_ _) | (with_reducible refine Kd.C_drewN ?_ _) | (with_reducible refine Kd.C_drew ?_))); (case side2 => exact HC1_1.out); rintro e w17 ⟨rfl, hb⟩; refine ⟨_, rfl, ?_⟩; replace BK197 := Aside0.mk (blk_below (bk_ BK197) hb); replace BK198 := Aside0.mk (blk_below (bk_ BK198) hb); replace BK199 := Aside0.mk (blk_below (bk_ BK199) hb); replace HB := Aside0.mk (below_step (bl_ HB) hb); (try clear hb); refine hK.out _ _ ⟨(blk_cell BK197.out 0).trans rfl, (blk_cell BK197.out 1).trans rfl, (blk_cell BK198.out 0).trans rfl, (blk_cell BK198.out 1).trans rfl, ((HB.out.cell (World.block_lt_of_cell? w _ hw202_0)).trans hw202_0), ((HB.out.cell (World.block_lt_of_cell? w _ hw203_0)).trans hw203_0)⟩ (fun hHeld => ?_); clear hK K; refine norm_ (a' := ?_) ?_ ?_; rotate_left
        ·show Act.put _ (some 16) _ = _
         simp only [Act.put, sa_, sb_, sc_, i64_w, i32_w]; rfl
        refine pw_ 6 17 (v := ?_) (a' := ?_) (mB 37 127) rfl rfl HT_ (by kernel_rfl) (fun _ _ _ h => h) ?_ ?_ ?_; rotate_left
        ·intro w'; go_simp; with_reducible rfl
        rotate_left
        ·simp only [Act.put, sa_, sb_, sc_, i64_w, i32_w]; rfl
        refine pw_ 7 18 (v := ?_) (a' := ?_) (mB 37 255) rfl rfl HT_ (by kernel_rfl) (fun _ _ _ h => h) ?_ ?_ ?_; rotate_left
        ·intro w'; go_simp; with_reducible rfl
        rotate_left
        ·simp only [Act.put, sa_, sb_, sc_, i64_w, i32_w]; rfl
        refine pw_ 8 19 (v := ?_) (a' := ?_) (mB 37 511) rfl rfl HT_ (by kernel_rfl) (fun _ _ _ h => h) ?_ ?_ ?_; rotate_left
        ·intro w'; go_simp; with_reducible rfl
        rotate_left
        ·simp only [Act.put, sa_, sb_, sc_, i64_w, i32_w]; rfl
        refine pw_ 9 20 (v := ?_) (a' := ?_) (mB 37 1023) rfl rfl HT_ (by kernel_rfl) (fun _ _ _ h => h) ?_ ?_ ?_; rotate_left
        ·intro w'; go_simp; with_reducible rfl
        rotate_left
        ·simp only [Act.put, sa_, sb_, sc_, i64_w, i32_w]; rfl
        refine pw_ 11 22 (v := ?_) (a' := ?_) (mB 37 3071) rfl rfl HT_ (by kernel_rfl) (fun _ _ _ h => h) ?_ ?_ ?_; rotate_left
        ·intro w'; go_simp; with_reducible rfl
        rotate_left
        ·simp only [Act.put, sa_, sb_, sc_, i64_w, i32_w]; rfl
        refine take_ (i := 10) (N := some 21) (v := ?_) (a' := ?_) (mB 37 4095) rfl rfl (take_ofW HT_.out HW_.out (by kernel_rfl)) (fun _ _ _ h => h) (Or.inl ⟨by rfl, ?_⟩) hHeld ?_ ?_; rotate_left
        ·rintro w' ⟨s0, s1, s2, s3, s4, s5⟩; go_simp; with_reducible rfl
        rotate_left
        ·simp only [Act.put, sa_, sb_, sc_, i64_w, i32_w]; rfl
        refine take_ (i := 12) (N := some 23) (v := ?_) (a' := ?_) (mB 37 8191) rfl rfl (take_ofW HT_.out HW_.out (by kernel_rfl)) (fun _ _ _ h => h) (Or.inl ⟨by rfl, ?_⟩) hHeld ?_ ?_; rotate_left
        ·rintro w' ⟨s0, s1, s2, s3, s4, s5⟩; go_simp; with_reducible rfl
        rotate_left
        ·simp only [Act.put, sa_, sb_, sc_, i64_w, i32_w]; rfl
        refine pw_ 13 24 (v := ?_) (a' := ?_) (mB 37 16383) rfl rfl HT_ (by kernel_rfl) (fun _ _ _ h => h) ?_ ?_ ?_; rotate_left
        ·intro w'; go_simp; with_reducible rfl
        rotate_left
        ·simp only [Act.put, sa_, sb_, sc_, i64_w, i32_w]; rfl
        refine pw_ 14 25 (v := ?_) (a' := ?_) (mB 37 32767) rfl rfl HT_ (by kernel_rfl) (fun _ _ _ h => h) ?_ ?_ ?_; rotate_left
        ·intro w'; go_simp; with_reducible rfl
        rotate_left
        ·simp only [Act.put, sa_, sb_, sc_, i64_w, i32_w]; rfl
        refine pw_ 15 26 (v := ?_) (a' := ?_) (mB 37 65535) rfl rfl HT_ (by kernel_rfl) (fun _ _ _ h => h) ?_ ?_ ?_; rotate_left
        ·intro w'; go_simp; with_reducible rfl
        rotate_left
        ·simp only [Act.put, sa_, sb_, sc_, i64_w, i32_w]; rfl
        refine pw_ 16 27 (v := ?_) (a' := ?_) (mB 37 131071) rfl rfl HT_ (by kernel_rfl) (fun _ _ _ h => h) ?_ ?_ ?_; rotate_left
        ·intro w'; go_simp; with_reducible rfl
        rotate_left
        ·simp only [Act.put, sa_, sb_, sc_, i64_w, i32_w]; rfl
        refine pw_ 19 30 (v := ?_) (a' := ?_) (mB 37 655359) rfl rfl HT_ (by kernel_rfl) (fun _ _ _ h => h) ?_ ?_ ?_; rotate_left
        ·intro w'; go_simp; with_reducible rfl
        rotate_left
        ·simp only [Act.put, sa_, sb_, sc_, i64_w, i32_w]; rfl
        refine take_ (i := 17) (N := some 28) (v := ?_) (a' := ?_) (mB 37 786431) rfl rfl (take_ofW HT_.out HW_.out (by kernel_rfl)) (fun _ _ _ h => h) (Or.inl ⟨by rfl, ?_⟩) hHeld ?_ ?_; rotate_left
        ·rintro w' ⟨s0, s1, s2, s3, s4, s5⟩; go_simp; with_reducible rfl
        rotate_left
        ·simp only [Act.put, sa_, sb_, sc_, i64_w, i32_w]; rfl
        refine pw_ 18 29 (v := ?_) (a' := ?_) (mB 37 1048575) rfl rfl HT_ (by kernel_rfl) (fun _ _ _ h => h) ?_ ?_ ?_; rotate_left
        ·intro w'; go_simp; with_reducible rfl
        rotate_left
        ·simp only [Act.put, sa_, sb_, sc_, i64_w, i32_w]; rfl
        refine take_ (i := 20) (N := some 31) (v := ?_) (a' := ?_) (mB 37 2097151) rfl rfl (take_ofW HT_.out HW_.out (by kernel_rfl)) (fun _ _ _ h => h) (Or.inl ⟨by rfl, ?_⟩) hHeld ?_ ?_; rotate_left
        ·rintro w' ⟨s0, s1, s2, s3, s4, s5⟩; go_simp; with_reducible rfl
        rotate_left
        ·simp only [Act.put, sa_, sb_, sc_, i64_w, i32_w]; rfl
        refine pw_ 21 32 (v := ?_) (a' := ?_) (mB 37 4194303) rfl rfl HT_ (by kernel_rfl) (fun _ _ _ h => h) ?_ ?_ ?_; rotate_left
        ·intro w'; go_simp; with_reducible rfl
        rotate_left
        ·simp only [Act.put, sa_, sb_, sc_, i64_w, i32_w]; rfl
        refine pw_ 22 33 (v := ?_) (a' := ?_) (mB 37 8388607) rfl rfl HT_ (by kernel_rfl) (fun _ _ _ h => h) ?_ ?_ ?_; rotate_left
        ·intro w'; go_simp; with_reducible rfl
        rotate_left
        ·simp only [Act.put, sa_, sb_, sc_, i64_w, i32_w]; rfl
        refine pw_ 23 34 (v := ?_) (a' := ?_) (mB 37 16777215) rfl rfl HT_ (by kernel_rfl) (fun _ _ _ h => h) ?_ ?_ ?_; rotate_left
        ·intro w'; go_simp; with_reducible rfl
        rotate_left
        ·simp only [Act.put, sa_, sb_, sc_, i64_w, i32_w]; rfl
        refine pw_ 24 35 (v := ?_) (a' := ?_) (mB 37 33554431) rfl rfl HT_ (by kernel_rfl) (fun _ _ _ h => h) ?_ ?_ ?_; rotate_left
        ·intro w'; go_simp; with_reducible rfl
        rotate_left
        ·simp only [Act.put, sa_, sb_, sc_, i64_w, i32_w]; rfl
        refine pw_ 25 36 (v := ?_) (a' := ?_) (mB 37 67108863) rfl rfl HT_ (by kernel_rfl) (fun _ _ _ h => h) ?_ ?_ ?_; rotate_left
        ·intro w'; go_simp; with_reducible rfl
        rotate_left
        ·simp only [Act.put, sa_, sb_, sc_, i64_w, i32_w]; rfl
        refine pw_ 30 41 (v := ?_) (a' := ?_) (mB 37 1140850687) rfl rfl HT_ (by kernel_rfl) (fun _ _ _ h => h) ?_ ?_ ?_; rotate_left
        ·intro w'; go_simp; with_reducible rfl
        rotate_left
        ·simp only [Act.put, sa_, sb_, sc_, i64_w, i32_w]; rfl
        refine take_ (i := 26) (N := some 37) (v := ?_) (a' := ?_) (mB 37 1207959551) rfl rfl (take_ofW HT_.out HW_.out (by kernel_rfl)) (fun _ _ _ h => h) (Or.inl ⟨by rfl, ?_⟩) hHeld ?_ ?_; rotate_left
        ·rintro w' ⟨s0, s1, s2, s3, s4, s5⟩; go_simp; with_reducible rfl
        rotate_left
        ·simp only [Act.put, sa_, sb_, sc_, i64_w, i32_w]; rfl
        refine pw_ 27 38 (v := ?_) (a' := ?_) (mB 37 1342177279) rfl rfl HT_ (by kernel_rfl) (fun _ _ _ h => h) ?_ ?_ ?_; rotate_left
        ·intro w'; go_simp; with_reducible rfl
        rotate_left
        ·simp only [Act.put, sa_, sb_, sc_, i64_w, i32_w]; rfl
        refine take_ (i := 28) (N := some 39) (v := ?_) (a' := ?_) (mB 37 1610612735) rfl rfl (take_ofW HT_.out HW_.out (by kernel_rfl)) (fun _ _ _ h => h) (Or.inl ⟨by rfl, ?_⟩) hHeld ?_ ?_; rotate_left
        ·rintro w' ⟨s0, s1, s2, s3, s4, s5⟩; go_simp; with_reducible rfl
        rotate_left
        ·simp only [Act.put, sa_, sb_, sc_, i64_w, i32_w]; rfl
        refine pw_ 29 40 (v := ?_) (a' := ?_) (mB 37 2147483647) rfl rfl HT_ (by kernel_rfl) (fun _ _ _ h => h) ?_ ?_ ?_; rotate_left
        ·intro w'; go_simp; with_reducible rfl
        rotate_left
        ·simp only [Act.put, sa_, sb_, sc_, i64_w, i32_w]; rfl
        refine take_ (i := 31) (N := some 42) (v := ?_) (a' := ?_) (mB 37 4294967295) rfl rfl (take_ofW HT_.out HW_.out (by kernel_rfl)) (fun _ _ _ h => h) (Or.inl ⟨by rfl, ?_⟩) hHeld ?_ ?_; rotate_left
        ·rintro w' ⟨s0, s1, s2, s3, s4, s5⟩; go_simp; with_reducible rfl
        rotate_left
        ·simp only [Act.put, sa_, sb_, sc_, i64_w, i32_w]; rfl
        refine pw_ 32 43 (v := ?_) (a' := ?_) (mB 37 8589934591) rfl rfl HT_ (by kernel_rfl) (fun _ _ _ h => h) ?_ ?_ ?_; rotate_left
        ·intro w'; go_simp; with_reducible rfl
        rotate_left
        ·simp only [Act.put, sa_, sb_, sc_, i64_w, i32_w]; rfl
        refine take_ (i := 33) (N := some 44) (v := ?_) (a' := ?_) (mB 37 17179869183) rfl rfl (take_ofW HT_.out HW_.out (by kernel_rfl)) (fun _ _ _ h => h) (Or.inl ⟨by rfl, ?_⟩) hHeld ?_ ?_; rotate_left
        ·rintro w' ⟨s0, s1, s2, s3, s4, s5⟩; go_simp; with_reducible rfl
        rotate_left
        ·simp only [Act.put, sa_, sb_, sc_, i64_w, i32_w]; rfl
        refine pw_ 34 45 (v := ?_) (a' := ?_) (mB 37 34359738367) rfl rfl HT_ (by kernel_rfl) (fun _ _ _ h => h) ?_ ?_ ?_; rotate_left
        ·intro w'; go_simp; with_reducible rfl
        rotate_left
        ·simp only [Act.put, sa_, sb_, sc_, i64_w, i32_w]; rfl
        refine pw_ 35 46 (v := ?_) (a' := ?_) (mB 37 68719476735) rfl rfl HT_ (by kernel_rfl) (fun _ _ _ h => h) ?_ ?_ ?_; rotate_left
        ·intro w'; go_simp; with_reducible rfl
        rotate_left
        ·simp only [Act.put, sa_, sb_, sc_, i64_w, i32_w]; rfl
        refine pw_ 36 47 (v := ?_) (a' := ?_) (mB 37 137438953471) rfl rfl HT_ (by kernel_rfl) (fun _ _ _ h => h) ?_ ?_ ?_; rotate_left
        ·intro w'; go_simp; with_reducible rfl
        rotate_left
        ·simp only [Act.put, sa_, sb_, sc_, i64_w, i32_w]; rfl
        refine done_ (done_of HT_.out (by kernel_rfl)) ?_
        try go_wp2
        go_meet
        case rel => exact ⟨_, ((((rd_L1 l0_1 0).length : Int) != ((rd_L1 l1_1 0).length : Int))), (by first | rfl | (simp; done) | (simp [*]; done)), H', ⟨by first | omega | exact Nat.le_refl _⟩, ⟨bk_ BK197⟩, ⟨bk_ BK198⟩, ⟨bk_ BK199⟩, ⟨bl_ HB⟩⟩
       ·rw [if_neg c14] at H; exact absurd H (by simp)
      ·rw [if_neg c13] at H; exact absurd H (by simp)
     ·rw [if_neg c12] at H; have c12b0 : ((l0_1.length : Int) == (l1_1.length : Int)) = false := beq_eq_false_iff_ne.mpr c12; have c12b1 : ((l0_1.length : Int) != (l1_1.length : Int)) = true := bne_iff_ne.mpr c12
      have c12b2 : (l0_1.length == l1_1.length) = false := by first | simpa using c12 | (simp at c12 ⊢; omega)
      have H' := Aside0.mk H; clear H
      try go_wp2
      replace BK197 := Aside0.mk (blk_drew BK197.out); replace BK198 := Aside0.mk (blk_drew BK198.out); replace BK199 := Aside0.mk (blk_drew BK199.out); replace HB := Aside0.mk (below_drew1 HB.out); refine start_ (n := 37) (S := fun w' => w'.cell? ⟨gb197, 0, none⟩ = some (.int .u64 a0_0) ∧ w'.cell? ⟨gb197, 1, none⟩ = some (.slice A0_1 l0_1.length c0_1) ∧ w'.cell? ⟨gb198, 0, none⟩ = some (.int .u64 a1_0) ∧ w'.cell? ⟨gb198, 1, none⟩ = some (.slice A1_1 l1_1.length c1_1)) (ds := []) (mB 37 0) (by kernel_rfl) rfl rfl ⟨(blk_cell BK197.out 0).trans rfl, (blk_cell BK197.out 1).trans rfl, (blk_cell BK198.out 0).trans rfl, (blk_cell BK198.out 1).trans rfl⟩ (fun hHeld => ?_); refine with_tabW bitmap_Merge.tab1 bitmap_Merge.bits1 (fun HT_ HW_ => ?_); generalize w6.drew = w18 at BK197 BK198 BK199 HB hHeld ⊢; refine take_ (i := 0) (N := some 11) (v := ?_) (a' := ?_) (mB 37 1) rfl rfl (take_ofW HT_.out HW_.out (by kernel_rfl)) (fun _ _ _ h => h) (Or.inl ⟨by rfl, ?_⟩) hHeld ?_ ?_; rotate_left
      ·rintro w' ⟨s0, s1, s2, s3⟩; go_simp; with_reducible rfl
      rotate_left
      ·simp only [Act.put, sa_, sb_, sc_, i64_w, i32_w]; rfl
      refine one_ (i := 1) (N := some 12) (mB 37 3) rfl rfl (one_of HT_.out (by kernel_rfl)) (by decide) (fun K hK => ?_); refine goes_ Tryd.func13 (by kernel_rfl) rfl #[.agg #[.int .u64 a0_0, .slice A0_1 l0_1.length c0_1]] (by rfl) rfl rfl (by (try simp only [List.map_toArray, List.map_cons, List.map_nil]); first | done | rfl | (simp only [List.length_drop, List.length_take]; rfl)) ?_; with_reducible refine (bitmap_Right.calls a0_0 _ _ l0_1 true _ ?side1 ?side2 A7.out).mono ?_
      (case side1 => repeat (first | exact (Kd.C_below HR0_1.out HB.out) | (with_reducible refine Kd.C_alloc ?_ _) | (with_reducible refine Kd.C_drewN ?_ _) | (with_reducible refine Kd.C_drew ?_))); (case side2 => exact HC0_1.out); rintro e w19 ⟨rfl, hb⟩; refine ⟨_, rfl, ?_⟩; replace BK197 := Aside0.mk (blk_below (bk_ BK197) hb); replace BK198 := Aside0.mk (blk_below (bk_ BK198) hb); replace BK199 := Aside0.mk (blk_below (bk_ BK199) hb); replace HB := Aside0.mk (below_step (bl_ HB) hb); (try clear hb); refine hK.out _ _ ⟨(blk_cell BK197.out 0).trans rfl, (blk_cell BK197.out 1).trans rfl, (blk_cell BK198.out 0).trans rfl, (blk_cell BK198.out 1).trans rfl⟩ (fun hHeld => ?_); clear hK K; refine norm_ (a' := ?_) ?_ ?_; rotate_left
      ·show Act.put _ (some 12) _ = _
       simp only [Act.put, sa_, sb_, sc_, i64_w, i32_w]; rfl
      refine pw_ 2 13 (v := ?_) (a' := ?_) (mB 37 7) rfl rfl HT_ (by kernel_rfl) (fun _ _ _ h => h) ?_ ?_ ?_; rotate_left
      ·intro w'; go_simp; with_reducible rfl
      rotate_left
      ·simp only [Act.put, sa_, sb_, sc_, i64_w, i32_w]; rfl
      refine pw_ 3 14 (v := ?_) (a' := ?_) (mB 37 15) rfl rfl HT_ (by kernel_rfl) (fun _ _ _ h => h) ?_ ?_ ?_; rotate_left
      ·intro w'; go_simp; with_reducible rfl
      rotate_left
      ·simp only [Act.put, sa_, sb_, sc_, i64_w, i32_w]; rfl
      refine take_ (i := 4) (N := some 15) (v := ?_) (a' := ?_) (mB 37 31) rfl rfl (take_ofW HT_.out HW_.out (by kernel_rfl)) (fun _ _ _ h => h) (Or.inl ⟨by rfl, ?_⟩) hHeld ?_ ?_; rotate_left
      ·rintro w' ⟨s0, s1, s2, s3⟩; go_simp; with_reducible rfl
      rotate_left
      ·simp only [Act.put, sa_, sb_, sc_, i64_w, i32_w]; rfl
      refine one_ (i := 5) (N := some 16) (mB 37 63) rfl rfl (one_of HT_.out (by kernel_rfl)) (by decide) (fun K hK => ?_); refine goes_ Tryd.func13 (by kernel_rfl) rfl #[.agg #[.int .u64 a1_0, .slice A1_1 l1_1.length c1_1]] (by rfl) rfl rfl (by (try simp only [List.map_toArray, List.map_cons, List.map_nil]); first | done | rfl | (simp only [List.length_drop, List.length_take]; rfl)) ?_; with_reducible refine (bitmap_Right.calls a1_0 _ _ l1_1 true _ ?side1 ?side2 A9.out).mono ?_
      (case side1 => repeat (first | exact (Kd.C_below HR1_1.out HB.out) | (with_reducible refine Kd.C_alloc ?_ _) | (with_reducible refine Kd.C_drewN ?_ _) | (with_reducible refine Kd.C_drew ?_))); (case side2 => exact HC1_1.out); rintro e w20 ⟨rfl, hb⟩; refine ⟨_, rfl, ?_⟩; replace BK197 := Aside0.mk (blk_below (bk_ BK197) hb); replace BK198 := Aside0.mk (blk_below (bk_ BK198) hb); replace BK199 := Aside0.mk (blk_below (bk_ BK199) hb); replace HB := Aside0.mk (below_step (bl_ HB) hb); (try clear hb); refine hK.out _ _ ⟨(blk_cell BK197.out 0).trans rfl, (blk_cell BK197.out 1).trans rfl, (blk_cell BK198.out 0).trans rfl, (blk_cell BK198.out 1).trans rfl⟩ (fun hHeld => ?_); clear hK K; refine norm_ (a' := ?_) ?_ ?_; rotate_left
      ·show Act.put _ (some 16) _ = _
       simp only [Act.put, sa_, sb_, sc_, i64_w, i32_w]; rfl
      refine pw_ 6 17 (v := ?_) (a' := ?_) (mB 37 127) rfl rfl HT_ (by kernel_rfl) (fun _ _ _ h => h) ?_ ?_ ?_; rotate_left
      ·intro w'; go_simp; with_reducible rfl
      rotate_left
      ·simp only [Act.put, sa_, sb_, sc_, i64_w, i32_w]; rfl
      refine pw_ 7 18 (v := ?_) (a' := ?_) (mB 37 255) rfl rfl HT_ (by kernel_rfl) (fun _ _ _ h => h) ?_ ?_ ?_; rotate_left
      ·intro w'; go_simp; with_reducible rfl
      rotate_left
      ·simp only [Act.put, sa_, sb_, sc_, i64_w, i32_w]; rfl
      refine pw_ 8 19 (v := ?_) (a' := ?_) (mB 37 511) rfl rfl HT_ (by kernel_rfl) (fun _ _ _ h => h) ?_ ?_ ?_; rotate_left
      ·intro w'; go_simp; with_reducible rfl
      rotate_left
      ·simp only [Act.put, sa_, sb_, sc_, i64_w, i32_w]; rfl
      refine pw_ 9 20 (v := ?_) (a' := ?_) (mB 37 1023) rfl rfl HT_ (by kernel_rfl) (fun _ _ _ h => h) ?_ ?_ ?_; rotate_left
      ·intro w'; go_simp; with_reducible rfl
      rotate_left
      ·simp only [Act.put, sa_, sb_, sc_, i64_w, i32_w]; rfl
      refine pw_ 11 22 (v := ?_) (a' := ?_) (mB 37 3071) rfl rfl HT_ (by kernel_rfl) (fun _ _ _ h => h) ?_ ?_ ?_; rotate_left
      ·intro w'; go_simp; with_reducible rfl
      rotate_left
      ·simp only [Act.put, sa_, sb_, sc_, i64_w, i32_w]; rfl
      refine take_ (i := 10) (N := some 21) (v := ?_) (a' := ?_) (mB 37 4095) rfl rfl (take_ofW HT_.out HW_.out (by kernel_rfl)) (fun _ _ _ h => h) (Or.inl ⟨by rfl, ?_⟩) hHeld ?_ ?_; rotate_left
      ·rintro w' ⟨s0, s1, s2, s3⟩; go_simp; with_reducible rfl
      rotate_left
      ·simp only [Act.put, sa_, sb_, sc_, i64_w, i32_w]; rfl
      refine take_ (i := 12) (N := some 23) (v := ?_) (a' := ?_) (mB 37 8191) rfl rfl (take_ofW HT_.out HW_.out (by kernel_rfl)) (fun _ _ _ h => h) (Or.inl ⟨by rfl, ?_⟩) hHeld ?_ ?_; rotate_left
      ·rintro w' ⟨s0, s1, s2, s3⟩; go_simp; with_reducible rfl
      rotate_left
      ·simp only [Act.put, sa_, sb_, sc_, i64_w, i32_w]; rfl
      refine pw_ 13 24 (v := ?_) (a' := ?_) (mB 37 16383) rfl rfl HT_ (by kernel_rfl) (fun _ _ _ h => h) ?_ ?_ ?_; rotate_left
      ·intro w'; go_simp; with_reducible rfl
      rotate_left
      ·simp only [Act.put, sa_, sb_, sc_, i64_w, i32_w]; rfl
      refine pw_ 14 25 (v := ?_) (a' := ?_) (mB 37 32767) rfl rfl HT_ (by kernel_rfl) (fun _ _ _ h => h) ?_ ?_ ?_; rotate_left
      ·intro w'; go_simp; with_reducible rfl
      rotate_left
      ·simp only [Act.put, sa_, sb_, sc_, i64_w, i32_w]; rfl
      refine pw_ 15 26 (v := ?_) (a' := ?_) (mB 37 65535) rfl rfl HT_ (by kernel_rfl) (fun _ _ _ h => h) ?_ ?_ ?_; rotate_left
      ·intro w'; go_simp; with_reducible rfl
      rotate_left
      ·simp only [Act.put, sa_, sb_, sc_, i64_w, i32_w]; rfl
      refine pw_ 16 27 (v := ?_) (a' := ?_) (mB 37 131071) rfl rfl HT_ (by kernel_rfl) (fun _ _ _ h => h) ?_ ?_ ?_; rotate_left
      ·intro w'; go_simp; with_reducible rfl
      rotate_left
      ·simp only [Act.put, sa_, sb_, sc_, i64_w, i32_w]; rfl
      refine pw_ 19 30 (v := ?_) (a' := ?_) (mB 37 655359) rfl rfl HT_ (by kernel_rfl) (fun _ _ _ h => h) ?_ ?_ ?_; rotate_left
      ·intro w'; go_simp; with_reducible rfl
      rotate_left
      ·simp only [Act.put, sa_, sb_, sc_, i64_w, i32_w]; rfl
      refine take_ (i := 17) (N := some 28) (v := ?_) (a' := ?_) (mB 37 786431) rfl rfl (take_ofW HT_.out HW_.out (by kernel_rfl)) (fun _ _ _ h => h) (Or.inl ⟨by rfl, ?_⟩) hHeld ?_ ?_; rotate_left
      ·rintro w' ⟨s0, s1, s2, s3⟩; go_simp; with_reducible rfl
      rotate_left
      ·simp only [Act.put, sa_, sb_, sc_, i64_w, i32_w]; rfl
      refine pw_ 18 29 (v := ?_) (a' := ?_) (mB 37 1048575) rfl rfl HT_ (by kernel_rfl) (fun _ _ _ h => h) ?_ ?_ ?_; rotate_left
      ·intro w'; go_simp; with_reducible rfl
      rotate_left
      ·simp only [Act.put, sa_, sb_, sc_, i64_w, i32_w]; rfl
      refine take_ (i := 20) (N := some 31) (v := ?_) (a' := ?_) (mB 37 2097151) rfl rfl (take_ofW HT_.out HW_.out (by kernel_rfl)) (fun _ _ _ h => h) (Or.inl ⟨by rfl, ?_⟩) hHeld ?_ ?_; rotate_left
      ·rintro w' ⟨s0, s1, s2, s3⟩; go_simp; with_reducible rfl
      rotate_left
      ·simp only [Act.put, sa_, sb_, sc_, i64_w, i32_w]; rfl
      refine pw_ 21 32 (v := ?_) (a' := ?_) (mB 37 4194303) rfl rfl HT_ (by kernel_rfl) (fun _ _ _ h => h) ?_ ?_ ?_; rotate_left
      ·intro w'; go_simp; with_reducible rfl
      rotate_left
      ·simp only [Act.put, sa_, sb_, sc_, i64_w, i32_w]; rfl
      refine pw_ 22 33 (v := ?_) (a' := ?_) (mB 37 8388607) rfl rfl HT_ (by kernel_rfl) (fun _ _ _ h => h) ?_ ?_ ?_; rotate_left
      ·intro w'; go_simp; with_reducible rfl
      rotate_left
      ·simp only [Act.put, sa_, sb_, sc_, i64_w, i32_w]; rfl
      refine pw_ 23 34 (v := ?_) (a' := ?_) (mB 37 16777215) rfl rfl HT_ (by kernel_rfl) (fun _ _ _ h => h) ?_ ?_ ?_; rotate_left
      ·intro w'; go_simp; with_reducible rfl
      rotate_left
      ·simp only [Act.put, sa_, sb_, sc_, i64_w, i32_w]; rfl
      refine pw_ 24 35 (v := ?_) (a' := ?_) (mB 37 33554431) rfl rfl HT_ (by kernel_rfl) (fun _ _ _ h => h) ?_ ?_ ?_; rotate_left
      ·intro w'; go_simp; with_reducible rfl
      rotate_left
      ·simp only [Act.put, sa_, sb_, sc_, i64_w, i32_w]; rfl
      refine un_ [(25, 36), (26, 37), (27, 38), (28, 39), (29, 40), (30, 41), (31, 42), (32, 43), (33, 44), (34, 45), (35, 46)] (fuel := 1) (a' := ?_) (mB 37 68719476735) rfl HT_ (by kernel_rfl) (by kernel_rfl) (fun _ _ _ _ h => h) ?_ ?_; rotate_left
      ·simp only [unwA, Act.put, sa_, sb_, sc_, i64_w, i32_w]; rfl
      refine pw_ 36 47 (v := ?_) (a' := ?_) (mB 37 137438953471) rfl rfl HT_ (by kernel_rfl) (fun _ _ _ h => h) ?_ ?_ ?_; rotate_left
      ·intro w'; go_simp; with_reducible rfl
      rotate_left
      ·simp only [Act.put, sa_, sb_, sc_, i64_w, i32_w]; rfl
      refine done_ (done_of HT_.out (by kernel_rfl)) ?_
      try go_wp2
      go_meet
      case rel => exact ⟨_, (true), (by first | rfl | (simp; done) | (simp [*]; done)), H', ⟨by first | omega | exact Nat.le_refl _⟩, ⟨bk_ BK197⟩, ⟨bk_ BK198⟩, ⟨bk_ BK199⟩, ⟨bl_ HB⟩⟩
    ·rw [if_neg c11] at H; have c11b0 : (a0_0 == a1_0) = false := beq_eq_false_iff_ne.mpr c11; have c11b1 : (a0_0 != a1_0) = true := bne_iff_ne.mpr c11
     (first | rw [c11b0] | (simp only [i64_w, i32_w]; rw [c11b0]) | skip)
     have H' := Aside0.mk H; clear H
     try go_wp2
     replace BK197 := Aside0.mk (blk_drew BK197.out); replace BK198 := Aside0.mk (blk_drew BK198.out); replace BK199 := Aside0.mk (blk_drew BK199.out); replace HB := Aside0.mk (below_drew1 HB.out); refine start_ (n := 37) (S := fun w' => w'.cell? ⟨gb197, 0, none⟩ = some (.int .u64 a0_0) ∧ w'.cell? ⟨gb197, 1, none⟩ = some (.slice A0_1 l0_1.length c0_1) ∧ w'.cell? ⟨gb198, 0, none⟩ = some (.int .u64 a1_0) ∧ w'.cell? ⟨gb198, 1, none⟩ = some (.slice A1_1 l1_1.length c1_1)) (ds := []) (mB 37 0) (by kernel_rfl) rfl rfl ⟨(blk_cell BK197.out 0).trans rfl, (blk_cell BK197.out 1).trans rfl, (blk_cell BK198.out 0).trans rfl, (blk_cell BK198.out 1).trans rfl⟩ (fun hHeld => ?_); refine with_tabW bitmap_Merge.tab1 bitmap_Merge.bits1 (fun HT_ HW_ => ?_); generalize w6.drew = w21 at BK197 BK198 BK199 HB hHeld ⊢; refine take_ (i := 0) (N := some 11) (v := ?_) (a' := ?_) (mB 37 1) rfl rfl (take_ofW HT_.out HW_.out (by kernel_rfl)) (fun _ _ _ h => h) (Or.inl ⟨by rfl, ?_⟩) hHeld ?_ ?_; rotate_left
     ·rintro w' ⟨s0, s1, s2, s3⟩; go_simp; with_reducible rfl
     rotate_left
     ·simp only [Act.put, sa_, sb_, sc_, i64_w, i32_w]; rfl
     refine one_ (i := 1) (N := some 12) (mB 37 3) rfl rfl (one_of HT_.out (by kernel_rfl)) (by decide) (fun K hK => ?_); refine goes_ Tryd.func13 (by kernel_rfl) rfl #[.agg #[.int .u64 a0_0, .slice A0_1 l0_1.length c0_1]] (by rfl) rfl rfl (by (try simp only [List.map_toArray, List.map_cons, List.map_nil]); first | done | rfl | (simp only [List.length_drop, List.length_take]; rfl)) ?_; with_reducible refine (bitmap_Right.calls a0_0 _ _ l0_1 true _ ?side1 ?side2 A7.out).mono ?_
     (case side1 => repeat (first | exact (Kd.C_below HR0_1.out HB.out) | (with_reducible refine Kd.C_alloc ?_ _) | (with_reducible refine Kd.C_drewN ?_ _) | (with_reducible refine Kd.C_drew ?_))); (case side2 => exact HC0_1.out); rintro e w22 ⟨rfl, hb⟩; refine ⟨_, rfl, ?_⟩; replace BK197 := Aside0.mk (blk_below (bk_ BK197) hb); replace BK198 := Aside0.mk (blk_below (bk_ BK198) hb); replace BK199 := Aside0.mk (blk_below (bk_ BK199) hb); replace HB := Aside0.mk (below_step (bl_ HB) hb); (try clear hb); refine hK.out _ _ ⟨(blk_cell BK197.out 0).trans rfl, (blk_cell BK197.out 1).trans rfl, (blk_cell BK198.out 0).trans rfl, (blk_cell BK198.out 1).trans rfl⟩ (fun hHeld => ?_); clear hK K; refine norm_ (a' := ?_) ?_ ?_; rotate_left
     ·show Act.put _ (some 12) _ = _
      simp only [Act.put, sa_, sb_, sc_, i64_w, i32_w]; rfl
     refine pw_ 2 13 (v := ?_) (a' := ?_) (mB 37 7) rfl rfl HT_ (by kernel_rfl) (fun _ _ _ h => h) ?_ ?_ ?_; rotate_left
     ·intro w'; go_simp; with_reducible rfl
     rotate_left
     ·simp only [Act.put, sa_, sb_, sc_, i64_w, i32_w]; rfl
     refine pw_ 3 14 (v := ?_) (a' := ?_) (mB 37 15) rfl rfl HT_ (by kernel_rfl) (fun _ _ _ h => h) ?_ ?_ ?_; rotate_left
     ·intro w'; go_simp; with_reducible rfl
     rotate_left
     ·simp only [Act.put, sa_, sb_, sc_, i64_w, i32_w]; rfl
     refine take_ (i := 4) (N := some 15) (v := ?_) (a' := ?_) (mB 37 31) rfl rfl (take_ofW HT_.out HW_.out (by kernel_rfl)) (fun _ _ _ h => h) (Or.inl ⟨by rfl, ?_⟩) hHeld ?_ ?_; rotate_left
     ·rintro w' ⟨s0, s1, s2, s3⟩; go_simp; with_reducible rfl
     rotate_left
     ·simp only [Act.put, sa_, sb_, sc_, i64_w, i32_w]; rfl
     refine one_ (i := 5) (N := some 16) (mB 37 63) rfl rfl (one_of HT_.out (by kernel_rfl)) (by decide) (fun K hK => ?_); refine goes_ Tryd.func13 (by kernel_rfl) rfl #[.agg #[.int .u64 a1_0, .slice A1_1 l1_1.length c1_1]] (by rfl) rfl rfl (by (try simp only [List.map_toArray, List.map_cons, List.map_nil]); first | done | rfl | (simp only [List.length_drop, List.length_take]; rfl)) ?_; with_reducible refine (bitmap_Right.calls a1_0 _ _ l1_1 true _ ?side1 ?side2 A9.out).mono ?_
     (case side1 => repeat (first | exact (Kd.C_below HR1_1.out HB.out) | (with_reducible refine Kd.C_alloc ?_ _) | (with_reducible refine Kd.C_drewN ?_ _) | (with_reducible refine Kd.C_drew ?_))); (case side2 => exact HC1_1.out); rintro e w23 ⟨rfl, hb⟩; refine ⟨_, rfl, ?_⟩; replace BK197 := Aside0.mk (blk_below (bk_ BK197) hb); replace BK198 := Aside0.mk (blk_below (bk_ BK198) hb); replace BK199 := Aside0.mk (blk_below (bk_ BK199) hb); replace HB := Aside0.mk (below_step (bl_ HB) hb); (try clear hb); refine hK.out _ _ ⟨(blk_cell BK197.out 0).trans rfl, (blk_cell BK197.out 1).trans rfl, (blk_cell BK198.out 0).trans rfl, (blk_cell BK198.out 1).trans rfl⟩ (fun hHeld => ?_); clear hK K; refine norm_ (a' := ?_) ?_ ?_; rotate_left
     ·show Act.put _ (some 16) _ = _
      simp only [Act.put, sa_, sb_, sc_, i64_w, i32_w]; rfl
     refine pw_ 6 17 (v := ?_) (a' := ?_) (mB 37 127) rfl rfl HT_ (by kernel_rfl) (fun _ _ _ h => h) ?_ ?_ ?_; rotate_left
     ·intro w'; go_simp; with_reducible rfl
     rotate_left
     ·simp only [Act.put, sa_, sb_, sc_, i64_w, i32_w]; rfl
     refine pw_ 7 18 (v := ?_) (a' := ?_) (mB 37 255) rfl rfl HT_ (by kernel_rfl) (fun _ _ _ h => h) ?_ ?_ ?_; rotate_left
     ·intro w'; go_simp; with_reducible rfl
     rotate_left
     ·simp only [Act.put, sa_, sb_, sc_, i64_w, i32_w]; rfl
     refine pw_ 8 19 (v := ?_) (a' := ?_) (mB 37 511) rfl rfl HT_ (by kernel_rfl) (fun _ _ _ h => h) ?_ ?_ ?_; rotate_left
     ·intro w'; go_simp; with_reducible rfl
     rotate_left
     ·simp only [Act.put, sa_, sb_, sc_, i64_w, i32_w]; rfl
     refine pw_ 9 20 (v := ?_) (a' := ?_) (mB 37 1023) rfl rfl HT_ (by kernel_rfl) (fun _ _ _ h => h) ?_ ?_ ?_; rotate_left
     ·intro w'; go_simp; with_reducible rfl
     rotate_left
     ·simp only [Act.put, sa_, sb_, sc_, i64_w, i32_w]; rfl
     refine pw_ 11 22 (v := ?_) (a' := ?_) (mB 37 3071) rfl rfl HT_ (by kernel_rfl) (fun _ _ _ h => h) ?_ ?_ ?_; rotate_left
     ·intro w'; go_simp; with_reducible rfl
     rotate_left
     ·simp only [Act.put, sa_, sb_, sc_, i64_w, i32_w]; rfl
     refine take_ (i := 10) (N := some 21) (v := ?_) (a' := ?_) (mB 37 4095) rfl rfl (take_ofW HT_.out HW_.out (by kernel_rfl)) (fun _ _ _ h => h) (Or.inl ⟨by rfl, ?_⟩) hHeld ?_ ?_; rotate_left
     ·rintro w' ⟨s0, s1, s2, s3⟩; go_simp; with_reducible rfl
     rotate_left
     ·simp only [Act.put, sa_, sb_, sc_, i64_w, i32_w]; rfl
     refine take_ (i := 12) (N := some 23) (v := ?_) (a' := ?_) (mB 37 8191) rfl rfl (take_ofW HT_.out HW_.out (by kernel_rfl)) (fun _ _ _ h => h) (Or.inl ⟨by rfl, ?_⟩) hHeld ?_ ?_; rotate_left
     ·rintro w' ⟨s0, s1, s2, s3⟩; go_simp; with_reducible rfl
     rotate_left
     ·simp only [Act.put, sa_, sb_, sc_, i64_w, i32_w]; rfl
     refine pw_ 13 24 (v := ?_) (a' := ?_) (mB 37 16383) rfl rfl HT_ (by kernel_rfl) (fun _ _ _ h => h) ?_ ?_ ?_; rotate_left
     ·intro w'; go_simp; with_reducible rfl
     rotate_left
     ·simp only [Act.put, sa_, sb_, sc_, i64_w, i32_w]; rfl
     refine pw_ 14 25 (v := ?_) (a' := ?_) (mB 37 32767) rfl rfl HT_ (by kernel_rfl) (fun _ _ _ h => h) ?_ ?_ ?_; rotate_left
     ·intro w'; go_simp; with_reducible rfl
     rotate_left
     ·simp only [Act.put, sa_, sb_, sc_, i64_w, i32_w]; rfl
     refine pw_ 15 26 (v := ?_) (a' := ?_) (mB 37 65535) rfl rfl HT_ (by kernel_rfl) (fun _ _ _ h => h) ?_ ?_ ?_; rotate_left
     ·intro w'; go_simp; with_reducible rfl
     rotate_left
     ·simp only [Act.put, sa_, sb_, sc_, i64_w, i32_w]; rfl
     refine un_ [(16, 27), (17, 28), (18, 29), (19, 30), (20, 31), (21, 32), (22, 33)] (fuel := 14) (a' := ?_) (mB 37 8388607) rfl HT_ (by kernel_rfl) (by kernel_rfl) (fun _ _ _ _ h => h) ?_ ?_; rotate_left
     ·simp only [unwA, Act.put, sa_, sb_, sc_, i64_w, i32_w]; rfl
     refine pw_ 23 34 (v := ?_) (a' := ?_) (mB 37 16777215) rfl rfl HT_ (by kernel_rfl) (fun _ _ _ h => h) ?_ ?_ ?_; rotate_left
     ·intro w'; go_simp; with_reducible rfl
     rotate_left
     ·simp only [Act.put, sa_, sb_, sc_, i64_w, i32_w]; rfl
     refine pw_ 24 35 (v := ?_) (a' := ?_) (mB 37 33554431) rfl rfl HT_ (by kernel_rfl) (fun _ _ _ h => h) ?_ ?_ ?_; rotate_left
     ·intro w'; go_simp; with_reducible rfl
     rotate_left
     ·simp only [Act.put, sa_, sb_, sc_, i64_w, i32_w]; rfl
     refine un_ [(25, 36), (26, 37), (27, 38), (28, 39), (29, 40), (30, 41), (31, 42), (32, 43), (33, 44), (34, 45), (35, 46)] (fuel := 1) (a' := ?_) (mB 37 68719476735) rfl HT_ (by kernel_rfl) (by kernel_rfl) (fun _ _ _ _ h => h) ?_ ?_; rotate_left
     ·simp only [unwA, Act.put, sa_, sb_, sc_, i64_w, i32_w]; rfl
     refine pw_ 36 47 (v := ?_) (a' := ?_) (mB 37 137438953471) rfl rfl HT_ (by kernel_rfl) (fun _ _ _ h => h) ?_ ?_ ?_; rotate_left
     ·intro w'; go_simp; with_reducible rfl
     rotate_left
     ·simp only [Act.put, sa_, sb_, sc_, i64_w, i32_w]; rfl
     refine done_ (done_of HT_.out (by kernel_rfl)) ?_
     try go_wp2
     go_meet
     case rel => exact ⟨_, (true), (by first | rfl | (simp; done) | (simp [*]; done)), H', ⟨by first | omega | exact Nat.le_refl _⟩, ⟨bk_ BK197⟩, ⟨bk_ BK198⟩, ⟨bk_ BK199⟩, ⟨bl_ HB⟩⟩
   ·replace c10 := Bool.eq_false_iff.mpr c10; subst c10
    have H1 : (bitmap_Merge.j0 k true a0_0 l0_1 l1_1) = some (r1, r2, r3) := by rw [if_neg (show ¬ (false = true) by decide)] at H; exact H
    clear H; have H := H1; clear H1; have H' := Aside0.mk H; clear H
    try go_wp2
    replace BK197 := Aside0.mk (blk_drew BK197.out); replace BK198 := Aside0.mk (blk_drew BK198.out); replace BK199 := Aside0.mk (blk_drew BK199.out); replace HB := Aside0.mk (below_drew1 HB.out); refine start_ (n := 37) (S := fun w' => w'.cell? ⟨gb197, 0, none⟩ = some (.int .u64 a0_0) ∧ w'.cell? ⟨gb197, 1, none⟩ = some (.slice A0_1 l0_1.length c0_1) ∧ w'.cell? ⟨gb198, 0, none⟩ = some (.int .u64 a1_0) ∧ w'.cell? ⟨gb198, 1, none⟩ = some (.slice A1_1 l1_1.length c1_1)) (ds := []) (mB 37 0) (by kernel_rfl) rfl rfl ⟨(blk_cell BK197.out 0).trans rfl, (blk_cell BK197.out 1).trans rfl, (blk_cell BK198.out 0).trans rfl, (blk_cell BK198.out 1).trans rfl⟩ (fun hHeld => ?_); refine with_tabW bitmap_Merge.tab1 bitmap_Merge.bits1 (fun HT_ HW_ => ?_); generalize w6.drew = w24 at BK197 BK198 BK199 HB hHeld ⊢; refine take_ (i := 0) (N := some 11) (v := ?_) (a' := ?_) (mB 37 1) rfl rfl (take_ofW HT_.out HW_.out (by kernel_rfl)) (fun _ _ _ h => h) (Or.inl ⟨by rfl, ?_⟩) hHeld ?_ ?_; rotate_left
    ·rintro w' ⟨s0, s1, s2, s3⟩; go_simp; with_reducible rfl
    rotate_left
    ·simp only [Act.put, sa_, sb_, sc_, i64_w, i32_w]; rfl
    refine one_ (i := 1) (N := some 12) (mB 37 3) rfl rfl (one_of HT_.out (by kernel_rfl)) (by decide) (fun K hK => ?_); refine goes_ Tryd.func13 (by kernel_rfl) rfl #[.agg #[.int .u64 a0_0, .slice A0_1 l0_1.length c0_1]] (by rfl) rfl rfl (by (try simp only [List.map_toArray, List.map_cons, List.map_nil]); first | done | rfl | (simp only [List.length_drop, List.length_take]; rfl)) ?_; with_reducible refine (bitmap_Right.calls a0_0 _ _ l0_1 true _ ?side1 ?side2 A7.out).mono ?_
    (case side1 => repeat (first | exact (Kd.C_below HR0_1.out HB.out) | (with_reducible refine Kd.C_alloc ?_ _) | (with_reducible refine Kd.C_drewN ?_ _) | (with_reducible refine Kd.C_drew ?_))); (case side2 => exact HC0_1.out); rintro e w25 ⟨rfl, hb⟩; refine ⟨_, rfl, ?_⟩; replace BK197 := Aside0.mk (blk_below (bk_ BK197) hb); replace BK198 := Aside0.mk (blk_below (bk_ BK198) hb); replace BK199 := Aside0.mk (blk_below (bk_ BK199) hb); replace HB := Aside0.mk (below_step (bl_ HB) hb); (try clear hb); refine hK.out _ _ ⟨(blk_cell BK197.out 0).trans rfl, (blk_cell BK197.out 1).trans rfl, (blk_cell BK198.out 0).trans rfl, (blk_cell BK198.out 1).trans rfl⟩ (fun hHeld => ?_); clear hK K; refine norm_ (a' := ?_) ?_ ?_; rotate_left
    ·show Act.put _ (some 12) _ = _
     simp only [Act.put, sa_, sb_, sc_, i64_w, i32_w]; rfl
    refine pw_ 2 13 (v := ?_) (a' := ?_) (mB 37 7) rfl rfl HT_ (by kernel_rfl) (fun _ _ _ h => h) ?_ ?_ ?_; rotate_left
    ·intro w'; go_simp; with_reducible rfl
    rotate_left
    ·simp only [Act.put, sa_, sb_, sc_, i64_w, i32_w]; rfl
    refine pw_ 3 14 (v := ?_) (a' := ?_) (mB 37 15) rfl rfl HT_ (by kernel_rfl) (fun _ _ _ h => h) ?_ ?_ ?_; rotate_left
    ·intro w'; go_simp; with_reducible rfl
    rotate_left
    ·simp only [Act.put, sa_, sb_, sc_, i64_w, i32_w]; rfl
    refine take_ (i := 4) (N := some 15) (v := ?_) (a' := ?_) (mB 37 31) rfl rfl (take_ofW HT_.out HW_.out (by kernel_rfl)) (fun _ _ _ h => h) (Or.inl ⟨by rfl, ?_⟩) hHeld ?_ ?_; rotate_left
    ·rintro w' ⟨s0, s1, s2, s3⟩; go_simp; with_reducible rfl
    rotate_left
    ·simp only [Act.put, sa_, sb_, sc_, i64_w, i32_w]; rfl
    refine one_ (i := 5) (N := some 16) (mB 37 63) rfl rfl (one_of HT_.out (by kernel_rfl)) (by decide) (fun K hK => ?_); refine goes_ Tryd.func13 (by kernel_rfl) rfl #[.agg #[.int .u64 a1_0, .slice A1_1 l1_1.length c1_1]] (by rfl) rfl rfl (by (try simp only [List.map_toArray, List.map_cons, List.map_nil]); first | done | rfl | (simp only [List.length_drop, List.length_take]; rfl)) ?_; with_reducible refine (bitmap_Right.calls a1_0 _ _ l1_1 false _ ?side1 ?side2 A9.out).mono ?_
    (case side1 => repeat (first | exact (Kd.C_below HR1_1.out HB.out) | (with_reducible refine Kd.C_alloc ?_ _) | (with_reducible refine Kd.C_drewN ?_ _) | (with_reducible refine Kd.C_drew ?_))); (case side2 => exact HC1_1.out); rintro e w26 ⟨rfl, hb⟩; refine ⟨_, rfl, ?_⟩; replace BK197 := Aside0.mk (blk_below (bk_ BK197) hb); replace BK198 := Aside0.mk (blk_below (bk_ BK198) hb); replace BK199 := Aside0.mk (blk_below (bk_ BK199) hb); replace HB := Aside0.mk (below_step (bl_ HB) hb); (try clear hb); refine hK.out _ _ ⟨(blk_cell BK197.out 0).trans rfl, (blk_cell BK197.out 1).trans rfl, (blk_cell BK198.out 0).trans rfl, (blk_cell BK198.out 1).trans rfl⟩ (fun hHeld => ?_); clear hK K; refine norm_ (a' := ?_) ?_ ?_; rotate_left
    ·show Act.put _ (some 16) _ = _
     simp only [Act.put, sa_, sb_, sc_, i64_w, i32_w]; rfl
    refine pw_ 6 17 (v := ?_) (a' := ?_) (mB 37 127) rfl rfl HT_ (by kernel_rfl) (fun _ _ _ h => h) ?_ ?_ ?_; rotate_left
    ·intro w'; go_simp; with_reducible rfl
    rotate_left
    ·simp only [Act.put, sa_, sb_, sc_, i64_w, i32_w]; rfl
    refine pw_ 7 18 (v := ?_) (a' := ?_) (mB 37 255) rfl rfl HT_ (by kernel_rfl) (fun _ _ _ h => h) ?_ ?_ ?_; rotate_left
    ·intro w'; go_simp; with_reducible rfl
    rotate_left
    ·simp only [Act.put, sa_, sb_, sc_, i64_w, i32_w]; rfl
    refine pw_ 8 19 (v := ?_) (a' := ?_) (mB 37 511) rfl rfl HT_ (by kernel_rfl) (fun _ _ _ h => h) ?_ ?_ ?_; rotate_left
    ·intro w'; go_simp; with_reducible rfl
    rotate_left
    ·simp only [Act.put, sa_, sb_, sc_, i64_w, i32_w]; rfl
    refine un_ [(9, 20), (10, 21), (11, 22), (12, 23), (13, 24)] (fuel := 23) (a' := ?_) (mB 37 16383) rfl HT_ (by kernel_rfl) (by kernel_rfl) (fun _ _ _ _ h => h) ?_ ?_; rotate_left
    ·simp only [unwA, Act.put, sa_, sb_, sc_, i64_w, i32_w]; rfl
    refine pw_ 14 25 (v := ?_) (a' := ?_) (mB 37 32767) rfl rfl HT_ (by kernel_rfl) (fun _ _ _ h => h) ?_ ?_ ?_; rotate_left
    ·intro w'; go_simp; with_reducible rfl
    rotate_left
    ·simp only [Act.put, sa_, sb_, sc_, i64_w, i32_w]; rfl
    refine pw_ 15 26 (v := ?_) (a' := ?_) (mB 37 65535) rfl rfl HT_ (by kernel_rfl) (fun _ _ _ h => h) ?_ ?_ ?_; rotate_left
    ·intro w'; go_simp; with_reducible rfl
    rotate_left
    ·simp only [Act.put, sa_, sb_, sc_, i64_w, i32_w]; rfl
    refine un_ [(16, 27), (17, 28), (18, 29), (19, 30), (20, 31), (21, 32), (22, 33)] (fuel := 14) (a' := ?_) (mB 37 8388607) rfl HT_ (by kernel_rfl) (by kernel_rfl) (fun _ _ _ _ h => h) ?_ ?_; rotate_left
    ·simp only [unwA, Act.put, sa_, sb_, sc_, i64_w, i32_w]; rfl
    refine pw_ 23 34 (v := ?_) (a' := ?_) (mB 37 16777215) rfl rfl HT_ (by kernel_rfl) (fun _ _ _ h => h) ?_ ?_ ?_; rotate_left
    ·intro w'; go_simp; with_reducible rfl
    rotate_left
    ·simp only [Act.put, sa_, sb_, sc_, i64_w, i32_w]; rfl
    refine pw_ 24 35 (v := ?_) (a' := ?_) (mB 37 33554431) rfl rfl HT_ (by kernel_rfl) (fun _ _ _ h => h) ?_ ?_ ?_; rotate_left
    ·intro w'; go_simp; with_reducible rfl
    rotate_left
    ·simp only [Act.put, sa_, sb_, sc_, i64_w, i32_w]; rfl
    refine un_ [(25, 36), (26, 37), (27, 38), (28, 39), (29, 40), (30, 41), (31, 42), (32, 43), (33, 44), (34, 45), (35, 46)] (fuel := 1) (a' := ?_) (mB 37 68719476735) rfl HT_ (by kernel_rfl) (by kernel_rfl) (fun _ _ _ _ h => h) ?_ ?_; rotate_left
    ·simp only [unwA, Act.put, sa_, sb_, sc_, i64_w, i32_w]; rfl
    refine pw_ 36 47 (v := ?_) (a' := ?_) (mB 37 137438953471) rfl rfl HT_ (by kernel_rfl) (fun _ _ _ h => h) ?_ ?_ ?_; rotate_left
    ·intro w'; go_simp; with_reducible rfl
    rotate_left
    ·simp only [Act.put, sa_, sb_, sc_, i64_w, i32_w]; rfl
    refine done_ (done_of HT_.out (by kernel_rfl)) ?_
    try go_wp2
    go_meet
    case rel => exact ⟨_, (true), (by first | rfl | (simp; done) | (simp [*]; done)), H', ⟨by first | omega | exact Nat.le_refl _⟩, ⟨bk_ BK197⟩, ⟨bk_ BK198⟩, ⟨bk_ BK199⟩, ⟨bl_ HB⟩⟩
  ·replace c8 := Bool.eq_false_iff.mpr c8; subst c8
   have H1 : (bitmap_Merge.j0 k true a0_0 l0_1 l1_1) = some (r1, r2, r3) := by rw [if_neg (show ¬ (false = true) by decide)] at H; exact H
   clear H; have H := H1; clear H1; have H' := Aside0.mk H; clear H
   try go_wp2
   replace BK197 := Aside0.mk (blk_drew BK197.out); replace BK198 := Aside0.mk (blk_drew BK198.out); replace BK199 := Aside0.mk (blk_drew BK199.out); replace HB := Aside0.mk (below_drew1 HB.out); refine start_ (n := 37) (S := fun w' => w'.cell? ⟨gb197, 0, none⟩ = some (.int .u64 a0_0) ∧ w'.cell? ⟨gb197, 1, none⟩ = some (.slice A0_1 l0_1.length c0_1)) (ds := []) (mB 37 0) (by kernel_rfl) rfl rfl ⟨(blk_cell BK197.out 0).trans rfl, (blk_cell BK197.out 1).trans rfl⟩ (fun hHeld => ?_); refine with_tabW bitmap_Merge.tab1 bitmap_Merge.bits1 (fun HT_ HW_ => ?_); generalize w6.drew = w27 at BK197 BK198 BK199 HB hHeld ⊢; refine take_ (i := 0) (N := some 11) (v := ?_) (a' := ?_) (mB 37 1) rfl rfl (take_ofW HT_.out HW_.out (by kernel_rfl)) (fun _ _ _ h => h) (Or.inl ⟨by rfl, ?_⟩) hHeld ?_ ?_; rotate_left
   ·rintro w' ⟨s0, s1⟩; go_simp; with_reducible rfl
   rotate_left
   ·simp only [Act.put, sa_, sb_, sc_, i64_w, i32_w]; rfl
   refine one_ (i := 1) (N := some 12) (mB 37 3) rfl rfl (one_of HT_.out (by kernel_rfl)) (by decide) (fun K hK => ?_); refine goes_ Tryd.func13 (by kernel_rfl) rfl #[.agg #[.int .u64 a0_0, .slice A0_1 l0_1.length c0_1]] (by rfl) rfl rfl (by (try simp only [List.map_toArray, List.map_cons, List.map_nil]); first | done | rfl | (simp only [List.length_drop, List.length_take]; rfl)) ?_; with_reducible refine (bitmap_Right.calls a0_0 _ _ l0_1 false _ ?side1 ?side2 A7.out).mono ?_
   (case side1 => repeat (first | exact (Kd.C_below HR0_1.out HB.out) | (with_reducible refine Kd.C_alloc ?_ _) | (with_reducible refine Kd.C_drewN ?_ _) | (with_reducible refine Kd.C_drew ?_))); (case side2 => exact HC0_1.out); rintro e w28 ⟨rfl, hb⟩; refine ⟨_, rfl, ?_⟩; replace BK197 := Aside0.mk (blk_below (bk_ BK197) hb); replace BK198 := Aside0.mk (blk_below (bk_ BK198) hb); replace BK199 := Aside0.mk (blk_below (bk_ BK199) hb); replace HB := Aside0.mk (below_step (bl_ HB) hb); (try clear hb); refine hK.out _ _ ⟨(blk_cell BK197.out 0).trans rfl, (blk_cell BK197.out 1).trans rfl⟩ (fun hHeld => ?_); clear hK K; refine norm_ (a' := ?_) ?_ ?_; rotate_left
   ·show Act.put _ (some 12) _ = _
    simp only [Act.put, sa_, sb_, sc_, i64_w, i32_w]; rfl
   refine pw_ 2 13 (v := ?_) (a' := ?_) (mB 37 7) rfl rfl HT_ (by kernel_rfl) (fun _ _ _ h => h) ?_ ?_ ?_; rotate_left
   ·intro w'; go_simp; with_reducible rfl
   rotate_left
   ·simp only [Act.put, sa_, sb_, sc_, i64_w, i32_w]; rfl
   refine pw_ 3 14 (v := ?_) (a' := ?_) (mB 37 15) rfl rfl HT_ (by kernel_rfl) (fun _ _ _ h => h) ?_ ?_ ?_; rotate_left
   ·intro w'; go_simp; with_reducible rfl
   rotate_left
   ·simp only [Act.put, sa_, sb_, sc_, i64_w, i32_w]; rfl
   refine un_ [(4, 15), (5, 16), (6, 17)] (fuel := 30) (a' := ?_) (mB 37 127) rfl HT_ (by kernel_rfl) (by kernel_rfl) (fun _ _ _ _ h => h) ?_ ?_; rotate_left
   ·simp only [unwA, Act.put, sa_, sb_, sc_, i64_w, i32_w]; rfl
   refine pw_ 7 18 (v := ?_) (a' := ?_) (mB 37 255) rfl rfl HT_ (by kernel_rfl) (fun _ _ _ h => h) ?_ ?_ ?_; rotate_left
   ·intro w'; go_simp; with_reducible rfl
   rotate_left
   ·simp only [Act.put, sa_, sb_, sc_, i64_w, i32_w]; rfl
   refine pw_ 8 19 (v := ?_) (a' := ?_) (mB 37 511) rfl rfl HT_ (by kernel_rfl) (fun _ _ _ h => h) ?_ ?_ ?_; rotate_left
   ·intro w'; go_simp; with_reducible rfl
   rotate_left
   ·simp only [Act.put, sa_, sb_, sc_, i64_w, i32_w]; rfl
   refine un_ [(9, 20), (10, 21), (11, 22), (12, 23), (13, 24)] (fuel := 23) (a' := ?_) (mB 37 16383) rfl HT_ (by kernel_rfl) (by kernel_rfl) (fun _ _ _ _ h => h) ?_ ?_; rotate_left
   ·simp only [unwA, Act.put, sa_, sb_, sc_, i64_w, i32_w]; rfl
   refine pw_ 14 25 (v := ?_) (a' := ?_) (mB 37 32767) rfl rfl HT_ (by kernel_rfl) (fun _ _ _ h => h) ?_ ?_ ?_; rotate_left
   ·intro w'; go_simp; with_reducible rfl
   rotate_left
   ·simp only [Act.put, sa_, sb_, sc_, i64_w, i32_w]; rfl
   refine pw_ 15 26 (v := ?_) (a' := ?_) (mB 37 65535) rfl rfl HT_ (by kernel_rfl) (fun _ _ _ h => h) ?_ ?_ ?_; rotate_left
   ·intro w'; go_simp; with_reducible rfl
   rotate_left
   ·simp only [Act.put, sa_, sb_, sc_, i64_w, i32_w]; rfl
   refine un_ [(16, 27), (17, 28), (18, 29), (19, 30), (20, 31), (21, 32), (22, 33)] (fuel := 14) (a' := ?_) (mB 37 8388607) rfl HT_ (by kernel_rfl) (by kernel_rfl) (fun _ _ _ _ h => h) ?_ ?_; rotate_left
   ·simp only [unwA, Act.put, sa_, sb_, sc_, i64_w, i32_w]; rfl
   refine pw_ 23 34 (v := ?_) (a' := ?_) (mB 37 16777215) rfl rfl HT_ (by kernel_rfl) (fun _ _ _ h => h) ?_ ?_ ?_; rotate_left
   ·intro w'; go_simp; with_reducible rfl
   rotate_left
   ·simp only [Act.put, sa_, sb_, sc_, i64_w, i32_w]; rfl
   refine pw_ 24 35 (v := ?_) (a' := ?_) (mB 37 33554431) rfl rfl HT_ (by kernel_rfl) (fun _ _ _ h => h) ?_ ?_ ?_; rotate_left
   ·intro w'; go_simp; with_reducible rfl
   rotate_left
   ·simp only [Act.put, sa_, sb_, sc_, i64_w, i32_w]; rfl
   refine un_ [(25, 36), (26, 37), (27, 38), (28, 39), (29, 40), (30, 41), (31, 42), (32, 43), (33, 44), (34, 45), (35, 46)] (fuel := 1) (a' := ?_) (mB 37 68719476735) rfl HT_ (by kernel_rfl) (by kernel_rfl) (fun _ _ _ _ h => h) ?_ ?_; rotate_left
   ·simp only [unwA, Act.put, sa_, sb_, sc_, i64_w, i32_w]; rfl
   refine pw_ 36 47 (v := ?_) (a' := ?_) (mB 37 137438953471) rfl rfl HT_ (by kernel_rfl) (fun _ _ _ h => h) ?_ ?_ ?_; rotate_left
   ·intro w'; go_simp; with_reducible rfl
   rotate_left
   ·simp only [Act.put, sa_, sb_, sc_, i64_w, i32_w]; rfl
   refine done_ (done_of HT_.out (by kernel_rfl)) ?_
   try go_wp2
   go_meet
   case rel => exact ⟨_, (true), (by first | rfl | (simp; done) | (simp [*]; done)), H', ⟨by first | omega | exact Nat.le_refl _⟩, ⟨bk_ BK197⟩, ⟨bk_ BK198⟩, ⟨bk_ BK199⟩, ⟨bl_ HB⟩⟩
 case rest =>
  clear HC3; (try clear c1); (try clear p2); (try clear c8); (try clear c10); (try clear c13); obtain ⟨kq, x47_2, rfl, HA, HJ2, BK197, BK198, BK199, HB⟩ := hcut
  cases kq with
  | zero => exact absurd HA.out (by simp [bitmap_Merge.j0])
  | succ kj2 =>
   have H := HA.out; clear HA; simp only [bitmap_Merge.j0] at H
   by_cases c29 : x47_2 = true
   ·subst c29
    have H1 : (some (0, ([] : List (List Bool)), 1)) = some (r1, r2, r3) := by rw [if_pos rfl] at H; exact H
    clear H; have H := H1; clear H1; simp only [Option.some.injEq, Prod.mk.injEq] at H; obtain ⟨rfl, rfl, rfl⟩ := H; have hnb30 := NB199_197.out; have hnc30 := NB197_199.out; have hnb31 := NB199_198.out; have hnc31 := NB198_199.out; have hcz32_0 : wc.cell? ⟨gb199, 0, none⟩ = some (.int .u64 0) := (blk_cell BK199.out 0).trans rfl; have hcz32_1 : wc.cell? ⟨gb199, 1, none⟩ = some (.slice none 0 0) := (blk_cell BK199.out 1).trans rfl; have hfz32_0 := blk_frozen BK199.out 0; have hfz32_1 := blk_frozen BK199.out 1
    go_wp2
    refine bodyPost_ret (results_ct rfl _ _ gb199 25 #[.int .u64 0, .slice none 0 0] (0, 0) _ rfl (by (with_reducible repeat (first | refine blk_drewN ?_ _ | refine blk_drew ?_ | refine blk_alloc ?_ _)); refine blk_put (cs := #[.int .u64 0, .slice none 0 0]) ?_ 1 _ rfl; (with_reducible repeat (first | refine blk_drewN ?_ _ | refine blk_drew ?_ | refine blk_alloc ?_ _)); refine blk_put (cs := #[.int .u64 0, .slice none 0 0]) ?_ 0 _ rfl; (with_reducible repeat (first | refine blk_drewN ?_ _ | refine blk_drew ?_ | refine blk_alloc ?_ _)); exact BK199.out) Tryd.underlying25 rfl (by kernel_rfl)) rfl ?_; exact ⟨_, by first | rfl | (simp [errW_none, errW_some] <;> rfl) | (simp [*, errW_none, errW_some] <;> rfl), by first | exact Kd.S_nil _ _ _ _ _ | exact Kd.N_nil _ _ _ _ _ | exact Kd.V_nil _ _ _ _ _ | exact Kd.Q_nil _ _ _ _ _ | exact Kd.R_nil _ _ _ _ _, bl_ HB⟩
   ·replace c29 := Bool.eq_false_iff.mpr c29; subst c29
    have H1 : (if 0 < (l0_1.length : Int) then ((bitmap_New.f kj2 a0_0 (l0_1.length : Int) ((rd_L1 l0_1 0).length : Int)).bind fun bt205 => (bitmap_Merge.l0 kj2 l0_1 l1_1 bt205.2.1 (bt205.2.1.length : Int) 0 bt205.1)) else (none)) = some (r1, r2, r3) := by rw [if_neg (show ¬ (false = true) by decide)] at H; exact H
    clear H; have H := H1; clear H1
    by_cases c33 : 0 < (l0_1.length : Int)
    ·rw [if_pos c33] at H; have c33b0 : decide (0 < (l0_1.length : Int)) = true := decide_eq_true c33; have c33b1 : decide (0 < l0_1.length) = true := decide_eq_true (by omega); clear c33; replace H := Option.bind_eq_some_iff.mp H; obtain ⟨⟨t205, t206, t209⟩, A340, H⟩ := H; replace H : (bitmap_Merge.l0 kj2 l0_1 l1_1 t206 (t206.length : Int) 0 t205) = some (r1, r2, r3) := H; have A34 := Aside0.mk A340; clear A340; have H' := Aside0.mk H; clear H
     try go_wp2
     replace BK197 := Aside0.mk (blk_drew BK197.out); replace BK198 := Aside0.mk (blk_drew BK198.out); replace BK199 := Aside0.mk (blk_drew BK199.out); replace HB := Aside0.mk (below_drew1 HB.out); have p204 : 0 ≤ (0 : Int) := (by omega); have q204 : 0 < (l0_1.length : Int) := of_decide_eq_true (by first | (with_reducible assumption) | assumption); obtain ⟨ad204, A204_0, c204_0, e204, hx204_0, hl204_0, hi204_0⟩ := at_L1 HR0_1.out 0 p204 q204; have hw204_0 := hx204_0; (try rw [show ((0 : Int)).toNat = 0 from rfl] at hw204_0); (try rw [show 0 * 1 = 0 from rfl] at hw204_0); (try rw [Addr.add_zero'] at hw204_0)
     cases e204; have qi204 : (0 < l0_1.length) = True := eq_true (by omega); (try rw [show ((0 : Int)).toNat = 0 from rfl] at hx204_0); (try rw [Addr.add_zero'] at hx204_0); (try replace hx204_0 := (HB.out.cell (World.block_lt_of_cell? w _ hx204_0)).trans hx204_0); have HR204_0 := Aside0.mk hi204_0; have HC204_0 := Aside0.mk hl204_0; clear hi204_0 hl204_0; replace p204 := eq_true p204; replace q204 := eq_true q204; refine start_ (n := 17) (S := fun w' => w'.cell? ⟨gb197, 0, none⟩ = some (.int .u64 a0_0) ∧ w'.cell? ⟨gb197, 1, none⟩ = some (.slice (some ad204) l0_1.length c0_1) ∧ w'.cell? ad204 = some (.slice A204_0 (rd_L1 l0_1 0).length c204_0)) (ds := []) (mB 17 0) (by kernel_rfl) rfl rfl ⟨(blk_cell BK197.out 0).trans rfl, (blk_cell BK197.out 1).trans rfl, ((HB.out.cell (World.block_lt_of_cell? w _ hw204_0)).trans hw204_0)⟩ (fun hHeld => ?_); refine with_tabW bitmap_Merge.tab3 bitmap_Merge.bits3 (fun HT_ HW_ => ?_); generalize wc.drew = w35 at BK197 BK198 BK199 HB HR204_0 hx204_0 hHeld ⊢; refine pw_ 0 50 (v := ?_) (a' := ?_) (mB 17 1) rfl rfl HT_ (by kernel_rfl) (fun _ _ _ h => h) ?_ ?_ ?_; rotate_left
     ·intro w'; go_simp; with_reducible rfl
     rotate_left
     ·simp only [Act.put, sa_, sb_, sc_, i64_w, i32_w]; rfl
     refine pw_ 2 52 (v := ?_) (a' := ?_) (mB 17 5) rfl rfl HT_ (by kernel_rfl) (fun _ _ _ h => h) ?_ ?_ ?_; rotate_left
     ·intro w'; go_simp; with_reducible rfl
     rotate_left
     ·simp only [Act.put, sa_, sb_, sc_, i64_w, i32_w]; rfl
     refine pw_ 5 55 (v := ?_) (a' := ?_) (mB 17 37) rfl rfl HT_ (by kernel_rfl) (fun _ _ _ h => h) ?_ ?_ ?_; rotate_left
     ·intro w'; go_simp; with_reducible rfl
     rotate_left
     ·simp only [Act.put, sa_, sb_, sc_, i64_w, i32_w]; rfl
     refine take_ (i := 1) (N := some 51) (v := ?_) (a' := ?_) (mB 17 39) rfl rfl (take_ofW HT_.out HW_.out (by kernel_rfl)) (fun _ _ _ h => h) (Or.inl ⟨by rfl, ?_⟩) hHeld ?_ ?_; rotate_left
     ·rintro w' ⟨s0, s1, s2⟩; go_simp; with_reducible rfl
     rotate_left
     ·simp only [Act.put, sa_, sb_, sc_, i64_w, i32_w]; rfl
     refine take_ (i := 3) (N := some 53) (v := ?_) (a' := ?_) (mB 17 47) rfl rfl (take_ofW HT_.out HW_.out (by kernel_rfl)) (fun _ _ _ h => h) (Or.inl ⟨by rfl, ?_⟩) hHeld ?_ ?_; rotate_left
     ·rintro w' ⟨s0, s1, s2⟩; go_simp; with_reducible rfl
     rotate_left
     ·simp only [Act.put, sa_, sb_, sc_, i64_w, i32_w]; rfl
     refine pw_ 4 54 (v := ?_) (a' := ?_) (mB 17 63) rfl rfl HT_ (by kernel_rfl) (fun _ _ _ h => h) ?_ ?_ ?_; rotate_left
     ·intro w'; go_simp; with_reducible rfl
     rotate_left
     ·simp only [Act.put, sa_, sb_, sc_, i64_w, i32_w]; rfl
     refine take_ (i := 6) (N := some 56) (v := ?_) (a' := ?_) (mB 17 127) rfl rfl (take_ofW HT_.out HW_.out (by kernel_rfl)) (fun _ _ _ h => h) (Or.inl ⟨by rfl, ?_⟩) hHeld ?_ ?_; rotate_left
     ·rintro w' ⟨s0, s1, s2⟩; go_simp; with_reducible rfl
     rotate_left
     ·simp only [Act.put, sa_, sb_, sc_, i64_w, i32_w]; rfl
     refine pw_ 7 57 (v := ?_) (a' := ?_) (mB 17 255) rfl rfl HT_ (by kernel_rfl) (fun _ _ _ h => h) ?_ ?_ ?_; rotate_left
     ·intro w'; go_simp; with_reducible rfl
     rotate_left
     ·simp only [Act.put, sa_, sb_, sc_, i64_w, i32_w]; rfl
     refine take_ (i := 8) (N := some 58) (v := ?_) (a' := ?_) (mB 17 511) rfl rfl (take_ofW HT_.out HW_.out (by kernel_rfl)) (fun _ _ _ h => h) (Or.inl ⟨by rfl, ?_⟩) hHeld ?_ ?_; rotate_left
     ·rintro w' ⟨s0, s1, s2⟩; go_simp; with_reducible rfl
     rotate_left
     ·simp only [Act.put, sa_, sb_, sc_, i64_w, i32_w]; rfl
     refine pw_ 9 59 (v := ?_) (a' := ?_) (mB 17 1023) rfl rfl HT_ (by kernel_rfl) (fun _ _ _ h => h) ?_ ?_ ?_; rotate_left
     ·intro w'; go_simp; with_reducible rfl
     rotate_left
     ·simp only [Act.put, sa_, sb_, sc_, i64_w, i32_w]; rfl
     refine join_ (σ := Value × Nat) 2 (mB 17 32767) (fun s_ => [(60, .tuple #[.agg #[.int .u64 t205, s_.1], .int .i64 t209]), (6, .pointer (some ⟨s_.2, 0, none⟩)), (49, .tuple #[.agg #[.int .u64 t205, s_.1], .int .i64 t209]), (61, .agg #[.int .u64 t205, s_.1]), (62, .int .i64 t209)]) (fun s_ w' => (w'.cell? ⟨gb197, 0, none⟩ = some (.int .u64 a0_0) ∧ w'.cell? ⟨gb197, 1, none⟩ = some (.slice (some ad204) l0_1.length c0_1) ∧ w'.cell? ad204 = some (.slice A204_0 (rd_L1 l0_1 0).length c204_0)) ∧ (Kd.S (Kd.slice 4 Kd.bool) 33 w' w.heap.size (fun _ => True) s_.1 t206) ∧ (w'.heap[gb197]? = some (.cells #[.int .u64 a0_0, .slice (some ad204) l0_1.length c0_1] 25 (0, 0))) ∧ (w'.heap[gb198]? = some (.cells #[.int .u64 a1_0, .slice A1_1 l1_1.length c1_1] 25 (0, 0))) ∧ (w'.heap[gb199]? = some (.cells #[.int .u64 0, .slice none 0 0] 25 (0, 0))) ∧ (w'.heap[s_.2]? = some (.cells #[.int .u64 0, .slice none 0 0] 25 (0, 0))) ∧ (w.heap.size ≤ s_.2) ∧ (w.heap.size ≤ s_.2) ∧ (gb197 ≠ s_.2) ∧ (s_.2 ≠ gb197) ∧ (gb198 ≠ s_.2) ∧ (s_.2 ≠ gb198) ∧ (gb199 ≠ s_.2) ∧ (s_.2 ≠ gb199) ∧ (Below w.heap.size w w')) ?_ ?_; rotate_left
     ·intro hCont; refine two_ (i := 10) (j := 14) (Ni := some 60) (Nj := some 6) (mB 17 2047) (mB 17 17407) rfl rfl rfl rfl (two_of HT_.out (by kernel_rfl)) (by decide) (by decide) (fun K hK => ?_) (fun K hK => ?_)
      ·skip; refine goes_ Tryd.func8 (by kernel_rfl) rfl #[.int .u64 a0_0, .int .i64 (l0_1.length : Int), .int .i64 ((rd_L1 l0_1 0).length : Int)] (by rfl) rfl rfl (by (try simp only [List.map_toArray, List.map_cons, List.map_nil]); first | done | rfl | (simp only [List.length_drop, List.length_take]; rfl)) ?_
       with_reducible refine (bitmap_New.calls kj2 a0_0 (l0_1.length : Int) ((rd_L1 l0_1 0).length : Int) t205 t206 t209 _ A34.out).mono ?_
       rintro e w36 ⟨v207, rfl, ho0, hb⟩; refine ⟨_, rfl, ?_⟩; have HO208 := Aside0.mk (Kd.S_lower ho0 (below_size (bl_ HB))); replace BK197 := Aside0.mk (blk_below (bk_ BK197) hb); replace BK198 := Aside0.mk (blk_below (bk_ BK198) hb); replace BK199 := Aside0.mk (blk_below (bk_ BK199) hb); replace HB := Aside0.mk (below_step (bl_ HB) hb); (try clear hb); (try clear ho0); refine hK.out _ _ ⟨(blk_cell BK197.out 0).trans rfl, (blk_cell BK197.out 1).trans rfl, ((HB.out.cell (World.block_lt_of_cell? w _ hw204_0)).trans hw204_0)⟩ (fun hHeld => ?_); clear hK K; refine norm_ (a' := ?_) ?_ ?_; rotate_left
       ·show Act.put _ (some 60) _ = _
        simp only [Act.put, sa_, sb_, sc_, i64_w, i32_w]; rfl
       refine pw_ 11 49 (v := ?_) (a' := ?_) (mB 17 4095) rfl rfl HT_ (by kernel_rfl) (fun _ _ _ h => h) ?_ ?_ ?_; rotate_left
       ·intro w'; go_simp; with_reducible rfl
       rotate_left
       ·simp only [Act.put, sa_, sb_, sc_, i64_w, i32_w]; rfl
       refine pw_ 12 61 (v := ?_) (a' := ?_) (mB 17 8191) rfl rfl HT_ (by kernel_rfl) (fun _ _ _ h => h) ?_ ?_ ?_; rotate_left
       ·intro w'; go_simp; with_reducible rfl
       rotate_left
       ·simp only [Act.put, sa_, sb_, sc_, i64_w, i32_w]; rfl
       refine pw_ 13 62 (v := ?_) (a' := ?_) (mB 17 16383) rfl rfl HT_ (by kernel_rfl) (fun _ _ _ h => h) ?_ ?_ ?_; rotate_left
       ·intro w'; go_simp; with_reducible rfl
       rotate_left
       ·simp only [Act.put, sa_, sb_, sc_, i64_w, i32_w]; rfl
       refine one_ (i := 14) (N := some 6) (mB 17 32767) rfl rfl (one_of HT_.out (by kernel_rfl)) (by decide) (fun K hK => ?_); refine box_step ?hg (N := 6) ?hd (cs := #[.int .u64 0, .slice none 0 0]) (t := 25) ?hr ?_; (case hd => rfl); (case hg => rfl); (case hr => first | (go_simp; done) | (go_simp; rfl)); intro gb210 hg w37 hbox hb; replace HO208 := Aside0.mk (Kd.S_below (sk_ HO208) hb); have BK210 := Aside0.mk (hbox); have GW210 := Aside0.mk (gl_ hg HB); have GE210 := Aside0.mk (gl_ hg HB); replace HB := Aside0.mk (below_step (bl_ HB) hb); have NB197_210 := Aside0.mk (nl_ hg BK197); have NB210_197 := Aside0.mk (ng_ hg BK197); replace BK197 := Aside0.mk (blk_below (bk_ BK197) hb); have NB198_210 := Aside0.mk (nl_ hg BK198); have NB210_198 := Aside0.mk (ng_ hg BK198); replace BK198 := Aside0.mk (blk_below (bk_ BK198) hb); have NB199_210 := Aside0.mk (nl_ hg BK199); have NB210_199 := Aside0.mk (ng_ hg BK199); replace BK199 := Aside0.mk (blk_below (bk_ BK199) hb); clear hb hbox hg; refine hK.out _ _ ⟨(blk_cell BK197.out 0).trans rfl, (blk_cell BK197.out 1).trans rfl, ((HB.out.cell (World.block_lt_of_cell? w _ hw204_0)).trans hw204_0)⟩ (fun hHeld => ?_); clear hK K; refine norm_ (a' := ?_) ?_ ?_; rotate_left
       ·show Act.put _ (some 6) _ = _
        simp only [Act.put, sa_, sb_, sc_, i64_w, i32_w]; rfl
       exact norm_ (by simp only [putAll, Act.put, sa_, sb_, sc_]) (hCont (v207, gb210) _ ⟨hHeld, (sk_ HO208), (bk_ BK197), (bk_ BK198), (bk_ BK199), (bk_ BK210), GW210.out, GE210.out, NB197_210.out, NB210_197.out, NB198_210.out, NB210_198.out, NB199_210.out, NB210_199.out, (bl_ HB)⟩)
      ·skip; refine box_step ?hg (N := 6) ?hd (cs := #[.int .u64 0, .slice none 0 0]) (t := 25) ?hr ?_; (case hd => rfl); (case hg => rfl); (case hr => first | (go_simp; done) | (go_simp; rfl))
       intro gb210 hg w36 hbox hb; have BK210 := Aside0.mk (hbox); have GW210 := Aside0.mk (gl_ hg HB); have GE210 := Aside0.mk (gl_ hg HB); replace HB := Aside0.mk (below_step (bl_ HB) hb); have NB197_210 := Aside0.mk (nl_ hg BK197); have NB210_197 := Aside0.mk (ng_ hg BK197); replace BK197 := Aside0.mk (blk_below (bk_ BK197) hb); have NB198_210 := Aside0.mk (nl_ hg BK198); have NB210_198 := Aside0.mk (ng_ hg BK198); replace BK198 := Aside0.mk (blk_below (bk_ BK198) hb); have NB199_210 := Aside0.mk (nl_ hg BK199); have NB210_199 := Aside0.mk (ng_ hg BK199); replace BK199 := Aside0.mk (blk_below (bk_ BK199) hb); clear hb hbox hg; refine hK.out _ _ ⟨(blk_cell BK197.out 0).trans rfl, (blk_cell BK197.out 1).trans rfl, ((HB.out.cell (World.block_lt_of_cell? w _ hw204_0)).trans hw204_0)⟩ (fun hHeld => ?_); clear hK K; refine norm_ (a' := ?_) ?_ ?_; rotate_left
       ·show Act.put _ (some 6) _ = _
        simp only [Act.put, sa_, sb_, sc_, i64_w, i32_w]; rfl
       refine one_ (i := 10) (N := some 60) (mB 17 18431) rfl rfl (one_of HT_.out (by kernel_rfl)) (by decide) (fun K hK => ?_); refine goes_ Tryd.func8 (by kernel_rfl) rfl #[.int .u64 a0_0, .int .i64 (l0_1.length : Int), .int .i64 ((rd_L1 l0_1 0).length : Int)] (by rfl) rfl rfl (by (try simp only [List.map_toArray, List.map_cons, List.map_nil]); first | done | rfl | (simp only [List.length_drop, List.length_take]; rfl)) ?_; with_reducible refine (bitmap_New.calls kj2 a0_0 (l0_1.length : Int) ((rd_L1 l0_1 0).length : Int) t205 t206 t209 _ A34.out).mono ?_
       rintro e w37 ⟨v207, rfl, ho0, hb⟩; refine ⟨_, rfl, ?_⟩; have HO208 := Aside0.mk (Kd.S_lower ho0 (below_size (bl_ HB))); replace BK197 := Aside0.mk (blk_below (bk_ BK197) hb); replace BK198 := Aside0.mk (blk_below (bk_ BK198) hb); replace BK199 := Aside0.mk (blk_below (bk_ BK199) hb); replace BK210 := Aside0.mk (blk_below (bk_ BK210) hb); replace HB := Aside0.mk (below_step (bl_ HB) hb); (try clear hb); (try clear ho0); refine hK.out _ _ ⟨(blk_cell BK197.out 0).trans rfl, (blk_cell BK197.out 1).trans rfl, ((HB.out.cell (World.block_lt_of_cell? w _ hw204_0)).trans hw204_0)⟩ (fun hHeld => ?_); clear hK K; refine norm_ (a' := ?_) ?_ ?_; rotate_left
       ·show Act.put _ (some 60) _ = _
        simp only [Act.put, sa_, sb_, sc_, i64_w, i32_w]; rfl
       refine pw_ 11 49 (v := ?_) (a' := ?_) (mB 17 20479) rfl rfl HT_ (by kernel_rfl) (fun _ _ _ h => h) ?_ ?_ ?_; rotate_left
       ·intro w'; go_simp; with_reducible rfl
       rotate_left
       ·simp only [Act.put, sa_, sb_, sc_, i64_w, i32_w]; rfl
       refine pw_ 12 61 (v := ?_) (a' := ?_) (mB 17 24575) rfl rfl HT_ (by kernel_rfl) (fun _ _ _ h => h) ?_ ?_ ?_; rotate_left
       ·intro w'; go_simp; with_reducible rfl
       rotate_left
       ·simp only [Act.put, sa_, sb_, sc_, i64_w, i32_w]; rfl
       refine pw_ 13 62 (v := ?_) (a' := ?_) (mB 17 32767) rfl rfl HT_ (by kernel_rfl) (fun _ _ _ h => h) ?_ ?_ ?_; rotate_left
       ·intro w'; go_simp; with_reducible rfl
       rotate_left
       ·simp only [Act.put, sa_, sb_, sc_, i64_w, i32_w]; rfl
       exact norm_ (by simp only [putAll, Act.put, sa_, sb_, sc_]) (hCont (v207, gb210) _ ⟨hHeld, (sk_ HO208), (bk_ BK197), (bk_ BK198), (bk_ BK199), (bk_ BK210), GW210.out, GE210.out, NB197_210.out, NB210_197.out, NB198_210.out, NB210_198.out, NB199_210.out, NB210_199.out, (bl_ HB)⟩)
     rintro ⟨v207, gb210⟩ w38 ⟨hS_, h0_, h1_, h2_, h3_, h4_, h5_, h6_, h7_, h8_, h9_, h10_, h11_, h12_, h13_⟩; have n0_ : Aside0 (Kd.S (Kd.slice 4 Kd.bool) 33 w38 w.heap.size (fun _ => True) v207 t206) := ⟨h0_⟩; have n1_ : Aside0 (w38.heap[gb197]? = some (.cells #[.int .u64 a0_0, .slice (some ad204) l0_1.length c0_1] 25 (0, 0))) := ⟨h1_⟩; have n2_ : Aside0 (w38.heap[gb198]? = some (.cells #[.int .u64 a1_0, .slice A1_1 l1_1.length c1_1] 25 (0, 0))) := ⟨h2_⟩; have n3_ : Aside0 (w38.heap[gb199]? = some (.cells #[.int .u64 0, .slice none 0 0] 25 (0, 0))) := ⟨h3_⟩; have n4_ : Aside0 (w38.heap[gb210]? = some (.cells #[.int .u64 0, .slice none 0 0] 25 (0, 0))) := ⟨h4_⟩; have n5_ : Aside0 (w.heap.size ≤ gb210) := ⟨h5_⟩; have n6_ : Aside0 (w.heap.size ≤ gb210) := ⟨h6_⟩; have n7_ : Aside0 (gb197 ≠ gb210) := ⟨h7_⟩; have n8_ : Aside0 (gb210 ≠ gb197) := ⟨h8_⟩; have n9_ : Aside0 (gb198 ≠ gb210) := ⟨h9_⟩; have n10_ : Aside0 (gb210 ≠ gb198) := ⟨h10_⟩; have n11_ : Aside0 (gb199 ≠ gb210) := ⟨h11_⟩; have n12_ : Aside0 (gb210 ≠ gb199) := ⟨h12_⟩; have n13_ : Aside0 (Below w.heap.size w w38) := ⟨h13_⟩; clear BK197; clear BK198; clear BK199; clear HB; clear h0_ h1_ h2_ h3_ h4_ h5_ h6_ h7_ h8_ h9_ h10_ h11_ h12_ h13_; have HO208 := n0_; have BK197 := n1_; have BK198 := n2_; have BK199 := n3_; have BK210 := n4_; have GW210 := n5_; have GE210 := n6_; have NB197_210 := n7_; have NB210_197 := n8_; have NB198_210 := n9_; have NB210_198 := n10_; have NB199_210 := n11_; have NB210_199 := n12_
     have HB := n13_; clear n0_ n1_ n2_ n3_ n4_ n5_ n6_ n7_ n8_ n9_ n10_ n11_ n12_ n13_; have hHeld : w38.cell? ⟨gb197, 0, none⟩ = some (.int .u64 a0_0) ∧ w38.cell? ⟨gb197, 1, none⟩ = some (.slice (some ad204) l0_1.length c0_1) ∧ w38.cell? ad204 = some (.slice A204_0 (rd_L1 l0_1 0).length c204_0) := hS_; obtain ⟨Ao40, co40, eo40⟩ := Kd.S_slice HO208.out
     (first | subst eo40 | (injection eo40 with f1_ f2_ f3_; have f4_ := f1_.symm; have f5_ := f3_.symm; clear f1_ f2_ f3_; subst f4_; subst f5_))
     refine norm_ (a' := ?_) ?_ ?_; rotate_left
     ·simp only [putAll, Act.put, sa_, sb_, sc_]; rfl
     refine one_ (i := 15) (N := none) (mB 17 65535) rfl rfl (one_of HT_.out (by kernel_rfl)) (by decide) (fun K hK => ?_); have hs39 : w38.cell? ⟨gb210, 0, none⟩ = some (.int .u64 0) := (blk_cell BK210.out 0).trans rfl; have hfs39 := blk_frozen BK210.out 0; have hns39_0 := NB197_210.out; have hns39_1 := NB198_210.out; have hns39_2 := NB199_210.out; have hms39_0 := NB210_197.out; have hms39_1 := NB210_198.out; have hms39_2 := NB210_199.out; have hs41 : w38.cell? ⟨gb210, 1, none⟩ = some (.slice none 0 0) := (blk_cell BK210.out 1).trans rfl; have hfs41 := blk_frozen BK210.out 1; have hns41_0 := NB197_210.out; have hns41_1 := NB198_210.out; have hns41_2 := NB199_210.out; have hms41_0 := NB210_197.out; have hms41_1 := NB210_198.out; have hms41_2 := NB210_199.out; refine skip_ (w1 := ?_) (by rfl) rfl ?_ ?_; rotate_left
     ·go_simp; rfl
     refine hK.out _ _ ⟨((cell_far (p := ⟨gb210, _, none⟩) NB197_210.out _).trans (((cell_far (p := ⟨gb210, _, none⟩) NB197_210.out _).trans (hHeld.1)))), ((cell_far (p := ⟨gb210, _, none⟩) NB197_210.out _).trans (((cell_far (p := ⟨gb210, _, none⟩) NB197_210.out _).trans (hHeld.2.1)))), ((cell_far (p := ⟨gb210, _, none⟩) (by first | exact Nat.ne_of_lt (Nat.lt_of_lt_of_le (by have := World.block_lt_of_cell? _ _ hw204_0; first | rwa [add_block] at this | exact this) GW210.out) | (rw [add_block]; exact Nat.ne_of_lt (Nat.lt_of_lt_of_le (by have := World.block_lt_of_cell? _ _ hw204_0; first | rwa [add_block] at this | exact this) GW210.out)) | (show (Addr.add _ _).block ≠ _; rw [add_block]; exact Nat.ne_of_lt (Nat.lt_of_lt_of_le (by have := World.block_lt_of_cell? _ _ hw204_0; first | rwa [add_block] at this | exact this) GW210.out)) | (dsimp only; exact Nat.ne_of_lt (Nat.lt_of_lt_of_le (by have := World.block_lt_of_cell? _ _ hw204_0; first | rwa [add_block] at this | exact this) GW210.out))) _).trans (((cell_far (p := ⟨gb210, _, none⟩) (by first | exact Nat.ne_of_lt (Nat.lt_of_lt_of_le (by have := World.block_lt_of_cell? _ _ hw204_0; first | rwa [add_block] at this | exact this) GW210.out) | (rw [add_block]; exact Nat.ne_of_lt (Nat.lt_of_lt_of_le (by have := World.block_lt_of_cell? _ _ hw204_0; first | rwa [add_block] at this | exact this) GW210.out)) | (show (Addr.add _ _).block ≠ _; rw [add_block]; exact Nat.ne_of_lt (Nat.lt_of_lt_of_le (by have := World.block_lt_of_cell? _ _ hw204_0; first | rwa [add_block] at this | exact this) GW210.out)) | (dsimp only; exact Nat.ne_of_lt (Nat.lt_of_lt_of_le (by have := World.block_lt_of_cell? _ _ hw204_0; first | rwa [add_block] at this | exact this) GW210.out))) _).trans (hHeld.2.2))))⟩ (fun hHeld => ?_)
     clear hK K; refine pw_ 16 7 (v := ?_) (a' := ?_) (mB 17 131071) rfl rfl HT_ (by kernel_rfl) (fun _ _ _ h => h) ?_ ?_ ?_; rotate_left
     ·intro w'; go_simp; with_reducible rfl
     rotate_left
     ·simp only [Act.put, sa_, sb_, sc_, i64_w, i32_w]; rfl
     refine done_ (done_of HT_.out (by kernel_rfl)) ?_; have hnb42 := NB210_197.out; have hnc42 := NB197_210.out; have hnb43 := NB210_198.out; have hnc43 := NB198_210.out; have hnb44 := NB210_199.out; have hnc44 := NB199_210.out; have hcz45_0 : w38.cell? ⟨gb210, 0, none⟩ = some (.int .u64 0) := (blk_cell BK210.out 0).trans rfl; have hcz45_1 : w38.cell? ⟨gb210, 1, none⟩ = some (.slice none 0 0) := (blk_cell BK210.out 1).trans rfl; have hfz45_0 := blk_frozen BK210.out 0; have hfz45_1 := blk_frozen BK210.out 1
     try go_wp2
     go_loopg [66] kj2 (fun kq v66 w' => ∃ (x66_2 : Int) (cur : List (List Bool)), v66 = .int .i64 x66_2 ∧ Aside0 (cur.length = t206.length) ∧ Aside0 (bitmap_Merge.l0 kq l0_1 l1_1 cur (t206.length : Int) x66_2 t205 = some (r1, r2, r3)) ∧ Aside0 (kq ≤ kj2) ∧ Aside0 (Kd.S (Kd.slice 4 Kd.bool) 33 w' w.heap.size (fun _ => True) (.slice Ao40 t206.length co40) cur) ∧ Aside0 (w'.heap[gb197]? = some (.cells #[.int .u64 a0_0, (.slice (some ad204) l0_1.length c0_1)] 25 (0, 0))) ∧ Aside0 (w'.heap[gb198]? = some (.cells #[.int .u64 a1_0, (.slice A1_1 l1_1.length c1_1)] 25 (0, 0))) ∧ Aside0 (w'.heap[gb199]? = some (.cells #[.int .u64 0, (.slice none 0 0)] 25 (0, 0))) ∧ Aside0 (w'.heap[gb210]? = some (.cells #[.int .u64 t205, (.slice Ao40 t206.length co40)] 25 (0, 0))) ∧ Aside0 (Below w.heap.size w w'))
     case atStart => exact ⟨(0), t206, (by first | rfl | (simp; done) | (simp [*]; done)), ⟨rfl⟩, H', ⟨Nat.le_refl _⟩, ⟨by (with_reducible repeat (first | apply Kd.S_alloc | apply Kd.S_drewN | apply Kd.S_drew)); exact Kd.S_mono (Kd.S_far (p := ⟨gb210, 1, none⟩) (Kd.S_far (p := ⟨gb210, 0, none⟩) (Kd.S_types HO208.out BK210.out (by decide)) (fun _ hk => hk.2) (.int .u64 t205)) (fun _ hk => hk.2) (.slice Ao40 t206.length co40)) (fun _ hk => trivial)⟩, ⟨by (with_reducible repeat (first | refine blk_drewN ?_ _ | refine blk_drew ?_ | refine blk_alloc ?_ _)); refine blk_far ?_ NB197_210.out _; (with_reducible repeat (first | refine blk_drewN ?_ _ | refine blk_drew ?_ | refine blk_alloc ?_ _)); refine blk_far ?_ NB197_210.out _; (with_reducible repeat (first | refine blk_drewN ?_ _ | refine blk_drew ?_ | refine blk_alloc ?_ _)); exact BK197.out⟩, ⟨by (with_reducible repeat (first | refine blk_drewN ?_ _ | refine blk_drew ?_ | refine blk_alloc ?_ _)); refine blk_far ?_ NB198_210.out _; (with_reducible repeat (first | refine blk_drewN ?_ _ | refine blk_drew ?_ | refine blk_alloc ?_ _)); refine blk_far ?_ NB198_210.out _; (with_reducible repeat (first | refine blk_drewN ?_ _ | refine blk_drew ?_ | refine blk_alloc ?_ _)); exact BK198.out⟩, ⟨by (with_reducible repeat (first | refine blk_drewN ?_ _ | refine blk_drew ?_ | refine blk_alloc ?_ _)); refine blk_far ?_ NB199_210.out _; (with_reducible repeat (first | refine blk_drewN ?_ _ | refine blk_drew ?_ | refine blk_alloc ?_ _)); refine blk_far ?_ NB199_210.out _; (with_reducible repeat (first | refine blk_drewN ?_ _ | refine blk_drew ?_ | refine blk_alloc ?_ _)); exact BK199.out⟩, ⟨by (with_reducible repeat (first | refine blk_drewN ?_ _ | refine blk_drew ?_ | refine blk_alloc ?_ _)); refine blk_put (cs := #[.int .u64 t205, .slice none 0 0]) ?_ 1 _ rfl; (with_reducible repeat (first | refine blk_drewN ?_ _ | refine blk_drew ?_ | refine blk_alloc ?_ _)); refine blk_put (cs := #[.int .u64 0, .slice none 0 0]) ?_ 0 _ rfl; (with_reducible repeat (first | refine blk_drewN ?_ _ | refine blk_drew ?_ | refine blk_alloc ?_ _)); exact BK210.out⟩, ⟨bl_ HB⟩⟩
     case round =>
      clear H'; (try clear c1); (try clear c2); (try clear p2); (try clear q2); (try clear hx2); (try clear qi2); (try clear c3); (try clear c4); (try clear c8); (try clear c10); (try clear c13); (try clear c20); (try clear p20); (try clear q20); (try clear hx20); (try clear qi20); (try clear c29); (try clear c30); (try clear c31); (try clear c33); (try clear c33b0); (try clear c33b1); (try clear c42); (try clear c43); (try clear c44); (try clear hcz32_0); (try clear hcz32_1); (try clear hcz45_0); (try clear hcz45_1); (try clear hfz32_0); (try clear hfz32_1); (try clear hfz45_0); (try clear hfz45_1); (try clear hx204_0); (try clear p2); (try clear p204); (try clear q204); obtain ⟨x66_2, cur, rfl, HLEN, HA, HK2, HO_64, BK197, BK198, BK199, BK210, HB⟩ := hrel
      cases gk with
      | zero => exact absurd HA.out (by simp [bitmap_Merge.l0])
      | succ k2 =>
       have H := HA.out; clear HA; simp only [bitmap_Merge.l0] at H
       by_cases c46 : x66_2 < (t206.length : Int)
       ·rw [if_pos c46] at H; have c46b0 : decide (x66_2 < (t206.length : Int)) = true := decide_eq_true c46
        by_cases c47 : 0 ≤ x66_2
        ·rw [if_pos c47] at H; have c47b0 : decide (0 ≤ x66_2) = true := decide_eq_true c47
         by_cases c48 : x66_2 < (cur.length : Int)
         ·rw [if_pos c48] at H; have H' := Aside0.mk H; clear H; obtain ⟨ad, A1, c1, e1, hx1, hl1, hi1⟩ := at_L1 (Kd.S_reads' HO_64.out).2.2 x66_2 c47 c48
          cases e1; have HX1 := Aside0.mk hx1; clear hl1 hi1; have P0 := Aside0.mk c47; have P1 := Aside0.mk c48; have P2 := Aside0.mk c46; replace c47 := eq_true c47; replace c46 := eq_true c46; clear c48
          go_wp2
          go_loopg [73] k2 (fun kq v73 w' => ∃ (x73_3 : Int) (cu : List (List Bool)), v73 = .int .i64 x73_3 ∧ Aside0 (cu.length = t206.length) ∧ Aside0 ((rd_L1 cu x66_2).length = (rd_L1 cur x66_2).length) ∧ Aside0 (bitmap_Merge.l1 kq l0_1 l1_1 cu (t206.length : Int) x66_2 ((rd_L1 cur x66_2).length : Int) x73_3 t205 = some (r1, r2, r3)) ∧ Aside0 (kq ≤ k2) ∧ Aside0 (Kd.S (Kd.slice 4 Kd.bool) 33 w' w.heap.size (fun _ => True) (.slice (some ad) t206.length co40) cu) ∧ Aside0 (w'.cell? (ad.add x66_2.toNat) = some (.slice A1 (rd_L1 cur x66_2).length c1)) ∧ Aside0 (w'.heap[gb197]? = some (.cells #[.int .u64 a0_0, (.slice (some ad204) l0_1.length c0_1)] 25 (0, 0))) ∧ Aside0 (w'.heap[gb198]? = some (.cells #[.int .u64 a1_0, (.slice A1_1 l1_1.length c1_1)] 25 (0, 0))) ∧ Aside0 (w'.heap[gb199]? = some (.cells #[.int .u64 0, (.slice none 0 0)] 25 (0, 0))) ∧ Aside0 (w'.heap[gb210]? = some (.cells #[.int .u64 t205, (.slice (some ad) t206.length co40)] 25 (0, 0))) ∧ Aside0 (Below w.heap.size w w'))
          case atStart => exact ⟨(0), cur, (by first | rfl | (simp; done) | (simp [*]; done)), HLEN, ⟨rfl⟩, H', ⟨Nat.le_refl _⟩, HO_64, HX1, BK197, BK198, BK199, BK210, HB⟩
          case round =>
           clear H' HX1 HO_64 BK197 BK198 BK199 BK210 HB; obtain ⟨x73_3, cu, rfl, HLEN2, HROW, HA, HK3, HO_64, HX1, BK197, BK198, BK199, BK210, HB⟩ := hrel
           cases gk with
           | zero => exact absurd HA.out (by simp [bitmap_Merge.l1])
           | succ k3 =>
            have H := HA.out; clear HA; simp only [bitmap_Merge.l1] at H
            by_cases c49 : x73_3 < ((rd_L1 cur x66_2).length : Int)
            ·rw [if_pos c49] at H; have c49b0 : decide (x73_3 < ((rd_L1 cur x66_2).length : Int)) = true := decide_eq_true c49
             by_cases c50 : 0 ≤ x73_3
             ·rw [if_pos c50] at H
              by_cases c51 : x66_2 < (l0_1.length : Int)
              ·rw [if_pos c51] at H
               by_cases c52 : x73_3 < ((rd_L1 l0_1 x66_2).length : Int)
               ·rw [if_pos c52] at H; have P3 := Aside0.mk c50; have P4 := Aside0.mk c51; have P5 := Aside0.mk c52; have P6 : Aside0 (x73_3 < ((rd_L1 cu x66_2).length : Int)) := ⟨by rw [HROW.out]; exact c49⟩; have HX4 : Aside0 (wr.cell? (ad.add x66_2.toNat) = some (.slice A1 (rd_L1 cu x66_2).length c1)) := ⟨by rw [HROW.out]; exact HX1.out⟩; clear c50 c51 c52; replace c49 := eq_true c49; obtain ⟨ada, Aa, ca, ea, hxa, hla, hia⟩ := at_L1 (Kd.C_below HR0_1.out HB.out) x66_2 P0.out P4.out
                cases ea; obtain ⟨adaa, eaa, hxaa⟩ := Kd.at_bool hia x73_3 P3.out P5.out
                cases eaa; clear hla hia; have q2 := eq_true P4.out; have q3 := eq_true P5.out; obtain ⟨bq, hbq⟩ : ∃ b_ : Bool, b_ = rdOf false (rd_L1 l0_1 x66_2) x73_3 := ⟨_, rfl⟩; rw [← hbq] at hxaa H; clear hbq
                cases bq with
                | true =>
                 rw [if_pos rfl] at H; have H' := Aside0.mk H; clear H; have HOB := Aside0.mk HO_64.out; obtain ⟨oki, cc, hcl, hM, hcc, hoki, hback⟩ := Kd.S_borrow HOB.out [] x66_2 P0.out (by first | exact P2.out | (rw [HLEN2.out]; exact P2.out)); obtain ⟨v4, rfl, hR⟩ := hM; have hv := hcc 0 _ rfl; rw [Nat.add_zero, show ((Kd.slice 4 Kd.bool)).sz = 1 from rfl, Nat.mul_one] at hv; replace hv := Option.some.inj (hv.symm.trans HX4.out); subst hv; clear hcc hcl; have hR2 : Kd.bool.R 4 wr w.heap.size oki (.slice A1 (rd_L1 cu x66_2).length c1) (rd_L1 cu x66_2) := hR; clear hR; obtain ⟨g1, cap1, eg, hg1, hg2, cells, hcells⟩ := Kd.R_form hR2 (by have := P3.out; have := P6.out; omega)
                 cases eg; have hfr := blk_frozen hcells x73_3.toNat; obtain ⟨A5, c5, e5, hl5, hC5⟩ := Kd.R_reads hR2
                 cases e5; obtain ⟨ad5, e5, hx5⟩ := Kd.at_bool hC5 x73_3 P3.out P6.out
                 cases e5; have HBACK := Aside0.mk (@hback); clear hback; have HRR := Aside0.mk hR2; have HCE := Aside0.mk hcells; have HG1 := Aside0.mk hg1; have HOK := Aside0.mk hoki; clear hR2 hC5 hl5 hoki hg2 hcells hg1; rw [Addr.add_lit, Nat.zero_add] at hx5; have hz1 : wr.cell? ⟨gb197, 1, none⟩ = some (.slice (some ad204) l0_1.length c0_1) := (blk_cell BK197.out 1).trans rfl; have q0 := eq_true P3.out; have q1 := eq_true P6.out; have RP := Kd.R_put HRR.out x73_3 true; have HS5 := Aside0.mk (show Kd.S (Kd.slice 4 Kd.bool) 33 (wr.setCell ⟨g1, (x73_3 : Int).toNat, none⟩ (.bool true)) w.heap.size (fun _ => True) (.slice (some ad) t206.length co40) (cu.set (x66_2 : Int).toNat ((rd_L1 cu x66_2).set (x73_3 : Int).toNat true)) from HBACK.out RP.2 (fun k_ hk_ => HRR.out.1 k_ (by rw [← hk_]; rfl)) ⟨_, rfl, RP.1⟩)
                 have hne : ad.block ≠ g1 := fun e_ => (HOK.out g1 (HRR.out.1 g1 rfl)).2 (by rw [← e_]; simp [Value.ownBlock])
                 have HX5 : Aside0 ((wr.setCell ⟨g1, (x73_3 : Int).toNat, none⟩ (.bool true)).cell? (ad.add x66_2.toNat) = some (.slice (some ⟨g1, 0, none⟩) (rd_L1 cur x66_2).length c1)) := ⟨by have h_ := HX4.out; rw [HROW.out] at h_; rw [← h_]; unfold World.cell?; rw [Below.heap_setCell _ _ _ _ (by have hb_ : (ad.add x66_2.toNat).block = ad.block := (by unfold Addr.add; split <;> rfl); rw [hb_]; first | exact hne | exact hne.symm)]⟩; have BK5 : Aside0 ((wr.setCell ⟨g1, (x73_3 : Int).toNat, none⟩ (.bool true)).heap[gb197]? = some (.cells #[.int .u64 a0_0, (.slice (some ad204) l0_1.length c0_1)] 25 (0, 0))) := ⟨blk_far BK197.out (blk_ne BK197.out HCE.out (by decide)) _⟩; have BB5 : Aside0 ((wr.setCell ⟨g1, (x73_3 : Int).toNat, none⟩ (.bool true)).heap[gb198]? = some (.cells #[.int .u64 a1_0, (.slice A1_1 l1_1.length c1_1)] 25 (0, 0))) := ⟨blk_far BK198.out (blk_ne BK198.out HCE.out (by decide)) _⟩; have BR5 : Aside0 ((wr.setCell ⟨g1, (x73_3 : Int).toNat, none⟩ (.bool true)).heap[gb199]? = some (.cells #[.int .u64 0, (.slice none 0 0)] 25 (0, 0))) := ⟨blk_far BK199.out (blk_ne BK199.out HCE.out (by decide)) _⟩; have BO5 : Aside0 ((wr.setCell ⟨g1, (x73_3 : Int).toNat, none⟩ (.bool true)).heap[gb210]? = some (.cells #[.int .u64 t205, (.slice (some ad) t206.length co40)] 25 (0, 0))) := ⟨blk_far BK210.out (blk_ne BK210.out HCE.out (by decide)) _⟩
                 have HB5 : Aside0 (Below w.heap.size w (wr.setCell ⟨g1, (x73_3 : Int).toNat, none⟩ (.bool true))) := ⟨below_set HB.out HG1.out⟩; have HROW5 : Aside0 ((rd_L1 (cu.set (x66_2 : Int).toNat ((rd_L1 cu x66_2).set (x73_3 : Int).toNat true)) x66_2).length = (rd_L1 cur x66_2).length) := ⟨by rw [← HROW.out]; unfold rd_L1; by_cases h_ : x66_2.toNat < cu.length <;> simp [List.getD_eq_getElem?_getD, h_]⟩; clear RP
                 go_wp2
                 go_roundg k3
                 case measure => have := HJ2.out; have := HK2.out; have := HK3.out; omega
                 case rel => exact ⟨(wrap64 (x73_3 + 1)), _, (by first | rfl | (simp; done) | (simp [*]; done)), ⟨by rw [List.length_set]; exact HLEN2.out⟩, HROW5, H', ⟨by have := HJ2.out; have := HK2.out; have := HK3.out; omega⟩, HS5, HX5, BK5, BB5, BR5, BO5, HB5⟩
                | false =>
                 rw [if_neg (by decide)] at H
                 by_cases c53 : x66_2 < (l1_1.length : Int)
                 ·rw [if_pos c53] at H
                  by_cases c54 : x73_3 < ((rd_L1 l1_1 x66_2).length : Int)
                  ·rw [if_pos c54] at H; have H' := Aside0.mk H; clear H; have P7 := Aside0.mk c53; have P8 := Aside0.mk c54; clear c53 c54; obtain ⟨adb, Ab, cb, eb, hxb, hlb, hib⟩ := at_L1 (Kd.C_below HR1_1.out HB.out) x66_2 P0.out P7.out
                   cases eb; obtain ⟨adbb, ebb, hxbb⟩ := Kd.at_bool hib x73_3 P3.out P8.out
                   cases ebb; clear hlb hib; have q4 := eq_true P7.out; have q5 := eq_true P8.out; generalize rdOf false (rd_L1 l1_1 x66_2) x73_3 = vq at *; have HOB := Aside0.mk HO_64.out; obtain ⟨oki, cc, hcl, hM, hcc, hoki, hback⟩ := Kd.S_borrow HOB.out [] x66_2 P0.out (by first | exact P2.out | (rw [HLEN2.out]; exact P2.out)); obtain ⟨v4, rfl, hR⟩ := hM; have hv := hcc 0 _ rfl; rw [Nat.add_zero, show ((Kd.slice 4 Kd.bool)).sz = 1 from rfl, Nat.mul_one] at hv; replace hv := Option.some.inj (hv.symm.trans HX4.out); subst hv; clear hcc hcl; have hR2 : Kd.bool.R 4 wr w.heap.size oki (.slice A1 (rd_L1 cu x66_2).length c1) (rd_L1 cu x66_2) := hR; clear hR; obtain ⟨g1, cap1, eg, hg1, hg2, cells, hcells⟩ := Kd.R_form hR2 (by have := P3.out; have := P6.out; omega)
                   cases eg; have hfr := blk_frozen hcells x73_3.toNat; obtain ⟨A5, c5, e5, hl5, hC5⟩ := Kd.R_reads hR2
                   cases e5; obtain ⟨ad5, e5, hx5⟩ := Kd.at_bool hC5 x73_3 P3.out P6.out
                   cases e5; have HBACK := Aside0.mk (@hback); clear hback; have HRR := Aside0.mk hR2; have HCE := Aside0.mk hcells; have HG1 := Aside0.mk hg1; have HOK := Aside0.mk hoki; clear hR2 hC5 hl5 hoki hg2 hcells hg1; rw [Addr.add_lit, Nat.zero_add] at hx5; have hz1 : wr.cell? ⟨gb197, 1, none⟩ = some (.slice (some ad204) l0_1.length c0_1) := (blk_cell BK197.out 1).trans rfl; have hz2 : wr.cell? ⟨gb198, 1, none⟩ = some (.slice (some adb) l1_1.length c1_1) := (blk_cell BK198.out 1).trans rfl; have q0 := eq_true P3.out; have q1 := eq_true P6.out; have RP := Kd.R_put HRR.out x73_3 vq; have HS5 := Aside0.mk (show Kd.S (Kd.slice 4 Kd.bool) 33 (wr.setCell ⟨g1, (x73_3 : Int).toNat, none⟩ (.bool vq)) w.heap.size (fun _ => True) (.slice (some ad) t206.length co40) (cu.set (x66_2 : Int).toNat ((rd_L1 cu x66_2).set (x73_3 : Int).toNat vq)) from HBACK.out RP.2 (fun k_ hk_ => HRR.out.1 k_ (by rw [← hk_]; rfl)) ⟨_, rfl, RP.1⟩)
                   have hne : ad.block ≠ g1 := fun e_ => (HOK.out g1 (HRR.out.1 g1 rfl)).2 (by rw [← e_]; simp [Value.ownBlock])
                   have HX5 : Aside0 ((wr.setCell ⟨g1, (x73_3 : Int).toNat, none⟩ (.bool vq)).cell? (ad.add x66_2.toNat) = some (.slice (some ⟨g1, 0, none⟩) (rd_L1 cur x66_2).length c1)) := ⟨by have h_ := HX4.out; rw [HROW.out] at h_; rw [← h_]; unfold World.cell?; rw [Below.heap_setCell _ _ _ _ (by have hb_ : (ad.add x66_2.toNat).block = ad.block := (by unfold Addr.add; split <;> rfl); rw [hb_]; first | exact hne | exact hne.symm)]⟩; have BK5 : Aside0 ((wr.setCell ⟨g1, (x73_3 : Int).toNat, none⟩ (.bool vq)).heap[gb197]? = some (.cells #[.int .u64 a0_0, (.slice (some ad204) l0_1.length c0_1)] 25 (0, 0))) := ⟨blk_far BK197.out (blk_ne BK197.out HCE.out (by decide)) _⟩; have BB5 : Aside0 ((wr.setCell ⟨g1, (x73_3 : Int).toNat, none⟩ (.bool vq)).heap[gb198]? = some (.cells #[.int .u64 a1_0, (.slice (some adb) l1_1.length c1_1)] 25 (0, 0))) := ⟨blk_far BK198.out (blk_ne BK198.out HCE.out (by decide)) _⟩; have BR5 : Aside0 ((wr.setCell ⟨g1, (x73_3 : Int).toNat, none⟩ (.bool vq)).heap[gb199]? = some (.cells #[.int .u64 0, (.slice none 0 0)] 25 (0, 0))) := ⟨blk_far BK199.out (blk_ne BK199.out HCE.out (by decide)) _⟩; have BO5 : Aside0 ((wr.setCell ⟨g1, (x73_3 : Int).toNat, none⟩ (.bool vq)).heap[gb210]? = some (.cells #[.int .u64 t205, (.slice (some ad) t206.length co40)] 25 (0, 0))) := ⟨blk_far BK210.out (blk_ne BK210.out HCE.out (by decide)) _⟩
                   have HB5 : Aside0 (Below w.heap.size w (wr.setCell ⟨g1, (x73_3 : Int).toNat, none⟩ (.bool vq))) := ⟨below_set HB.out HG1.out⟩; have HROW5 : Aside0 ((rd_L1 (cu.set (x66_2 : Int).toNat ((rd_L1 cu x66_2).set (x73_3 : Int).toNat vq)) x66_2).length = (rd_L1 cur x66_2).length) := ⟨by rw [← HROW.out]; unfold rd_L1; by_cases h_ : x66_2.toNat < cu.length <;> simp [List.getD_eq_getElem?_getD, h_]⟩; clear RP
                   go_wp2
                   go_roundg k3
                   case measure => have := HJ2.out; have := HK2.out; have := HK3.out; omega
                   case rel => exact ⟨(wrap64 (x73_3 + 1)), _, (by first | rfl | (simp; done) | (simp [*]; done)), ⟨by rw [List.length_set]; exact HLEN2.out⟩, HROW5, H', ⟨by have := HJ2.out; have := HK2.out; have := HK3.out; omega⟩, HS5, HX5, BK5, BB5, BR5, BO5, HB5⟩
                  ·rw [if_neg c54] at H; exact absurd H (by simp)
                 ·rw [if_neg c53] at H; exact absurd H (by simp)
               ·rw [if_neg c52] at H; exact absurd H (by simp)
              ·rw [if_neg c51] at H; exact absurd H (by simp)
             ·rw [if_neg c50] at H; exact absurd H (by simp)
            ·rw [if_neg c49] at H; have c49b0 : decide (x73_3 < ((rd_L1 cur x66_2).length : Int)) = false := decide_eq_false c49; clear c49; have H' := Aside0.mk H; clear H
             go_wp2
             go_roundg k3
             case measure => have := HJ2.out; have := HK2.out; have := HK3.out; omega
             case rel => exact ⟨(wrap64 (x66_2 + 1)), cu, (by first | rfl | (simp; done) | (simp [*]; done)), HLEN2, H', ⟨by have := HJ2.out; have := HK2.out; have := HK3.out; omega⟩, HO_64, BK197, BK198, BK199, BK210, HB⟩
         ·rw [if_neg c48] at H; exact absurd H (by simp)
        ·rw [if_neg c47] at H; exact absurd H (by simp)
       ·rw [if_neg c46] at H; have c46b0 : decide (x66_2 < (t206.length : Int)) = false := decide_eq_false c46; clear c46; simp only [Option.some.injEq, Prod.mk.injEq] at H; obtain ⟨rfl, rfl, rfl⟩ := H; have hnb50 := NB210_197.out; have hnc50 := NB197_210.out; have hnb51 := NB210_198.out; have hnc51 := NB198_210.out; have hnb52 := NB210_199.out; have hnc52 := NB199_210.out; have hcz53_0 : wr.cell? ⟨gb210, 0, none⟩ = some (.int .u64 t205) := (blk_cell BK210.out 0).trans rfl; have hcz53_1 : wr.cell? ⟨gb210, 1, none⟩ = some (.slice Ao40 t206.length co40) := (blk_cell BK210.out 1).trans rfl; have hfz53_0 := blk_frozen BK210.out 0; have hfz53_1 := blk_frozen BK210.out 1; have hnb54 := NB199_197.out; have hnc54 := NB197_199.out; have hnb55 := NB199_198.out; have hnc55 := NB198_199.out; have hcz56_0 : wr.cell? ⟨gb199, 0, none⟩ = some (.int .u64 0) := (blk_cell BK199.out 0).trans rfl; have hcz56_1 : wr.cell? ⟨gb199, 1, none⟩ = some (.slice none 0 0) := (blk_cell BK199.out 1).trans rfl; have hfz56_0 := blk_frozen BK199.out 0; have hfz56_1 := blk_frozen BK199.out 1
        go_wp2
        refine bodyPost_ret (results_ct rfl _ _ gb199 25 #[.int .u64 t205, .slice Ao40 t206.length co40] (0, 0) _ rfl (by (with_reducible repeat (first | refine blk_drewN ?_ _ | refine blk_drew ?_ | refine blk_alloc ?_ _)); refine blk_put (cs := #[.int .u64 t205, .slice none 0 0]) ?_ 1 _ rfl; (with_reducible repeat (first | refine blk_drewN ?_ _ | refine blk_drew ?_ | refine blk_alloc ?_ _)); refine blk_put (cs := #[.int .u64 0, .slice none 0 0]) ?_ 0 _ rfl; (with_reducible repeat (first | refine blk_drewN ?_ _ | refine blk_drew ?_ | refine blk_alloc ?_ _)); exact BK199.out) Tryd.underlying25 rfl (by kernel_rfl)) rfl ?_; exact ⟨_, by first | rfl | (simp [errW_none, errW_some] <;> rfl) | (simp [*, errW_none, errW_some] <;> rfl), by (with_reducible repeat (first | apply Kd.S_alloc | apply Kd.S_drewN | apply Kd.S_drew)); exact Kd.S_mono (Kd.S_far (p := ⟨gb199, 1, none⟩) (Kd.S_far (p := ⟨gb199, 0, none⟩) (Kd.S_types HO_64.out BK199.out (by decide)) (fun _ hk => hk.2) (.int .u64 t205)) (fun _ hk => hk.2) (.slice Ao40 t206.length co40)) (fun _ hk => trivial), bl_ HB⟩
    ·rw [if_neg c33] at H; exact absurd H (by simp)

