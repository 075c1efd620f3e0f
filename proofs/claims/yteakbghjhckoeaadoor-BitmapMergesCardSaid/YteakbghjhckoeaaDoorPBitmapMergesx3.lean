/- The functions that a law uses, each as a plain function, with the proof that a call of the Go function comes to its answer. Condition of each: the arguments read as the data that it names, and the plain function has an answer. Written by a program of this session (standin.py). -/
import Derived.Test.YteakbghjhckoeaaDoorPBitmapMergesx0
import Derived.Test.YteakbghjhckoeaaDoorPBitmapMergesx1
import Derived.Test.YteakbghjhckoeaaDoorPBitmapMergesx2
import Derived.Test.YteakbghjhckoeaaDoorShort
import Derived.Lib.SliceRun
import Derived.Test.YteakbghjhckoeaaDoorTabs
import Derived.Test.YteakbghjhckoeaaDoorPress
namespace Go.Proofs.YteakbghjhckoeaaDoor.PBitmapMerges
open Go.RowKit Go.Proofs.YteakbghjhckoeaaDoorW.PrintWords Go.Proofs.YteakbghjhckoeaaDoorW.PrintLast Go.Proofs.YteakbghjhckoeaaDoorW.PrintMore Go.Proofs.YteakbghjhckoeaaDoor.Short Go.Proofs.YteakbghjhckoeaaDoor.Tabs Go.Proofs.YteakbghjhckoeaaDoor.Short Go.Proofs.YteakbghjhckoeaaDoor.Press
attribute [local go_sem] max2_int min2_int max_two min_two max_three min_three max_four min_four   -- for this text's walks alone
set_option linter.unusedVariables false
set_option linter.unusedSimpArgs false

/-! ### bitmap_Estimate: function 17 -/
mutual
def bitmap_Estimate.l0 : Nat → Int → List (List Bool) → Int → Int → Option (Int)
  | 0, _, _, _, _ => none
  | k + 1, x3, x15, x16, x17 => if x17 < x16 then (if 0 ≤ x17 then (if x17 < (x15.length : Int) then (bitmap_Estimate.l1 k x3 ((rd_L1 x15 x17).length : Int) ((rd_L1 x15 x17).length : Int) x15 x16 x17 (rd_L1 x15 x17) ((rd_L1 x15 x17).length : Int) 0) else (none)) else (none)) else (some x3)
def bitmap_Estimate.l1 : Nat → Int → Int → Int → List (List Bool) → Int → Int → List Bool → Int → Int → Option (Int)
  | 0, _, _, _, _, _, _, _, _, _ => none
  | k + 1, x3, x6, x7, x15, x16, x17, x25, x26, x27 => if x27 < x26 then (if 0 ≤ x27 then (if x27 < (x25.length : Int) then (if rdOf false x25 x27 = true then (bitmap_Estimate.l1 k x3 x6 (wrap64 (x7 - 1)) x15 x16 x17 x25 x26 (wrap64 (x27 + 1))) else (bitmap_Estimate.l1 k x3 x6 x7 x15 x16 x17 x25 x26 (wrap64 (x27 + 1)))) else (none)) else (none)) else (bitmap_Estimate.l2 k x3 x6 (wrap64 (x7 + 1)) x15 x16 x17)
def bitmap_Estimate.l2 : Nat → Int → Int → Int → List (List Bool) → Int → Int → Option (Int)
  | 0, _, _, _, _, _, _ => none
  | k + 1, x3, x6, x10, x15, x16, x17 => if x10 ≤ x6 then (if x10 = 0 then (none) else (bitmap_Estimate.l2 k (wrap64 (x3 + (wrap64 (Int.tdiv (wrap64 (x6 * 65536)) x10)))) x6 (wrap64 (x10 + 1)) x15 x16 x17)) else (bitmap_Estimate.l0 k x3 x15 x16 (wrap64 (x17 + 1)))
end
def bitmap_Estimate.f (k : Nat) (a0_0 : Int) (l0_1 : List (List Bool)) : Option (Int) := (bitmap_Right.f a0_0 l0_1).bind fun t170 => (if t170 = true then (bitmap_Estimate.l0 k 0 l0_1 (l0_1.length : Int) 0) else (some 0))
theorem bitmap_Estimate.mono_l : ∀ k, (∀ y0 y1 y2 y3, LeO (bitmap_Estimate.l0 k y0 y1 y2 y3) (bitmap_Estimate.l0 (k + 1) y0 y1 y2 y3)) ∧ (∀ y0 y1 y2 y3 y4 y5 y6 y7 y8, LeO (bitmap_Estimate.l1 k y0 y1 y2 y3 y4 y5 y6 y7 y8) (bitmap_Estimate.l1 (k + 1) y0 y1 y2 y3 y4 y5 y6 y7 y8)) ∧ (∀ y0 y1 y2 y3 y4 y5, LeO (bitmap_Estimate.l2 k y0 y1 y2 y3 y4 y5) (bitmap_Estimate.l2 (k + 1) y0 y1 y2 y3 y4 y5))
  | 0 => ⟨fun _ _ _ _ r h => by simp [bitmap_Estimate.l0] at h, fun _ _ _ _ _ _ _ _ _ r h => by simp [bitmap_Estimate.l1] at h, fun _ _ _ _ _ _ r h => by simp [bitmap_Estimate.l2] at h⟩
  | k + 1 => by
    obtain ⟨ih0, ih1, ih2⟩ := bitmap_Estimate.mono_l k
    refine ⟨?_, ?_, ?_⟩
    · intro y0 y1 y2 y3
      unfold bitmap_Estimate.l0
      repeat' first
      | (with_reducible exact ih0 _ _ _ _)
      | (with_reducible exact ih1 _ _ _ _ _ _ _ _ _)
      | (with_reducible exact ih2 _ _ _ _ _ _)
      | (with_reducible exact LeO.refl _)
      | (with_reducible exact LeO.none _)
      | (with_reducible refine LeO.ite ?_ ?_)
      | (with_reducible refine LeO.bind ?_ (fun _ => ?_))
      | exact ih0 _ _ _ _
      | exact ih1 _ _ _ _ _ _ _ _ _
      | exact ih2 _ _ _ _ _ _
      | exact LeO.none _
      | refine LeO.ite ?_ ?_
      | refine LeO.bind ?_ (fun _ => ?_)
    · intro y0 y1 y2 y3 y4 y5 y6 y7 y8
      unfold bitmap_Estimate.l1
      repeat' first
      | (with_reducible exact ih0 _ _ _ _)
      | (with_reducible exact ih1 _ _ _ _ _ _ _ _ _)
      | (with_reducible exact ih2 _ _ _ _ _ _)
      | (with_reducible exact LeO.refl _)
      | (with_reducible exact LeO.none _)
      | (with_reducible refine LeO.ite ?_ ?_)
      | (with_reducible refine LeO.bind ?_ (fun _ => ?_))
      | exact ih0 _ _ _ _
      | exact ih1 _ _ _ _ _ _ _ _ _
      | exact ih2 _ _ _ _ _ _
      | exact LeO.none _
      | refine LeO.ite ?_ ?_
      | refine LeO.bind ?_ (fun _ => ?_)
    · intro y0 y1 y2 y3 y4 y5
      unfold bitmap_Estimate.l2
      repeat' first
      | (with_reducible exact ih0 _ _ _ _)
      | (with_reducible exact ih1 _ _ _ _ _ _ _ _ _)
      | (with_reducible exact ih2 _ _ _ _ _ _)
      | (with_reducible exact LeO.refl _)
      | (with_reducible exact LeO.none _)
      | (with_reducible refine LeO.ite ?_ ?_)
      | (with_reducible refine LeO.bind ?_ (fun _ => ?_))
      | exact ih0 _ _ _ _
      | exact ih1 _ _ _ _ _ _ _ _ _
      | exact ih2 _ _ _ _ _ _
      | exact LeO.none _
      | refine LeO.ite ?_ ?_
      | refine LeO.bind ?_ (fun _ => ?_)
theorem bitmap_Estimate.mono : ∀ a0 a1 k, LeO (bitmap_Estimate.f k a0 a1) (bitmap_Estimate.f (k + 1) a0 a1) := by
  intro a0 a1 k
  obtain ⟨ih0, ih1, ih2⟩ := bitmap_Estimate.mono_l k
  unfold bitmap_Estimate.f
  repeat' first
      | (with_reducible exact ih0 _ _ _ _)
      | (with_reducible exact ih1 _ _ _ _ _ _ _ _ _)
      | (with_reducible exact ih2 _ _ _ _ _ _)
      | (with_reducible exact LeO.refl _)
      | (with_reducible exact LeO.none _)
      | (with_reducible refine LeO.ite ?_ ?_)
      | (with_reducible refine LeO.bind ?_ (fun _ => ?_))
      | exact ih0 _ _ _ _
      | exact ih1 _ _ _ _ _ _ _ _ _
      | exact ih2 _ _ _ _ _ _
      | exact LeO.none _
      | refine LeO.ite ?_ ?_
      | refine LeO.bind ?_ (fun _ => ?_)
set_option maxHeartbeats 80000000 in
set_option maxRecDepth 100000 in
theorem bitmap_Estimate.calls (k : Nat) (a0_0 : Int) (A0_1 : Option Addr) (c0_1 : Nat) (l0_1 : List (List Bool)) (r : Int) (w : World) (hr0_1 : Kd.C (Kd.slice 4 Kd.bool) w A0_1 l0_1.length l0_1) (hc0_1 : l0_1.length ≤ c0_1) (h : bitmap_Estimate.f k a0_0 l0_1 = some r) :
    Calls Tryd.prog 17 #[.agg #[.int .u64 a0_0, .slice A0_1 l0_1.length c0_1]] w fun e w' => e = .returned (.int .i64 r) ∧ Below w.heap.size w w' := by
 have hu25 := Tryd.underlying25; have HR0_1 := Aside0.mk hr0_1; have HC0_1 := Aside0.mk hc0_1; clear hr0_1 hc0_1; have HB := Aside0.mk (Below.refl w.heap.size w); have H : ((bitmap_Right.f a0_0 l0_1).bind fun t170 => (if t170 = true then (bitmap_Estimate.l0 k 0 l0_1 (l0_1.length : Int) 0) else (some 0))) = some r := h; clear h; replace H := Option.bind_eq_some_iff.mp H; obtain ⟨t170, A20, H⟩ := H; replace H : (if t170 = true then (bitmap_Estimate.l0 k 0 l0_1 (l0_1.length : Int) 0) else (some 0)) = some r := H; have A2 := Aside0.mk A20; clear A20
 by_cases c3 : t170 = true
 ·subst c3
  have H1 : (bitmap_Estimate.l0 k 0 l0_1 (l0_1.length : Int) 0) = some r := by rw [if_pos rfl] at H; exact H
  clear H; have H := H1; clear H1; have H' := Aside0.mk H; clear H
  go_enter Tryd.func17, Tryd.ntmps17
  go_wp2_with (first | ((with_reducible refine gate_dst (N := 1) rfl ?_); refine box_event ?hg (N := 1) ?hd (cs := #[.int .u64 a0_0, .slice A0_1 l0_1.length c0_1]) (t := 25) ?hr ?_; (case hd => rfl); (case hg => rfl); (case hr => first | (go_simp; done) | (go_simp; rfl)); intro gb169 hg w4 hbox hb; have n0_ := Aside0.mk (below_step (bl_ HB) hb); have n1_ := Aside0.mk (hbox); have n2_ := Aside0.mk (gl_ hg HB); have n3_ := Aside0.mk (gl_ hg HB); clear HB; have HB := n0_; have BK169 := n1_; have GW169 := n2_; have GE169 := n3_; clear n0_ n1_ n2_ n3_; clear hb hbox hg; have hcz5_0 : w4.cell? ⟨gb169, 0, none⟩ = some (.int .u64 a0_0) := (blk_cell BK169.out 0).trans rfl; have hcz5_1 : w4.cell? ⟨gb169, 1, none⟩ = some (.slice A0_1 l0_1.length c0_1) := (blk_cell BK169.out 1).trans rfl; have hfz5_0 := blk_frozen BK169.out 0; have hfz5_1 := blk_frozen BK169.out 1) | ((with_reducible refine gate_callee (f := 13) rfl ?_); refine goesL_ (some 12) rfl rfl Tryd.func13 (by kernel_rfl) rfl #[.agg #[.int .u64 a0_0, .slice A0_1 l0_1.length c0_1]] rfl (by (try simp only [List.map_toArray, List.map_cons, List.map_nil]); first | done | rfl | (simp only [List.length_drop, List.length_take]; rfl)) ?_; (with_reducible refine (bitmap_Right.calls a0_0 _ _ l0_1 true _ ?side1 ?side2 A2.out).mono ?_); (case side1 => repeat (first | exact (Kd.C_below HR0_1.out HB.out) | (with_reducible refine Kd.C_alloc ?_ _) | (with_reducible refine Kd.C_drewN ?_ _) | (with_reducible refine Kd.C_drew ?_))); (case side2 => exact HC0_1.out); rintro e w6 ⟨rfl, hb⟩; refine ⟨_, rfl, ?_⟩; have n0_ := Aside0.mk (blk_below (bk_ BK169) hb); have n1_ := Aside0.mk (below_step (bl_ HB) hb); clear BK169; clear HB; have BK169 := n0_; have HB := n1_; clear n0_ n1_; (try clear hb); (try clear hb2); (try clear hk); (try clear hi); have hcz7_0 : w6.cell? ⟨gb169, 0, none⟩ = some (.int .u64 a0_0) := (blk_cell BK169.out 0).trans rfl; have hcz7_1 : w6.cell? ⟨gb169, 1, none⟩ = some (.slice A0_1 l0_1.length c0_1) := (blk_cell BK169.out 1).trans rfl; have hfz7_0 := blk_frozen BK169.out 0; have hfz7_1 := blk_frozen BK169.out 1))
  go_loopg [3, 17] k (fun kq v3 v17 w' => ∃ (x3_1 : Int) (x17_1 : Int), v3 = .int .i64 x3_1 ∧ v17 = .int .i64 x17_1 ∧ Aside0 (bitmap_Estimate.l0 kq x3_1 l0_1 (l0_1.length : Int) x17_1 = some r) ∧ Aside0 (kq ≤ k) ∧ Aside0 (w'.heap[gb169]? = some (.cells #[.int .u64 a0_0, (.slice A0_1 l0_1.length c0_1)] 25 (0, 0))) ∧ Aside0 (Below w.heap.size w w'))
  case atStart => exact ⟨(0), (0), (by first | rfl | (simp; done) | (simp [*]; done)), (by first | rfl | (simp; done) | (simp [*]; done)), H', ⟨Nat.le_refl _⟩, ⟨bk_ BK169⟩, ⟨bl_ HB⟩⟩
  case round =>
   clear H'; (try clear c1); (try clear p2); (try clear c3); (try clear hcz5_0); (try clear hcz5_1); (try clear hcz7_0); (try clear hcz7_1); (try clear hfz5_0); (try clear hfz5_1); (try clear hfz7_0); (try clear hfz7_1); obtain ⟨x3_1, x17_1, rfl, rfl, HA, HK1, BK169, HB⟩ := hrel
   cases gk with
   | zero => exact absurd HA.out (by simp [bitmap_Estimate.l0])
   | succ k1 =>
    have H := HA.out; clear HA; simp only [bitmap_Estimate.l0] at H
    by_cases c8 : x17_1 < (l0_1.length : Int)
    ·rw [if_pos c8] at H; have c8b0 : decide (x17_1 < (l0_1.length : Int)) = true := decide_eq_true c8; clear c8
     by_cases c9 : 0 ≤ x17_1
     ·rw [if_pos c9] at H; have c9b0 : decide (0 ≤ x17_1) = true := decide_eq_true c9; clear c9
      by_cases c10 : x17_1 < (l0_1.length : Int)
      ·rw [if_pos c10] at H; have c10b0 : decide (x17_1 < (l0_1.length : Int)) = true := decide_eq_true c10; clear c10; have H' := Aside0.mk H; clear H; have p171 : 0 ≤ (x17_1 : Int) := of_decide_eq_true (by first | (with_reducible assumption) | assumption); have q171 : x17_1 < (l0_1.length : Int) := of_decide_eq_true (by first | (with_reducible assumption) | assumption); obtain ⟨ad171, A171_0, c171_0, e171, hx171_0, hl171_0, hi171_0⟩ := at_L1 HR0_1.out x17_1 p171 q171
       cases e171; (try replace hx171_0 := (HB.out.cell (World.block_lt_of_cell? w _ hx171_0)).trans hx171_0); have HR171_0 := Aside0.mk hi171_0; have HC171_0 := Aside0.mk hl171_0; clear hi171_0 hl171_0; replace p171 := eq_true p171; replace q171 := eq_true q171
       go_wp2
       go_loopg [7, 27] k1 (fun kq v7 v27 w' => ∃ (x7_2 : Int) (x27_2 : Int), v7 = .int .i64 x7_2 ∧ v27 = .int .i64 x27_2 ∧ Aside0 (bitmap_Estimate.l1 kq x3_1 ((rd_L1 l0_1 x17_1).length : Int) x7_2 l0_1 (l0_1.length : Int) x17_1 (rd_L1 l0_1 x17_1) ((rd_L1 l0_1 x17_1).length : Int) x27_2 = some r) ∧ Aside0 (kq ≤ k1) ∧ Aside0 (w'.heap[gb169]? = some (.cells #[.int .u64 a0_0, (.slice (some ad171) l0_1.length c0_1)] 25 (0, 0))) ∧ Aside0 (Below w.heap.size w w'))
       case atStart => exact ⟨(((rd_L1 l0_1 x17_1).length : Int)), (0), (by first | rfl | (simp; done) | (simp [*]; done)), (by first | rfl | (simp; done) | (simp [*]; done)), H', ⟨Nat.le_refl _⟩, ⟨bk_ BK169⟩, ⟨bl_ HB⟩⟩
       case round =>
        clear H'; (try clear c1); (try clear p1); (try clear q1); (try clear hx1); (try clear p2); (try clear c3); (try clear c8); (try clear c8b0); (try clear c9); (try clear c9b0); (try clear c10); (try clear c10b0); (try clear hcz5_0); (try clear hcz5_1); (try clear hcz7_0); (try clear hcz7_1); (try clear hfz5_0); (try clear hfz5_1); (try clear hfz7_0); (try clear hfz7_1); (try clear hx171_0); (try clear p171); (try clear p2); (try clear q171); obtain ⟨x7_2, x27_2, rfl, rfl, HA, HK2, BK169, HB⟩ := hrel
        cases gk with
        | zero => exact absurd HA.out (by simp [bitmap_Estimate.l1])
        | succ k2 =>
         have H := HA.out; clear HA; simp only [bitmap_Estimate.l1] at H
         by_cases c11 : x27_2 < ((rd_L1 l0_1 x17_1).length : Int)
         ·rw [if_pos c11] at H; have c11b0 : decide (x27_2 < ((rd_L1 l0_1 x17_1).length : Int)) = true := decide_eq_true c11; clear c11
          by_cases c12 : 0 ≤ x27_2
          ·rw [if_pos c12] at H; have c12b0 : decide (0 ≤ x27_2) = true := decide_eq_true c12; clear c12
           by_cases c13 : x27_2 < ((rd_L1 l0_1 x17_1).length : Int)
           ·rw [if_pos c13] at H; have c13b0 : decide (x27_2 < ((rd_L1 l0_1 x17_1).length : Int)) = true := decide_eq_true c13; clear c13; obtain ⟨bq14, hbq14⟩ : ∃ b_ : Bool, b_ = (rdOf false (rd_L1 l0_1 x17_1) x27_2) := ⟨_, rfl⟩
            replace H : (if bq14 = true then (bitmap_Estimate.l1 k2 x3_1 ((rd_L1 l0_1 x17_1).length : Int) (wrap64 (x7_2 - 1)) l0_1 (l0_1.length : Int) x17_1 (rd_L1 l0_1 x17_1) ((rd_L1 l0_1 x17_1).length : Int) (wrap64 (x27_2 + 1))) else (bitmap_Estimate.l1 k2 x3_1 ((rd_L1 l0_1 x17_1).length : Int) x7_2 l0_1 (l0_1.length : Int) x17_1 (rd_L1 l0_1 x17_1) ((rd_L1 l0_1 x17_1).length : Int) (wrap64 (x27_2 + 1)))) = some r := by rw [← hbq14] at H; exact H
            have Nbq14 := Aside0.mk hbq14; clear hbq14
            by_cases c15 : bq14 = true
            ·subst c15
             have H1 : (bitmap_Estimate.l1 k2 x3_1 ((rd_L1 l0_1 x17_1).length : Int) (wrap64 (x7_2 - 1)) l0_1 (l0_1.length : Int) x17_1 (rd_L1 l0_1 x17_1) ((rd_L1 l0_1 x17_1).length : Int) (wrap64 (x27_2 + 1))) = some r := by rw [if_pos rfl] at H; exact H
             clear H; have H := H1; clear H1; have H' := Aside0.mk H; clear H; have p172 : 0 ≤ (x27_2 : Int) := of_decide_eq_true (by first | (with_reducible assumption) | assumption); have q172 : x27_2 < ((rd_L1 l0_1 x17_1).length : Int) := of_decide_eq_true (by first | (with_reducible assumption) | assumption); obtain ⟨ad172, e172, hx172_0⟩ := Kd.at_bool HR171_0.out x27_2 p172 q172; (try rw [← Nbq14.out] at hx172_0); (try rw [← Nbq14.out] at hw172_0)
             cases e172; (try replace hx172_0 := (HB.out.cell (World.block_lt_of_cell? w _ hx172_0)).trans hx172_0); replace p172 := eq_true p172; replace q172 := eq_true q172
             go_wp2
             go_roundg k2
             case measure => have := HK1.out; have := HK2.out; omega
             case rel => exact ⟨(wrap64 (x7_2 - 1)), (wrap64 (x27_2 + 1)), (by first | rfl | (simp; done) | (simp [*]; done)), (by first | rfl | (simp; done) | (simp [*]; done)), H', ⟨by have := HK1.out; have := HK2.out; omega⟩, ⟨bk_ BK169⟩, ⟨bl_ HB⟩⟩
            ·replace c15 := Bool.eq_false_iff.mpr c15; subst c15
             have H1 : (bitmap_Estimate.l1 k2 x3_1 ((rd_L1 l0_1 x17_1).length : Int) x7_2 l0_1 (l0_1.length : Int) x17_1 (rd_L1 l0_1 x17_1) ((rd_L1 l0_1 x17_1).length : Int) (wrap64 (x27_2 + 1))) = some r := by rw [if_neg (show ¬ (false = true) by decide)] at H; exact H
             clear H; have H := H1; clear H1; have H' := Aside0.mk H; clear H; have p172 : 0 ≤ (x27_2 : Int) := of_decide_eq_true (by first | (with_reducible assumption) | assumption); have q172 : x27_2 < ((rd_L1 l0_1 x17_1).length : Int) := of_decide_eq_true (by first | (with_reducible assumption) | assumption); obtain ⟨ad172, e172, hx172_0⟩ := Kd.at_bool HR171_0.out x27_2 p172 q172; (try rw [← Nbq14.out] at hx172_0); (try rw [← Nbq14.out] at hw172_0)
             cases e172; (try replace hx172_0 := (HB.out.cell (World.block_lt_of_cell? w _ hx172_0)).trans hx172_0); replace p172 := eq_true p172; replace q172 := eq_true q172
             go_wp2
             go_roundg k2
             case measure => have := HK1.out; have := HK2.out; omega
             case rel => exact ⟨(x7_2), (wrap64 (x27_2 + 1)), (by first | rfl | (simp; done) | (simp [*]; done)), (by first | rfl | (simp; done) | (simp [*]; done)), H', ⟨by have := HK1.out; have := HK2.out; omega⟩, ⟨bk_ BK169⟩, ⟨bl_ HB⟩⟩
           ·rw [if_neg c13] at H; exact absurd H (by simp)
          ·rw [if_neg c12] at H; exact absurd H (by simp)
         ·rw [if_neg c11] at H; have c11b0 : decide (x27_2 < ((rd_L1 l0_1 x17_1).length : Int)) = false := decide_eq_false c11; clear c11; have H' := Aside0.mk H; clear H
          go_wp2
          go_loopg [3, 10] k2 (fun kq v3 v10 w' => ∃ (x3_3 : Int) (x10_3 : Int), v3 = .int .i64 x3_3 ∧ v10 = .int .i64 x10_3 ∧ Aside0 (bitmap_Estimate.l2 kq x3_3 ((rd_L1 l0_1 x17_1).length : Int) x10_3 l0_1 (l0_1.length : Int) x17_1 = some r) ∧ Aside0 (kq ≤ k2) ∧ Aside0 (w'.heap[gb169]? = some (.cells #[.int .u64 a0_0, (.slice (some ad171) l0_1.length c0_1)] 25 (0, 0))) ∧ Aside0 (Below w.heap.size w w'))
          case atStart => exact ⟨(x3_1), (wrap64 (x7_2 + 1)), (by first | rfl | (simp; done) | (simp [*]; done)), (by first | rfl | (simp; done) | (simp [*]; done)), H', ⟨Nat.le_refl _⟩, ⟨bk_ BK169⟩, ⟨bl_ HB⟩⟩
          case round =>
           clear H'; (try clear c1); (try clear p1); (try clear q1); (try clear hx1); (try clear p2); (try clear c3); (try clear p6); (try clear c8); (try clear c8b0); (try clear c9); (try clear c9b0); (try clear c10); (try clear c10b0); (try clear c11); (try clear c11b0); (try clear c12); (try clear c12b0); (try clear c13); (try clear c13b0); (try clear q14); (try clear c15); (try clear hcz5_0); (try clear hcz5_1); (try clear hcz7_0); (try clear hcz7_1); (try clear hfz5_0); (try clear hfz5_1); (try clear hfz7_0); (try clear hfz7_1); (try clear hx171_0); (try clear hx172_0); (try clear p1); (try clear p171); (try clear p172); (try clear p2); (try clear q1); (try clear q171); (try clear q172); obtain ⟨x3_3, x10_3, rfl, rfl, HA, HK3, BK169, HB⟩ := hrel
           cases gk with
           | zero => exact absurd HA.out (by simp [bitmap_Estimate.l2])
           | succ k3 =>
            have H := HA.out; clear HA; simp only [bitmap_Estimate.l2] at H
            by_cases c16 : x10_3 ≤ ((rd_L1 l0_1 x17_1).length : Int)
            ·rw [if_pos c16] at H; have c16b0 : decide (x10_3 ≤ ((rd_L1 l0_1 x17_1).length : Int)) = true := decide_eq_true c16; clear c16
             by_cases c17 : x10_3 = 0
             ·rw [if_pos c17] at H; exact absurd H (by simp)
             ·rw [if_neg c17] at H; have c17b0 : (x10_3 == 0) = false := beq_eq_false_iff_ne.mpr c17; have c17b1 : (x10_3 != 0) = true := bne_iff_ne.mpr c17; have H' := Aside0.mk H; clear H
              go_wp2
              go_roundg k3
              case measure => have := HK1.out; have := HK2.out; have := HK3.out; omega
              case rel => exact ⟨(wrap64 (x3_3 + (wrap64 (Int.tdiv (wrap64 (((rd_L1 l0_1 x17_1).length : Int) * 65536)) x10_3)))), (wrap64 (x10_3 + 1)), (by first | rfl | (simp; done) | (simp [*]; done)), (by first | rfl | (simp; done) | (simp [*]; done)), H', ⟨by have := HK1.out; have := HK2.out; have := HK3.out; omega⟩, ⟨bk_ BK169⟩, ⟨bl_ HB⟩⟩
            ·rw [if_neg c16] at H; have c16b0 : decide (x10_3 ≤ ((rd_L1 l0_1 x17_1).length : Int)) = false := decide_eq_false c16; clear c16; have H' := Aside0.mk H; clear H
             go_wp2
             go_roundg k3
             case measure => have := HK1.out; have := HK2.out; have := HK3.out; omega
             case rel => exact ⟨(x3_3), (wrap64 (x17_1 + 1)), (by first | rfl | (simp; done) | (simp [*]; done)), (by first | rfl | (simp; done) | (simp [*]; done)), H', ⟨by have := HK1.out; have := HK2.out; have := HK3.out; omega⟩, ⟨bk_ BK169⟩, ⟨bl_ HB⟩⟩
      ·rw [if_neg c10] at H; exact absurd H (by simp)
     ·rw [if_neg c9] at H; exact absurd H (by simp)
    ·rw [if_neg c8] at H; have c8b0 : decide (x17_1 < (l0_1.length : Int)) = false := decide_eq_false c8; clear c8; obtain rfl := Option.some.inj H
     go_wp2
     go_ret; exact ⟨by first | rfl | (simp [errW_none, errW_some] <;> rfl) | (simp [*, errW_none, errW_some] <;> rfl), bl_ HB⟩
 ·replace c3 := Bool.eq_false_iff.mpr c3; subst c3
  have H1 : (some 0) = some r := by rw [if_neg (show ¬ (false = true) by decide)] at H; exact H
  clear H; have H := H1; clear H1; obtain rfl := Option.some.inj H
  go_enter Tryd.func17, Tryd.ntmps17
  go_wp2_with (first | ((with_reducible refine gate_dst (N := 1) rfl ?_); refine box_event ?hg (N := 1) ?hd (cs := #[.int .u64 a0_0, .slice A0_1 l0_1.length c0_1]) (t := 25) ?hr ?_; (case hd => rfl); (case hg => rfl); (case hr => first | (go_simp; done) | (go_simp; rfl)); intro gb169 hg w18 hbox hb; have n0_ := Aside0.mk (below_step (bl_ HB) hb); have n1_ := Aside0.mk (hbox); have n2_ := Aside0.mk (gl_ hg HB); have n3_ := Aside0.mk (gl_ hg HB); clear HB; have HB := n0_; have BK169 := n1_; have GW169 := n2_; have GE169 := n3_; clear n0_ n1_ n2_ n3_; clear hb hbox hg; have hcz19_0 : w18.cell? ⟨gb169, 0, none⟩ = some (.int .u64 a0_0) := (blk_cell BK169.out 0).trans rfl; have hcz19_1 : w18.cell? ⟨gb169, 1, none⟩ = some (.slice A0_1 l0_1.length c0_1) := (blk_cell BK169.out 1).trans rfl; have hfz19_0 := blk_frozen BK169.out 0; have hfz19_1 := blk_frozen BK169.out 1) | ((with_reducible refine gate_callee (f := 13) rfl ?_); refine goesL_ (some 12) rfl rfl Tryd.func13 (by kernel_rfl) rfl #[.agg #[.int .u64 a0_0, .slice A0_1 l0_1.length c0_1]] rfl (by (try simp only [List.map_toArray, List.map_cons, List.map_nil]); first | done | rfl | (simp only [List.length_drop, List.length_take]; rfl)) ?_; (with_reducible refine (bitmap_Right.calls a0_0 _ _ l0_1 false _ ?side1 ?side2 A2.out).mono ?_); (case side1 => repeat (first | exact (Kd.C_below HR0_1.out HB.out) | (with_reducible refine Kd.C_alloc ?_ _) | (with_reducible refine Kd.C_drewN ?_ _) | (with_reducible refine Kd.C_drew ?_))); (case side2 => exact HC0_1.out); rintro e w20 ⟨rfl, hb⟩; refine ⟨_, rfl, ?_⟩; have n0_ := Aside0.mk (blk_below (bk_ BK169) hb); have n1_ := Aside0.mk (below_step (bl_ HB) hb); clear BK169; clear HB; have BK169 := n0_; have HB := n1_; clear n0_ n1_; (try clear hb); (try clear hb2); (try clear hk); (try clear hi)))
  go_ret; exact ⟨by first | rfl | (simp [errW_none, errW_some] <;> rfl) | (simp [*, errW_none, errW_some] <;> rfl), bl_ HB⟩

/-! ### rillmeterlaw13_awake: function 11 -/
def rillmeterlaw13_awake.f (k : Nat)  : Option (Bool) := (bitmap_New.f k 1 1 2).bind fun bt173 => (if bt173.2.2 = 0 then ((bitmap_Estimate.f k bt173.1 bt173.2.1).bind fun t179 => (if t179 = 0 then ((bitmap_Add.f k bt173.1 bt173.2.1 (⟨#[97]⟩ : ByteArray)).bind fun bt180 => ((bitmap_Estimate.f k bt180.1 bt180.2).bind fun t184 => (if t184 = 65536 then ((bitmap_Estimate.f k 0 (([(([true, true] : List Bool))] : List (List Bool)))).bind fun t191 => (some (t191 == 196608))) else (some false)))) else (some false))) else (some false))
theorem rillmeterlaw13_awake.mono : ∀ k, LeO (rillmeterlaw13_awake.f k ) (rillmeterlaw13_awake.f (k + 1) ) := by
  intro  k
  unfold rillmeterlaw13_awake.f
  repeat' first
      | (with_reducible exact bitmap_Add.mono _ _ _ _)
      | (with_reducible exact bitmap_Estimate.mono _ _ _)
      | (with_reducible exact bitmap_New.mono _ _ _ _)
      | (with_reducible exact LeO.refl _)
      | (with_reducible exact LeO.none _)
      | (with_reducible refine LeO.ite ?_ ?_)
      | (with_reducible refine LeO.bind ?_ (fun _ => ?_))
      | exact bitmap_Add.mono _ _ _ _
      | exact bitmap_Estimate.mono _ _ _
      | exact bitmap_New.mono _ _ _ _
      | exact LeO.none _
      | refine LeO.ite ?_ ?_
      | refine LeO.bind ?_ (fun _ => ?_)
set_option maxHeartbeats 80000000 in
set_option maxRecDepth 100000 in
theorem rillmeterlaw13_awake.calls (k : Nat)  (r : Bool) (w : World) (h : rillmeterlaw13_awake.f k  = some r) (HT0 : Aside0 (Tab w)) :
    Calls Tryd.prog 11 #[] w fun e w' => e = .returned (.bool r) ∧ Below w.heap.size w w' := by
 have hu25 := Tryd.underlying25; have HB := Aside0.mk (Below.refl w.heap.size w); have H : ((bitmap_New.f k 1 1 2).bind fun bt173 => (if bt173.2.2 = 0 then ((bitmap_Estimate.f k bt173.1 bt173.2.1).bind fun t179 => (if t179 = 0 then ((bitmap_Add.f k bt173.1 bt173.2.1 (⟨#[97]⟩ : ByteArray)).bind fun bt180 => ((bitmap_Estimate.f k bt180.1 bt180.2).bind fun t184 => (if t184 = 65536 then ((bitmap_Estimate.f k 0 (([(([true, true] : List Bool))] : List (List Bool)))).bind fun t191 => (some (t191 == 196608))) else (some false)))) else (some false))) else (some false))) = some r := h; clear h; replace H := Option.bind_eq_some_iff.mp H; obtain ⟨⟨t173, t174, t177⟩, A10, H⟩ := H; replace H : (if t177 = 0 then ((bitmap_Estimate.f k t173 t174).bind fun t179 => (if t179 = 0 then ((bitmap_Add.f k t173 t174 (⟨#[97]⟩ : ByteArray)).bind fun bt180 => ((bitmap_Estimate.f k bt180.1 bt180.2).bind fun t184 => (if t184 = 65536 then ((bitmap_Estimate.f k 0 (([(([true, true] : List Bool))] : List (List Bool)))).bind fun t191 => (some (t191 == 196608))) else (some false)))) else (some false))) else (some false)) = some r := H; have A1 := Aside0.mk A10; clear A10
 by_cases c2 : t177 = 0
 ·rw [if_pos c2] at H; have c2b0 : (t177 == 0) = true := beq_iff_eq.mpr c2; have c2b1 : (t177 != 0) = false := bne_eq_false_iff_eq.mpr c2; clear c2; replace H := Option.bind_eq_some_iff.mp H; obtain ⟨t179, A30, H⟩ := H; replace H : (if t179 = 0 then ((bitmap_Add.f k t173 t174 (⟨#[97]⟩ : ByteArray)).bind fun bt180 => ((bitmap_Estimate.f k bt180.1 bt180.2).bind fun t184 => (if t184 = 65536 then ((bitmap_Estimate.f k 0 (([(([true, true] : List Bool))] : List (List Bool)))).bind fun t191 => (some (t191 == 196608))) else (some false)))) else (some false)) = some r := H; have A3 := Aside0.mk A30; clear A30
  by_cases c4 : t179 = 0
  ·rw [if_pos c4] at H; have c4b0 : (t179 == 0) = true := beq_iff_eq.mpr c4; have c4b1 : (t179 != 0) = false := bne_eq_false_iff_eq.mpr c4; clear c4; replace H := Option.bind_eq_some_iff.mp H; obtain ⟨⟨t180, t181⟩, A50, H⟩ := H; replace H : ((bitmap_Estimate.f k t180 t181).bind fun t184 => (if t184 = 65536 then ((bitmap_Estimate.f k 0 (([(([true, true] : List Bool))] : List (List Bool)))).bind fun t191 => (some (t191 == 196608))) else (some false))) = some r := H; have A5 := Aside0.mk A50; clear A50; replace H := Option.bind_eq_some_iff.mp H; obtain ⟨t184, A60, H⟩ := H; replace H : (if t184 = 65536 then ((bitmap_Estimate.f k 0 (([(([true, true] : List Bool))] : List (List Bool)))).bind fun t191 => (some (t191 == 196608))) else (some false)) = some r := H; have A6 := Aside0.mk A60; clear A60
   by_cases c7 : t184 = 65536
   ·rw [if_pos c7] at H; have c7b0 : (t184 == 65536) = true := beq_iff_eq.mpr c7; have c7b1 : (t184 != 65536) = false := bne_eq_false_iff_eq.mpr c7; clear c7; obtain ⟨y185, hy185⟩ : ∃ y_ : List Bool, y_ = (([true, true] : List Bool)) := ⟨_, rfl⟩
    replace H : ((bitmap_Estimate.f k 0 (([y185] : List (List Bool)))).bind fun t191 => (some (t191 == 196608))) = some r := by first | (rw [hy185]; with_reducible exact H) | (have H2_ := (Option.bind_some _ _).symm.trans H; rw [hy185]; with_reducible exact H2_) | (have H2_ := (Option.bind_some _ _).symm.trans H; with_reducible exact H2_) | with_reducible exact H | (rw [hy185]; exact H) | exact H
    have Ny185 := Aside0.mk hy185; clear hy185; obtain ⟨y188, hy188⟩ : ∃ y_ : List (List Bool), y_ = (([y185] : List (List Bool))) := ⟨_, rfl⟩
    replace H : ((bitmap_Estimate.f k 0 y188).bind fun t191 => (some (t191 == 196608))) = some r := by first | (rw [hy188]; with_reducible exact H) | (have H2_ := (Option.bind_some _ _).symm.trans H; rw [hy188]; with_reducible exact H2_) | (have H2_ := (Option.bind_some _ _).symm.trans H; with_reducible exact H2_) | with_reducible exact H | (rw [hy188]; exact H) | exact H
    have Ny188 := Aside0.mk hy188; clear hy188; replace H := Option.bind_eq_some_iff.mp H; obtain ⟨t191, A80, H⟩ := H; replace H : (some (t191 == 196608)) = some r := H; have A8 := Aside0.mk A80; clear A80; obtain rfl := Option.some.inj H
    go_enter Tryd.func11, Tryd.ntmps11
    go_wp2_with (first | ((with_reducible refine gate_callee (f := 8) rfl ?_); refine goesL_ (some 4) rfl rfl Tryd.func8 (by kernel_rfl) rfl #[.int .u64 1, .int .i64 1, .int .i64 2] rfl (by (try simp only [List.map_toArray, List.map_cons, List.map_nil]); first | done | rfl | (simp only [List.length_drop, List.length_take]; rfl)) ?_; (with_reducible refine (bitmap_New.calls k 1 1 2 t173 t174 t177 _ A1.out).mono ?_); rintro e w9 ⟨v175, rfl, ho0, hb⟩; refine ⟨_, rfl, ?_⟩; have n0_ := Aside0.mk (Kd.N_lower (Kd.N_mono (ok' := fun k_ => True) (Kd.S_N (Kd.S_bound ho0)) (fun k_ hk_ => trivial)) (below_size (bl_ HB))); have n1_ := Aside0.mk (below_step (bl_ HB) hb); clear HB; have HO176 := n0_; have HB := n1_; clear n0_ n1_; (try clear hb); (try clear hb2); (try clear hk); (try clear hi); (try clear ho0)) | ((with_reducible refine gate_dst (N := 1) rfl ?_); (try (refine gate_guard (by rfl) ?_; dsimp only)); refine box_event ?hg (N := 1) ?hd (cs := #[.int .u64 0, .slice none 0 0]) (t := 25) ?hr ?_; (case hd => rfl); (case hg => rfl); (case hr => first | (go_simp; done) | (go_simp; rfl)); intro gb178 hg w10 hbox hb; have n0_ := Aside0.mk (Kd.N_below (Kd.N_elderB (by (with_reducible repeat (first | apply Kd.N_alloc | apply Kd.N_drewN | apply Kd.N_drew)); exact HO176.out) gb178 (Nat.le_of_eq hg.symm)) hb); have n1_ := Aside0.mk (below_step (bl_ HB) hb); have n2_ := Aside0.mk (hbox); have n3_ := Aside0.mk (gl_ hg HB); have n4_ := Aside0.mk (gl_ hg HB); clear HO176; clear HB; have HO176 := n0_; have HB := n1_; have BK178 := n2_; have GW178 := n3_; have GE178 := n4_; clear n0_ n1_ n2_ n3_ n4_; clear hb hbox hg; have hcz11_0 : w10.cell? ⟨gb178, 0, none⟩ = some (.int .u64 0) := (blk_cell BK178.out 0).trans rfl; have hcz11_1 : w10.cell? ⟨gb178, 1, none⟩ = some (.slice none 0 0) := (blk_cell BK178.out 1).trans rfl; have hfz11_0 := blk_frozen BK178.out 0; have hfz11_1 := blk_frozen BK178.out 1; obtain ⟨Ao12, co12, eo12⟩ := Kd.N_slice HO176.out; subst eo12) | (go_at_call 17; (with_reducible refine (bitmap_Estimate.calls k t173 _ _ t174 t179 _ ?side1 ?side2 A3.out).mono ?_); (case side1 => refine (Kd.N_reads' (e := 33) (base := w.heap.size) (ok := fun k_ => (True ∧ k_ ≠ gb178)) (n := t174.length) (c := co12) ?_).2.2; exact (by (with_reducible repeat (first | apply Kd.N_alloc | apply Kd.N_drewN | apply Kd.N_drew)); exact (Kd.N_mono (Kd.N_far (p := ⟨gb178, 1, none⟩) (Kd.N_far (p := ⟨gb178, 0, none⟩) (Kd.N_mono HO176.out (fun k_ hk => (⟨hk, hk.2⟩ : _ ∧ k_ ≠ gb178))) (fun _ hk => hk.2) (.int .u64 t173)) (fun _ hk => hk.2) (.slice Ao12 t174.length co12)) (fun _ h_ => h_.1)))); (case side2 => exact (Kd.N_reads' HO176.out).2.1); rintro e w13 ⟨rfl, hb⟩; have n0_ := Aside0.mk (Kd.N_below (by (with_reducible repeat (first | apply Kd.N_alloc | apply Kd.N_drewN | apply Kd.N_drew)); exact (Kd.N_mono (Kd.N_far (p := ⟨gb178, 1, none⟩) (Kd.N_far (p := ⟨gb178, 0, none⟩) (Kd.N_mono HO176.out (fun k_ hk => (⟨hk, hk.2⟩ : _ ∧ k_ ≠ gb178))) (fun _ hk => hk.2) (.int .u64 t173)) (fun _ hk => hk.2) (.slice Ao12 t174.length co12)) (fun _ h_ => h_.1))) hb); have n1_ := Aside0.mk (blk_below (g := gb178) (o := .cells #[.int .u64 t173, .slice Ao12 t174.length co12] 25 (0, 0)) (by (with_reducible repeat (first | refine blk_drewN ?_ _ | refine blk_drew ?_ | refine blk_alloc ?_ _)); refine blk_put (cs := #[.int .u64 t173, .slice none 0 0]) ?_ 1 _ rfl; (with_reducible repeat (first | refine blk_drewN ?_ _ | refine blk_drew ?_ | refine blk_alloc ?_ _)); refine blk_put (cs := #[.int .u64 0, .slice none 0 0]) ?_ 0 _ rfl; (with_reducible repeat (first | refine blk_drewN ?_ _ | refine blk_drew ?_ | refine blk_alloc ?_ _)); exact BK178.out) hb); have n2_ := Aside0.mk (below_step (bl_ HB) hb); clear HO176; clear BK178; clear HB; have HO176 := n0_; have BK178 := n1_; have HB := n2_; clear n0_ n1_ n2_; (try clear hb); (try clear hb2); (try clear hk); (try clear hi); have hcz14_0 : w13.cell? ⟨gb178, 0, none⟩ = some (.int .u64 t173) := (blk_cell BK178.out 0).trans rfl; have hcz14_1 : w13.cell? ⟨gb178, 1, none⟩ = some (.slice Ao12 t174.length co12) := (blk_cell BK178.out 1).trans rfl; have hfz14_0 := blk_frozen BK178.out 0; have hfz14_1 := blk_frozen BK178.out 1) | (go_at_call 15; (with_reducible refine (bitmap_Add.calls k t173 (fun k_ => (True ∧ k_ ≠ gb178)) _ _ t174 (⟨#[97]⟩ : ByteArray) t180 t181 _ ?side1 A5.out ⟨tb_ HT0 HB⟩).mono ?_); (case side1 => exact Kd.N_V (HO176.out)); rintro e w15 ⟨v182, rfl, ho0, hb⟩; have n0_ := Aside0.mk (Kd.N_below (by (with_reducible repeat (first | apply Kd.N_alloc | apply Kd.N_drewN | apply Kd.N_drew)); exact HO176.out) hb); have n1_ := Aside0.mk (Kd.V_lower (Kd.V_mono (ok' := fun k_ => k_ ≠ gb178) ho0 (fun k_ hk_ => Or.elim hk_ (fun hs_ => hs_.2) (fun hn_ => (Kd.freshB (g := gb178) (o := .cells #[.int .u64 t173, .slice Ao12 t174.length co12] 25 (0, 0)) (bk_ BK178) k_ hn_)))) (below_size (bl_ HB))); have n2_ := Aside0.mk (blk_below (bk_ BK178) hb); have n3_ := Aside0.mk (below_step (bl_ HB) hb); clear HO176; clear BK178; clear HB; have HO176 := n0_; have HO183 := n1_; have BK178 := n2_; have HB := n3_; clear n0_ n1_ n2_ n3_; (try clear hb); (try clear hb2); (try clear hk); (try clear hi); (try clear ho0); obtain ⟨Ao16, co16, eo16⟩ := Kd.V_slice HO183.out; subst eo16) | (go_at_call 17; (with_reducible refine (bitmap_Estimate.calls k t180 _ _ t181 t184 _ ?side1 ?side2 A6.out).mono ?_); (case side1 => repeat (first | exact (Kd.V_reads' HO183.out).2.2 | (with_reducible refine Kd.C_alloc ?_ _) | (with_reducible refine Kd.C_drewN ?_ _) | (with_reducible refine Kd.C_drew ?_))); (case side2 => exact (Kd.V_reads' HO183.out).2.1); rintro e w17 ⟨rfl, hb⟩; have n0_ := Aside0.mk (Kd.N_below (by (with_reducible repeat (first | apply Kd.N_alloc | apply Kd.N_drewN | apply Kd.N_drew)); exact HO176.out) hb); have n1_ := Aside0.mk (Kd.V_below (vk_ HO183) hb); have n2_ := Aside0.mk (blk_below (bk_ BK178) hb); have n3_ := Aside0.mk (below_step (bl_ HB) hb); clear HO176; clear HO183; clear BK178; clear HB; have HO176 := n0_; have HO183 := n1_; have BK178 := n2_; have HB := n3_; clear n0_ n1_ n2_ n3_; (try clear hb); (try clear hb2); (try clear hk); (try clear hi)) | ((with_reducible refine gate_dst (N := 21) rfl ?_); (try (refine gate_guard (by rfl) ?_; dsimp only)); refine Kd.R_lit Kd.bool _ 4 ?hg (N := 21) ?hd (xs := ([true, true] : List Bool)) (inner := [.bool true, .bool true]) (ok := fun _ => True) (okp := fun _ => True) ?hr ?hp (fun _ hk => hk) trivial (Below.refl _ _) (Nat.le_refl _) (by simp) ?_; (case hd => rfl); (case hg => rfl); (case hr => first | (go_simp; done) | (go_simp; rfl)); (case hp => exact (Reps.one (show Kd.M Kd.bool _ _ _ true [.bool true] from rfl) (Reps.one (show Kd.M Kd.bool _ _ _ true [.bool true] from rfl) (Reps.none _ _)))); intro v186 w18 ho19 hb hg_ hnew_; clear hg_ hnew_; (first | rw [← Ny185.out] at ho19 | (simp only [Int.reduceToNat] at ho19; rw [← Ny185.out] at ho19)); have n0_ := Aside0.mk (Kd.N_elder' (by (with_reducible repeat (first | apply Kd.N_alloc | apply Kd.N_drewN | apply Kd.N_drew)); exact HO176.out) (Kd.R_base ho19) hb); have n1_ := Aside0.mk (Kd.V_elder' (vk_ HO183) (Kd.R_base ho19) hb); have n2_ := Aside0.mk (Kd.R_lower ho19 (below_size (bl_ HB))); have n3_ := Aside0.mk (blk_below (bk_ BK178) hb); have n4_ := Aside0.mk (below_step (bl_ HB) hb); clear HO176; clear HO183; clear BK178; clear HB; have HO176 := n0_; have HO183 := n1_; have HO187 := n2_; have BK178 := n3_; have HB := n4_; clear n0_ n1_ n2_ n3_ n4_; clear hb ho19; obtain ⟨Ao20, co20, eo20⟩ := Kd.R_slice HO187.out; subst eo20) | ((with_reducible refine gate_dst (N := 22) rfl ?_); (try (refine gate_guard (by rfl) ?_; dsimp only)); refine Kd.N_lit (Kd.slice 4 Kd.bool) _ 33 ?hg (N' := 22) ?hd (xs := ([y185] : List (List Bool))) (inner := [.slice Ao20 y185.length co20]) (ok := (fun k_ => some k_ ≠ (.slice Ao12 t174.length co12 : Value).ownBlock ∧ k_ ≠ gb178)) (okp := (fun k_ => some k_ ≠ (.slice Ao12 t174.length co12 : Value).ownBlock ∧ k_ ≠ gb178)) ?hr ?hp (fun _ hk => hk) ((show ∀ k_, w18.heap.size ≤ k_ → (fun k_ => some k_ ≠ (.slice Ao12 t174.length co12 : Value).ownBlock ∧ k_ ≠ gb178) k_ from fun k_ hk => ⟨Kd.fresh' (Kd.N_lt (by (with_reducible repeat (first | apply Kd.N_alloc | apply Kd.N_drewN | apply Kd.N_drew)); exact HO176.out)) k_ hk, Kd.freshB (g := gb178) (o := .cells #[.int .u64 t173, .slice Ao12 t174.length co12] 25 (0, 0)) (bk_ BK178) k_ hk⟩) _ (Nat.le_refl _)) (Below.refl _ _) (Nat.le_refl _) (by simp) ?_; (case hd => rfl); (case hg => rfl); (case hr => first | (go_simp; done) | (go_simp; rfl)); (case hp => exact (Reps.one (show Kd.FK (Kd.slice 4 Kd.bool) _ _ y185 [.slice Ao20 y185.length co20] from (Kd.FK_slice_mk (Kd.R_reads' (Kd.R_mono (ok' := (fun k_ => some k_ ≠ (.slice Ao12 t174.length co12 : Value).ownBlock ∧ k_ ≠ gb178)) (Kd.R_types (Kd.R_apart' (HO187.out) (Kd.N_typed HO176.out) (by decide)) BK178.out (by decide)) (fun k_ hk => ⟨hk.1.2, hk.2⟩))).2.1 (Kd.R_F (Kd.R_mono (ok' := (fun k_ => some k_ ≠ (.slice Ao12 t174.length co12 : Value).ownBlock ∧ k_ ≠ gb178)) (Kd.R_types (Kd.R_apart' (HO187.out) (Kd.N_typed HO176.out) (by decide)) BK178.out (by decide)) (fun k_ hk => ⟨hk.1.2, hk.2⟩))))) (Reps.none _ _))); intro v189 w21 ho22 hb hg_ hnew_; clear hg_ hnew_; (first | rw [← Ny188.out] at ho22 | (simp only [Int.reduceToNat] at ho22; rw [← Ny188.out] at ho22)); have n0_ := Aside0.mk (Kd.N_elder' (by (with_reducible repeat (first | apply Kd.N_alloc | apply Kd.N_drewN | apply Kd.N_drew)); exact HO176.out) (Kd.N_base ho22) hb); have n1_ := Aside0.mk (Kd.V_elder' (vk_ HO183) (Kd.N_base ho22) hb); have n2_ := Aside0.mk (Kd.N_lower ho22 (below_size (bl_ HB))); have n3_ := Aside0.mk (blk_below (bk_ BK178) hb); have n4_ := Aside0.mk (below_step (bl_ HB) hb); clear HO176; clear HO183; clear BK178; clear HB; clear HO187; have HO176 := n0_; have HO183 := n1_; have HO190 := n2_; have BK178 := n3_; have HB := n4_; clear n0_ n1_ n2_ n3_ n4_; clear hb ho22; obtain ⟨Ao23, co23, eo23⟩ := Kd.N_slice HO190.out; subst eo23) | (go_at_call 17; (with_reducible refine (bitmap_Estimate.calls k 0 _ _ y188 t191 _ ?side1 ?side2 A8.out).mono ?_); (case side1 => repeat (first | exact (Kd.N_reads' HO190.out).2.2 | (with_reducible refine Kd.C_alloc ?_ _) | (with_reducible refine Kd.C_drewN ?_ _) | (with_reducible refine Kd.C_drew ?_))); (case side2 => exact (Kd.N_reads' HO190.out).2.1); rintro e w24 ⟨rfl, hb⟩; have n0_ := Aside0.mk (Kd.N_below (by (with_reducible repeat (first | apply Kd.N_alloc | apply Kd.N_drewN | apply Kd.N_drew)); exact HO176.out) hb); have n1_ := Aside0.mk (Kd.V_below (vk_ HO183) hb); have n2_ := Aside0.mk (Kd.N_below (by (with_reducible repeat (first | apply Kd.N_alloc | apply Kd.N_drewN | apply Kd.N_drew)); exact HO190.out) hb); have n3_ := Aside0.mk (blk_below (bk_ BK178) hb); have n4_ := Aside0.mk (below_step (bl_ HB) hb); clear HO176; clear HO183; clear HO190; clear BK178; clear HB; have HO176 := n0_; have HO183 := n1_; have HO190 := n2_; have BK178 := n3_; have HB := n4_; clear n0_ n1_ n2_ n3_ n4_; (try clear hb); (try clear hb2); (try clear hk); (try clear hi)))
    go_ret; exact ⟨by first | rfl | (simp [errW_none, errW_some] <;> rfl) | (simp [*, errW_none, errW_some] <;> rfl), bl_ HB⟩
   ·rw [if_neg c7] at H; have c7b0 : (t184 == 65536) = false := beq_eq_false_iff_ne.mpr c7; have c7b1 : (t184 != 65536) = true := bne_iff_ne.mpr c7; obtain rfl := Option.some.inj H
    go_enter Tryd.func11, Tryd.ntmps11
    go_wp2_with (first | ((with_reducible refine gate_callee (f := 8) rfl ?_); refine goesL_ (some 4) rfl rfl Tryd.func8 (by kernel_rfl) rfl #[.int .u64 1, .int .i64 1, .int .i64 2] rfl (by (try simp only [List.map_toArray, List.map_cons, List.map_nil]); first | done | rfl | (simp only [List.length_drop, List.length_take]; rfl)) ?_; (with_reducible refine (bitmap_New.calls k 1 1 2 t173 t174 t177 _ A1.out).mono ?_); rintro e w25 ⟨v175, rfl, ho0, hb⟩; refine ⟨_, rfl, ?_⟩; have n0_ := Aside0.mk (Kd.N_lower (Kd.N_mono (ok' := fun k_ => True) (Kd.S_N (Kd.S_bound ho0)) (fun k_ hk_ => trivial)) (below_size (bl_ HB))); have n1_ := Aside0.mk (below_step (bl_ HB) hb); clear HB; have HO176 := n0_; have HB := n1_; clear n0_ n1_; (try clear hb); (try clear hb2); (try clear hk); (try clear hi); (try clear ho0)) | ((with_reducible refine gate_dst (N := 1) rfl ?_); (try (refine gate_guard (by rfl) ?_; dsimp only)); refine box_event ?hg (N := 1) ?hd (cs := #[.int .u64 0, .slice none 0 0]) (t := 25) ?hr ?_; (case hd => rfl); (case hg => rfl); (case hr => first | (go_simp; done) | (go_simp; rfl)); intro gb178 hg w26 hbox hb; have n0_ := Aside0.mk (Kd.N_below (Kd.N_elderB (by (with_reducible repeat (first | apply Kd.N_alloc | apply Kd.N_drewN | apply Kd.N_drew)); exact HO176.out) gb178 (Nat.le_of_eq hg.symm)) hb); have n1_ := Aside0.mk (below_step (bl_ HB) hb); have n2_ := Aside0.mk (hbox); have n3_ := Aside0.mk (gl_ hg HB); have n4_ := Aside0.mk (gl_ hg HB); clear HO176; clear HB; have HO176 := n0_; have HB := n1_; have BK178 := n2_; have GW178 := n3_; have GE178 := n4_; clear n0_ n1_ n2_ n3_ n4_; clear hb hbox hg; have hcz27_0 : w26.cell? ⟨gb178, 0, none⟩ = some (.int .u64 0) := (blk_cell BK178.out 0).trans rfl; have hcz27_1 : w26.cell? ⟨gb178, 1, none⟩ = some (.slice none 0 0) := (blk_cell BK178.out 1).trans rfl; have hfz27_0 := blk_frozen BK178.out 0; have hfz27_1 := blk_frozen BK178.out 1; obtain ⟨Ao28, co28, eo28⟩ := Kd.N_slice HO176.out; subst eo28) | (go_at_call 17; (with_reducible refine (bitmap_Estimate.calls k t173 _ _ t174 t179 _ ?side1 ?side2 A3.out).mono ?_); (case side1 => refine (Kd.N_reads' (e := 33) (base := w.heap.size) (ok := fun k_ => (True ∧ k_ ≠ gb178)) (n := t174.length) (c := co28) ?_).2.2; exact (by (with_reducible repeat (first | apply Kd.N_alloc | apply Kd.N_drewN | apply Kd.N_drew)); exact (Kd.N_mono (Kd.N_far (p := ⟨gb178, 1, none⟩) (Kd.N_far (p := ⟨gb178, 0, none⟩) (Kd.N_mono HO176.out (fun k_ hk => (⟨hk, hk.2⟩ : _ ∧ k_ ≠ gb178))) (fun _ hk => hk.2) (.int .u64 t173)) (fun _ hk => hk.2) (.slice Ao28 t174.length co28)) (fun _ h_ => h_.1)))); (case side2 => exact (Kd.N_reads' HO176.out).2.1); rintro e w29 ⟨rfl, hb⟩; have n0_ := Aside0.mk (Kd.N_below (by (with_reducible repeat (first | apply Kd.N_alloc | apply Kd.N_drewN | apply Kd.N_drew)); exact (Kd.N_mono (Kd.N_far (p := ⟨gb178, 1, none⟩) (Kd.N_far (p := ⟨gb178, 0, none⟩) (Kd.N_mono HO176.out (fun k_ hk => (⟨hk, hk.2⟩ : _ ∧ k_ ≠ gb178))) (fun _ hk => hk.2) (.int .u64 t173)) (fun _ hk => hk.2) (.slice Ao28 t174.length co28)) (fun _ h_ => h_.1))) hb); have n1_ := Aside0.mk (blk_below (g := gb178) (o := .cells #[.int .u64 t173, .slice Ao28 t174.length co28] 25 (0, 0)) (by (with_reducible repeat (first | refine blk_drewN ?_ _ | refine blk_drew ?_ | refine blk_alloc ?_ _)); refine blk_put (cs := #[.int .u64 t173, .slice none 0 0]) ?_ 1 _ rfl; (with_reducible repeat (first | refine blk_drewN ?_ _ | refine blk_drew ?_ | refine blk_alloc ?_ _)); refine blk_put (cs := #[.int .u64 0, .slice none 0 0]) ?_ 0 _ rfl; (with_reducible repeat (first | refine blk_drewN ?_ _ | refine blk_drew ?_ | refine blk_alloc ?_ _)); exact BK178.out) hb); have n2_ := Aside0.mk (below_step (bl_ HB) hb); clear HO176; clear BK178; clear HB; have HO176 := n0_; have BK178 := n1_; have HB := n2_; clear n0_ n1_ n2_; (try clear hb); (try clear hb2); (try clear hk); (try clear hi); have hcz30_0 : w29.cell? ⟨gb178, 0, none⟩ = some (.int .u64 t173) := (blk_cell BK178.out 0).trans rfl; have hcz30_1 : w29.cell? ⟨gb178, 1, none⟩ = some (.slice Ao28 t174.length co28) := (blk_cell BK178.out 1).trans rfl; have hfz30_0 := blk_frozen BK178.out 0; have hfz30_1 := blk_frozen BK178.out 1) | (go_at_call 15; (with_reducible refine (bitmap_Add.calls k t173 (fun k_ => (True ∧ k_ ≠ gb178)) _ _ t174 (⟨#[97]⟩ : ByteArray) t180 t181 _ ?side1 A5.out ⟨tb_ HT0 HB⟩).mono ?_); (case side1 => exact Kd.N_V (HO176.out)); rintro e w31 ⟨v182, rfl, ho0, hb⟩; have n0_ := Aside0.mk (Kd.N_below (by (with_reducible repeat (first | apply Kd.N_alloc | apply Kd.N_drewN | apply Kd.N_drew)); exact HO176.out) hb); have n1_ := Aside0.mk (Kd.V_lower (Kd.V_mono (ok' := fun k_ => k_ ≠ gb178) ho0 (fun k_ hk_ => Or.elim hk_ (fun hs_ => hs_.2) (fun hn_ => (Kd.freshB (g := gb178) (o := .cells #[.int .u64 t173, .slice Ao28 t174.length co28] 25 (0, 0)) (bk_ BK178) k_ hn_)))) (below_size (bl_ HB))); have n2_ := Aside0.mk (blk_below (bk_ BK178) hb); have n3_ := Aside0.mk (below_step (bl_ HB) hb); clear HO176; clear BK178; clear HB; have HO176 := n0_; have HO183 := n1_; have BK178 := n2_; have HB := n3_; clear n0_ n1_ n2_ n3_; (try clear hb); (try clear hb2); (try clear hk); (try clear hi); (try clear ho0); obtain ⟨Ao32, co32, eo32⟩ := Kd.V_slice HO183.out; subst eo32) | (go_at_call 17; (with_reducible refine (bitmap_Estimate.calls k t180 _ _ t181 t184 _ ?side1 ?side2 A6.out).mono ?_); (case side1 => repeat (first | exact (Kd.V_reads' HO183.out).2.2 | (with_reducible refine Kd.C_alloc ?_ _) | (with_reducible refine Kd.C_drewN ?_ _) | (with_reducible refine Kd.C_drew ?_))); (case side2 => exact (Kd.V_reads' HO183.out).2.1); rintro e w33 ⟨rfl, hb⟩; have n0_ := Aside0.mk (Kd.N_below (by (with_reducible repeat (first | apply Kd.N_alloc | apply Kd.N_drewN | apply Kd.N_drew)); exact HO176.out) hb); have n1_ := Aside0.mk (Kd.V_below (vk_ HO183) hb); have n2_ := Aside0.mk (blk_below (bk_ BK178) hb); have n3_ := Aside0.mk (below_step (bl_ HB) hb); clear HO176; clear HO183; clear BK178; clear HB; have HO176 := n0_; have HO183 := n1_; have BK178 := n2_; have HB := n3_; clear n0_ n1_ n2_ n3_; (try clear hb); (try clear hb2); (try clear hk); (try clear hi)))
    go_ret; exact ⟨by first | rfl | (simp [errW_none, errW_some] <;> rfl) | (simp [*, errW_none, errW_some] <;> rfl), bl_ HB⟩
  ·rw [if_neg c4] at H; have c4b0 : (t179 == 0) = false := beq_eq_false_iff_ne.mpr c4; have c4b1 : (t179 != 0) = true := bne_iff_ne.mpr c4; obtain rfl := Option.some.inj H
   go_enter Tryd.func11, Tryd.ntmps11
   go_wp2_with (first | ((with_reducible refine gate_callee (f := 8) rfl ?_); refine goesL_ (some 4) rfl rfl Tryd.func8 (by kernel_rfl) rfl #[.int .u64 1, .int .i64 1, .int .i64 2] rfl (by (try simp only [List.map_toArray, List.map_cons, List.map_nil]); first | done | rfl | (simp only [List.length_drop, List.length_take]; rfl)) ?_; (with_reducible refine (bitmap_New.calls k 1 1 2 t173 t174 t177 _ A1.out).mono ?_); rintro e w34 ⟨v175, rfl, ho0, hb⟩; refine ⟨_, rfl, ?_⟩; have n0_ := Aside0.mk (Kd.N_lower (Kd.N_mono (ok' := fun k_ => True) (Kd.S_N (Kd.S_bound ho0)) (fun k_ hk_ => trivial)) (below_size (bl_ HB))); have n1_ := Aside0.mk (below_step (bl_ HB) hb); clear HB; have HO176 := n0_; have HB := n1_; clear n0_ n1_; (try clear hb); (try clear hb2); (try clear hk); (try clear hi); (try clear ho0)) | ((with_reducible refine gate_dst (N := 1) rfl ?_); (try (refine gate_guard (by rfl) ?_; dsimp only)); refine box_event ?hg (N := 1) ?hd (cs := #[.int .u64 0, .slice none 0 0]) (t := 25) ?hr ?_; (case hd => rfl); (case hg => rfl); (case hr => first | (go_simp; done) | (go_simp; rfl)); intro gb178 hg w35 hbox hb; have n0_ := Aside0.mk (Kd.N_below (Kd.N_elderB (by (with_reducible repeat (first | apply Kd.N_alloc | apply Kd.N_drewN | apply Kd.N_drew)); exact HO176.out) gb178 (Nat.le_of_eq hg.symm)) hb); have n1_ := Aside0.mk (below_step (bl_ HB) hb); have n2_ := Aside0.mk (hbox); have n3_ := Aside0.mk (gl_ hg HB); have n4_ := Aside0.mk (gl_ hg HB); clear HO176; clear HB; have HO176 := n0_; have HB := n1_; have BK178 := n2_; have GW178 := n3_; have GE178 := n4_; clear n0_ n1_ n2_ n3_ n4_; clear hb hbox hg; have hcz36_0 : w35.cell? ⟨gb178, 0, none⟩ = some (.int .u64 0) := (blk_cell BK178.out 0).trans rfl; have hcz36_1 : w35.cell? ⟨gb178, 1, none⟩ = some (.slice none 0 0) := (blk_cell BK178.out 1).trans rfl; have hfz36_0 := blk_frozen BK178.out 0; have hfz36_1 := blk_frozen BK178.out 1; obtain ⟨Ao37, co37, eo37⟩ := Kd.N_slice HO176.out; subst eo37) | (go_at_call 17; (with_reducible refine (bitmap_Estimate.calls k t173 _ _ t174 t179 _ ?side1 ?side2 A3.out).mono ?_); (case side1 => refine (Kd.N_reads' (e := 33) (base := w.heap.size) (ok := fun k_ => (True ∧ k_ ≠ gb178)) (n := t174.length) (c := co37) ?_).2.2; exact (by (with_reducible repeat (first | apply Kd.N_alloc | apply Kd.N_drewN | apply Kd.N_drew)); exact (Kd.N_mono (Kd.N_far (p := ⟨gb178, 1, none⟩) (Kd.N_far (p := ⟨gb178, 0, none⟩) (Kd.N_mono HO176.out (fun k_ hk => (⟨hk, hk.2⟩ : _ ∧ k_ ≠ gb178))) (fun _ hk => hk.2) (.int .u64 t173)) (fun _ hk => hk.2) (.slice Ao37 t174.length co37)) (fun _ h_ => h_.1)))); (case side2 => exact (Kd.N_reads' HO176.out).2.1); rintro e w38 ⟨rfl, hb⟩; have n0_ := Aside0.mk (Kd.N_below (by (with_reducible repeat (first | apply Kd.N_alloc | apply Kd.N_drewN | apply Kd.N_drew)); exact (Kd.N_mono (Kd.N_far (p := ⟨gb178, 1, none⟩) (Kd.N_far (p := ⟨gb178, 0, none⟩) (Kd.N_mono HO176.out (fun k_ hk => (⟨hk, hk.2⟩ : _ ∧ k_ ≠ gb178))) (fun _ hk => hk.2) (.int .u64 t173)) (fun _ hk => hk.2) (.slice Ao37 t174.length co37)) (fun _ h_ => h_.1))) hb); have n1_ := Aside0.mk (blk_below (g := gb178) (o := .cells #[.int .u64 t173, .slice Ao37 t174.length co37] 25 (0, 0)) (by (with_reducible repeat (first | refine blk_drewN ?_ _ | refine blk_drew ?_ | refine blk_alloc ?_ _)); refine blk_put (cs := #[.int .u64 t173, .slice none 0 0]) ?_ 1 _ rfl; (with_reducible repeat (first | refine blk_drewN ?_ _ | refine blk_drew ?_ | refine blk_alloc ?_ _)); refine blk_put (cs := #[.int .u64 0, .slice none 0 0]) ?_ 0 _ rfl; (with_reducible repeat (first | refine blk_drewN ?_ _ | refine blk_drew ?_ | refine blk_alloc ?_ _)); exact BK178.out) hb); have n2_ := Aside0.mk (below_step (bl_ HB) hb); clear HO176; clear BK178; clear HB; have HO176 := n0_; have BK178 := n1_; have HB := n2_; clear n0_ n1_ n2_; (try clear hb); (try clear hb2); (try clear hk); (try clear hi)))
   go_ret; exact ⟨by first | rfl | (simp [errW_none, errW_some] <;> rfl) | (simp [*, errW_none, errW_some] <;> rfl), bl_ HB⟩
 ·rw [if_neg c2] at H; have c2b0 : (t177 == 0) = false := beq_eq_false_iff_ne.mpr c2; have c2b1 : (t177 != 0) = true := bne_iff_ne.mpr c2; obtain rfl := Option.some.inj H
  go_enter Tryd.func11, Tryd.ntmps11
  go_wp2_with (first | ((with_reducible refine gate_callee (f := 8) rfl ?_); refine goesL_ (some 4) rfl rfl Tryd.func8 (by kernel_rfl) rfl #[.int .u64 1, .int .i64 1, .int .i64 2] rfl (by (try simp only [List.map_toArray, List.map_cons, List.map_nil]); first | done | rfl | (simp only [List.length_drop, List.length_take]; rfl)) ?_; (with_reducible refine (bitmap_New.calls k 1 1 2 t173 t174 t177 _ A1.out).mono ?_); rintro e w39 ⟨v175, rfl, ho0, hb⟩; refine ⟨_, rfl, ?_⟩; have n0_ := Aside0.mk (Kd.N_lower (Kd.N_mono (ok' := fun k_ => True) (Kd.S_N (Kd.S_bound ho0)) (fun k_ hk_ => trivial)) (below_size (bl_ HB))); have n1_ := Aside0.mk (below_step (bl_ HB) hb); clear HB; have HO176 := n0_; have HB := n1_; clear n0_ n1_; (try clear hb); (try clear hb2); (try clear hk); (try clear hi); (try clear ho0)) | ((with_reducible refine gate_dst (N := 1) rfl ?_); (try (refine gate_guard (by rfl) ?_; dsimp only)); refine box_event ?hg (N := 1) ?hd (cs := #[.int .u64 0, .slice none 0 0]) (t := 25) ?hr ?_; (case hd => rfl); (case hg => rfl); (case hr => first | (go_simp; done) | (go_simp; rfl)); intro gb178 hg w40 hbox hb; have n0_ := Aside0.mk (Kd.N_below (Kd.N_elderB (by (with_reducible repeat (first | apply Kd.N_alloc | apply Kd.N_drewN | apply Kd.N_drew)); exact HO176.out) gb178 (Nat.le_of_eq hg.symm)) hb); have n1_ := Aside0.mk (below_step (bl_ HB) hb); have n2_ := Aside0.mk (hbox); have n3_ := Aside0.mk (gl_ hg HB); have n4_ := Aside0.mk (gl_ hg HB); clear HO176; clear HB; have HO176 := n0_; have HB := n1_; have BK178 := n2_; have GW178 := n3_; have GE178 := n4_; clear n0_ n1_ n2_ n3_ n4_; clear hb hbox hg; have hcz41_0 : w40.cell? ⟨gb178, 0, none⟩ = some (.int .u64 0) := (blk_cell BK178.out 0).trans rfl; have hcz41_1 : w40.cell? ⟨gb178, 1, none⟩ = some (.slice none 0 0) := (blk_cell BK178.out 1).trans rfl; have hfz41_0 := blk_frozen BK178.out 0; have hfz41_1 := blk_frozen BK178.out 1; obtain ⟨Ao42, co42, eo42⟩ := Kd.N_slice HO176.out; subst eo42))
  go_ret; exact ⟨by first | rfl | (simp [errW_none, errW_some] <;> rfl) | (simp [*, errW_none, errW_some] <;> rfl), bl_ HB⟩

/-! ### rillmeterref13_Right: function 12 -/
def rillmeterref13_Right.l0 : Nat → Int → Int → List (List Bool) → Option (Bool)
  | 0, _, _, _ => none
  | k + 1, x3, x193000, x193001 => if x3 < (x193001.length : Int) then (if 0 ≤ x3 then (if ((rd_L1 x193001 x3).length : Int) = 0 then (some false) else (if ((rd_L1 x193001 x3).length : Int) > 256 then (some false) else (if 0 < (x193001.length : Int) then (if ((rd_L1 x193001 x3).length : Int) = ((rd_L1 x193001 0).length : Int) then (rillmeterref13_Right.l0 k (wrap64 (x3 + 1)) x193000 x193001) else (some false)) else (none)))) else (none)) else (if (x193001.length : Int) > 0 then (some (decide ((x193001.length : Int) < 17))) else (some false))
def rillmeterref13_Right.f (k : Nat) (a0_0 : Int) (l0_1 : List (List Bool)) : Option (Bool) := rillmeterref13_Right.l0 k 0 a0_0 l0_1
theorem rillmeterref13_Right.mono_l : ∀ k, (∀ y0 y1 y2, LeO (rillmeterref13_Right.l0 k y0 y1 y2) (rillmeterref13_Right.l0 (k + 1) y0 y1 y2))
  | 0 => fun _ _ _ r h => by simp [rillmeterref13_Right.l0] at h
  | k + 1 => by
    have ih0 := rillmeterref13_Right.mono_l k
    · intro y0 y1 y2
      unfold rillmeterref13_Right.l0
      repeat' first
      | (with_reducible exact ih0 _ _ _)
      | (with_reducible exact LeO.refl _)
      | (with_reducible exact LeO.none _)
      | (with_reducible refine LeO.ite ?_ ?_)
      | (with_reducible refine LeO.bind ?_ (fun _ => ?_))
      | exact ih0 _ _ _
      | exact LeO.none _
      | refine LeO.ite ?_ ?_
      | refine LeO.bind ?_ (fun _ => ?_)
theorem rillmeterref13_Right.mono : ∀ a0 a1 k, LeO (rillmeterref13_Right.f k a0 a1) (rillmeterref13_Right.f (k + 1) a0 a1) := by
  intro a0 a1 k
  have ih0 := rillmeterref13_Right.mono_l k
  unfold rillmeterref13_Right.f
  repeat' first
      | (with_reducible exact ih0 _ _ _)
      | (with_reducible exact LeO.refl _)
      | (with_reducible exact LeO.none _)
      | (with_reducible refine LeO.ite ?_ ?_)
      | (with_reducible refine LeO.bind ?_ (fun _ => ?_))
      | exact ih0 _ _ _
      | exact LeO.none _
      | refine LeO.ite ?_ ?_
      | refine LeO.bind ?_ (fun _ => ?_)
set_option maxHeartbeats 80000000 in
set_option maxRecDepth 100000 in
theorem rillmeterref13_Right.calls (k : Nat) (a0_0 : Int) (A0_1 : Option Addr) (c0_1 : Nat) (l0_1 : List (List Bool)) (r : Bool) (w : World) (hr0_1 : Kd.C (Kd.slice 4 Kd.bool) w A0_1 l0_1.length l0_1) (hc0_1 : l0_1.length ≤ c0_1) (h : rillmeterref13_Right.f k a0_0 l0_1 = some r) :
    Calls Tryd.prog 12 #[.agg #[.int .u64 a0_0, .slice A0_1 l0_1.length c0_1]] w fun e w' => e = .returned (.bool r) ∧ Below w.heap.size w w' := by
 have hu30 := Tryd.underlying30; have HR0_1 := Aside0.mk hr0_1; have HC0_1 := Aside0.mk hc0_1; clear hr0_1 hc0_1; have HB := Aside0.mk (Below.refl w.heap.size w); have H : (rillmeterref13_Right.l0 k 0 a0_0 l0_1) = some r := h; clear h; have H' := Aside0.mk H; clear H
 go_enter Tryd.func12, Tryd.ntmps12
 go_wp2_with (first | ((with_reducible refine gate_dst (N := 1) rfl ?_); (try (refine gate_guard (by rfl) ?_; dsimp only)); refine box_event ?hg (N := 1) ?hd (cs := #[.int .u64 a0_0, .slice A0_1 l0_1.length c0_1]) (t := 30) ?hr ?_; (case hd => rfl); (case hg => rfl); (case hr => first | (go_simp; done) | (go_simp; rfl)); intro gb192 hg w2 hbox hb; have n0_ := Aside0.mk (below_step (bl_ HB) hb); have n1_ := Aside0.mk (hbox); have n2_ := Aside0.mk (gl_ hg HB); have n3_ := Aside0.mk (gl_ hg HB); clear HB; have HB := n0_; have BK192 := n1_; have GW192 := n2_; have GE192 := n3_; clear n0_ n1_ n2_ n3_; clear hb hbox hg))
 go_loopg [3] k (fun kq v3 w' => ∃ (x3_1 : Int), v3 = .int .i64 x3_1 ∧ Aside0 (rillmeterref13_Right.l0 kq x3_1 a0_0 l0_1 = some r) ∧ Aside0 (kq ≤ k) ∧ Aside0 (w'.heap[gb192]? = some (.cells #[.int .u64 a0_0, (.slice A0_1 l0_1.length c0_1)] 30 (0, 0))) ∧ Aside0 (Below w.heap.size w w'))
 case atStart => exact ⟨(0), (by first | rfl | (simp; done) | (simp [*]; done)), H', ⟨Nat.le_refl _⟩, ⟨bk_ BK192⟩, ⟨bl_ HB⟩⟩
 case round =>
  clear H'; (try clear c1); (try clear p2); obtain ⟨x3_1, rfl, HA, HK1, BK192, HB⟩ := hrel
  cases gk with
  | zero => exact absurd HA.out (by simp [rillmeterref13_Right.l0])
  | succ k1 =>
   have H := HA.out; clear HA; simp only [rillmeterref13_Right.l0] at H
   by_cases c3 : x3_1 < (l0_1.length : Int)
   ·rw [if_pos c3] at H; have c3b0 : decide (x3_1 < (l0_1.length : Int)) = true := decide_eq_true c3; clear c3
    by_cases c4 : 0 ≤ x3_1
    ·rw [if_pos c4] at H; have c4b0 : decide (0 ≤ x3_1) = true := decide_eq_true c4; clear c4
     by_cases c5 : ((rd_L1 l0_1 x3_1).length : Int) = 0
     ·rw [if_pos c5] at H; have c5b0 : (((rd_L1 l0_1 x3_1).length : Int) == 0) = true := beq_iff_eq.mpr c5; have c5b1 : (((rd_L1 l0_1 x3_1).length : Int) != 0) = false := bne_eq_false_iff_eq.mpr c5; clear c5; obtain rfl := Option.some.inj H; have hcz6_0 : wr.cell? ⟨gb192, 0, none⟩ = some (.int .u64 a0_0) := (blk_cell BK192.out 0).trans rfl; have hcz6_1 : wr.cell? ⟨gb192, 1, none⟩ = some (.slice A0_1 l0_1.length c0_1) := (blk_cell BK192.out 1).trans rfl; have hfz6_0 := blk_frozen BK192.out 0; have hfz6_1 := blk_frozen BK192.out 1; have p193 : 0 ≤ (x3_1 : Int) := of_decide_eq_true (by first | (with_reducible assumption) | assumption); have q193 : x3_1 < (l0_1.length : Int) := of_decide_eq_true (by first | (with_reducible assumption) | assumption); obtain ⟨ad193, A193_0, c193_0, e193, hx193_0, hl193_0, hi193_0⟩ := at_L1 HR0_1.out x3_1 p193 q193
      cases e193; (try replace hx193_0 := (HB.out.cell (World.block_lt_of_cell? w _ hx193_0)).trans hx193_0); have HR193_0 := Aside0.mk hi193_0; have HC193_0 := Aside0.mk hl193_0; clear hi193_0 hl193_0; replace p193 := eq_true p193; replace q193 := eq_true q193
      go_wp2
      go_ret; exact ⟨by first | rfl | (simp [errW_none, errW_some] <;> rfl) | (simp [*, errW_none, errW_some] <;> rfl), bl_ HB⟩
     ·rw [if_neg c5] at H; have c5b0 : (((rd_L1 l0_1 x3_1).length : Int) == 0) = false := beq_eq_false_iff_ne.mpr c5; have c5b1 : (((rd_L1 l0_1 x3_1).length : Int) != 0) = true := bne_iff_ne.mpr c5
      have c5b2 : ¬ ((rd_L1 l0_1 x3_1) = []) := fun h_ => c5 (by rw [h_]; rfl)
      by_cases c7 : ((rd_L1 l0_1 x3_1).length : Int) > 256
      ·rw [if_pos c7] at H; have c7b0 : decide (256 < ((rd_L1 l0_1 x3_1).length : Int)) = true := decide_eq_true c7; have c7b1 : decide (256 < (rd_L1 l0_1 x3_1).length) = true := decide_eq_true (by omega); clear c7; obtain rfl := Option.some.inj H; have hcz8_0 : wr.cell? ⟨gb192, 0, none⟩ = some (.int .u64 a0_0) := (blk_cell BK192.out 0).trans rfl; have hcz8_1 : wr.cell? ⟨gb192, 1, none⟩ = some (.slice A0_1 l0_1.length c0_1) := (blk_cell BK192.out 1).trans rfl; have hfz8_0 := blk_frozen BK192.out 0; have hfz8_1 := blk_frozen BK192.out 1; have p193 : 0 ≤ (x3_1 : Int) := of_decide_eq_true (by first | (with_reducible assumption) | assumption); have q193 : x3_1 < (l0_1.length : Int) := of_decide_eq_true (by first | (with_reducible assumption) | assumption); obtain ⟨ad193, A193_0, c193_0, e193, hx193_0, hl193_0, hi193_0⟩ := at_L1 HR0_1.out x3_1 p193 q193
       cases e193; (try replace hx193_0 := (HB.out.cell (World.block_lt_of_cell? w _ hx193_0)).trans hx193_0); have HR193_0 := Aside0.mk hi193_0; have HC193_0 := Aside0.mk hl193_0; clear hi193_0 hl193_0; replace p193 := eq_true p193; replace q193 := eq_true q193
       go_wp2
       go_ret; exact ⟨by first | rfl | (simp [errW_none, errW_some] <;> rfl) | (simp [*, errW_none, errW_some] <;> rfl), bl_ HB⟩
      ·rw [if_neg c7] at H; have c7b0 : decide (256 < ((rd_L1 l0_1 x3_1).length : Int)) = false := decide_eq_false c7; have c7b1 : decide (256 < (rd_L1 l0_1 x3_1).length) = false := decide_eq_false (by omega); clear c7
       by_cases c9 : 0 < (l0_1.length : Int)
       ·rw [if_pos c9] at H; have c9b0 : decide (0 < (l0_1.length : Int)) = true := decide_eq_true c9; have c9b1 : decide (0 < l0_1.length) = true := decide_eq_true (by omega); clear c9
        by_cases c10 : ((rd_L1 l0_1 x3_1).length : Int) = ((rd_L1 l0_1 0).length : Int)
        ·rw [if_pos c10] at H; have c10b0 : (((rd_L1 l0_1 x3_1).length : Int) == ((rd_L1 l0_1 0).length : Int)) = true := beq_iff_eq.mpr c10; have c10b1 : (((rd_L1 l0_1 x3_1).length : Int) != ((rd_L1 l0_1 0).length : Int)) = false := bne_eq_false_iff_eq.mpr c10
         have c10b2 : ((rd_L1 l0_1 x3_1).length == (rd_L1 l0_1 0).length) = true := by first | simpa using c10 | (simp at c10 ⊢; omega)
         clear c10; have H' := Aside0.mk H; clear H; have hcz11_0 : wr.cell? ⟨gb192, 0, none⟩ = some (.int .u64 a0_0) := (blk_cell BK192.out 0).trans rfl; have hcz11_1 : wr.cell? ⟨gb192, 1, none⟩ = some (.slice A0_1 l0_1.length c0_1) := (blk_cell BK192.out 1).trans rfl; have hfz11_0 := blk_frozen BK192.out 0; have hfz11_1 := blk_frozen BK192.out 1; have p193 : 0 ≤ (x3_1 : Int) := of_decide_eq_true (by first | (with_reducible assumption) | assumption); have q193 : x3_1 < (l0_1.length : Int) := of_decide_eq_true (by first | (with_reducible assumption) | assumption); obtain ⟨ad193, A193_0, c193_0, e193, hx193_0, hl193_0, hi193_0⟩ := at_L1 HR0_1.out x3_1 p193 q193
         cases e193; (try replace hx193_0 := (HB.out.cell (World.block_lt_of_cell? w _ hx193_0)).trans hx193_0); have HR193_0 := Aside0.mk hi193_0; have HC193_0 := Aside0.mk hl193_0; clear hi193_0 hl193_0; replace p193 := eq_true p193; replace q193 := eq_true q193; have p194 : 0 ≤ (0 : Int) := (by omega); have q194 : 0 < (l0_1.length : Int) := of_decide_eq_true (by first | (with_reducible assumption) | assumption); obtain ⟨ad194, A194_0, c194_0, e194, hx194_0, hl194_0, hi194_0⟩ := at_L1 HR0_1.out 0 p194 q194; obtain rfl : ad193 = ad194 := (by injection e194); have qi194 : (0 < l0_1.length) = True := eq_true (by omega); (try rw [show ((0 : Int)).toNat = 0 from rfl] at hx194_0); (try rw [Addr.add_zero'] at hx194_0); (try replace hx194_0 := (HB.out.cell (World.block_lt_of_cell? w _ hx194_0)).trans hx194_0); have HR194_0 := Aside0.mk hi194_0; have HC194_0 := Aside0.mk hl194_0; clear hi194_0 hl194_0; replace p194 := eq_true p194; replace q194 := eq_true q194
         go_wp2
         go_roundg k1
         case measure => have := HK1.out; omega
         case rel => exact ⟨(wrap64 (x3_1 + 1)), (by first | rfl | (simp; done) | (simp [*]; done)), H', ⟨by have := HK1.out; omega⟩, ⟨bk_ BK192⟩, ⟨bl_ HB⟩⟩
        ·rw [if_neg c10] at H; have c10b0 : (((rd_L1 l0_1 x3_1).length : Int) == ((rd_L1 l0_1 0).length : Int)) = false := beq_eq_false_iff_ne.mpr c10; have c10b1 : (((rd_L1 l0_1 x3_1).length : Int) != ((rd_L1 l0_1 0).length : Int)) = true := bne_iff_ne.mpr c10
         have c10b2 : ((rd_L1 l0_1 x3_1).length == (rd_L1 l0_1 0).length) = false := by first | simpa using c10 | (simp at c10 ⊢; omega)
         obtain rfl := Option.some.inj H; have hcz12_0 : wr.cell? ⟨gb192, 0, none⟩ = some (.int .u64 a0_0) := (blk_cell BK192.out 0).trans rfl; have hcz12_1 : wr.cell? ⟨gb192, 1, none⟩ = some (.slice A0_1 l0_1.length c0_1) := (blk_cell BK192.out 1).trans rfl; have hfz12_0 := blk_frozen BK192.out 0; have hfz12_1 := blk_frozen BK192.out 1; have p193 : 0 ≤ (x3_1 : Int) := of_decide_eq_true (by first | (with_reducible assumption) | assumption); have q193 : x3_1 < (l0_1.length : Int) := of_decide_eq_true (by first | (with_reducible assumption) | assumption); obtain ⟨ad193, A193_0, c193_0, e193, hx193_0, hl193_0, hi193_0⟩ := at_L1 HR0_1.out x3_1 p193 q193
         cases e193; (try replace hx193_0 := (HB.out.cell (World.block_lt_of_cell? w _ hx193_0)).trans hx193_0); have HR193_0 := Aside0.mk hi193_0; have HC193_0 := Aside0.mk hl193_0; clear hi193_0 hl193_0; replace p193 := eq_true p193; replace q193 := eq_true q193; have p194 : 0 ≤ (0 : Int) := (by omega); have q194 : 0 < (l0_1.length : Int) := of_decide_eq_true (by first | (with_reducible assumption) | assumption); obtain ⟨ad194, A194_0, c194_0, e194, hx194_0, hl194_0, hi194_0⟩ := at_L1 HR0_1.out 0 p194 q194; obtain rfl : ad193 = ad194 := (by injection e194); have qi194 : (0 < l0_1.length) = True := eq_true (by omega); (try rw [show ((0 : Int)).toNat = 0 from rfl] at hx194_0); (try rw [Addr.add_zero'] at hx194_0); (try replace hx194_0 := (HB.out.cell (World.block_lt_of_cell? w _ hx194_0)).trans hx194_0); have HR194_0 := Aside0.mk hi194_0; have HC194_0 := Aside0.mk hl194_0; clear hi194_0 hl194_0; replace p194 := eq_true p194; replace q194 := eq_true q194
         go_wp2
         go_ret; exact ⟨by first | rfl | (simp [errW_none, errW_some] <;> rfl) | (simp [*, errW_none, errW_some] <;> rfl), bl_ HB⟩
       ·rw [if_neg c9] at H; exact absurd H (by simp)
    ·rw [if_neg c4] at H; exact absurd H (by simp)
   ·rw [if_neg c3] at H; have c3b0 : decide (x3_1 < (l0_1.length : Int)) = false := decide_eq_false c3; clear c3
    by_cases c13 : (l0_1.length : Int) > 0
    ·rw [if_pos c13] at H; have c13b0 : decide (0 < (l0_1.length : Int)) = true := decide_eq_true c13; have c13b1 : decide (0 < l0_1.length) = true := decide_eq_true (by omega); clear c13; obtain rfl := Option.some.inj H; have hcz14_0 : wr.cell? ⟨gb192, 0, none⟩ = some (.int .u64 a0_0) := (blk_cell BK192.out 0).trans rfl; have hcz14_1 : wr.cell? ⟨gb192, 1, none⟩ = some (.slice A0_1 l0_1.length c0_1) := (blk_cell BK192.out 1).trans rfl; have hfz14_0 := blk_frozen BK192.out 0; have hfz14_1 := blk_frozen BK192.out 1
     go_wp2
     go_ret; exact ⟨by first | rfl | (simp [errW_none, errW_some] <;> rfl) | (simp [*, errW_none, errW_some] <;> rfl), bl_ HB⟩
    ·rw [if_neg c13] at H; have c13b0 : decide (0 < (l0_1.length : Int)) = false := decide_eq_false c13; have c13b1 : decide (0 < l0_1.length) = false := decide_eq_false (by omega); clear c13; obtain rfl := Option.some.inj H; have hcz15_0 : wr.cell? ⟨gb192, 0, none⟩ = some (.int .u64 a0_0) := (blk_cell BK192.out 0).trans rfl; have hcz15_1 : wr.cell? ⟨gb192, 1, none⟩ = some (.slice A0_1 l0_1.length c0_1) := (blk_cell BK192.out 1).trans rfl; have hfz15_0 := blk_frozen BK192.out 0; have hfz15_1 := blk_frozen BK192.out 1
     go_wp2
     go_ret; exact ⟨by first | rfl | (simp [errW_none, errW_some] <;> rfl) | (simp [*, errW_none, errW_some] <;> rfl), bl_ HB⟩

/-! ### rillmeterref13_Small: function 14 -/
def rillmeterref13_Small.l0 : Nat → Int → Int → List (List Bool) → Option (Bool)
  | 0, _, _, _ => none
  | k + 1, x3, x196000, x196001 => if x3 < (x196001.length : Int) then (if 0 ≤ x3 then (if ((rd_L1 x196001 x3).length : Int) > 300 then (some false) else (rillmeterref13_Small.l0 k (wrap64 (x3 + 1)) x196000 x196001)) else (none)) else (some (decide ((x196001.length : Int) < 20)))
def rillmeterref13_Small.f (k : Nat) (a0_0 : Int) (l0_1 : List (List Bool)) : Option (Bool) := rillmeterref13_Small.l0 k 0 a0_0 l0_1
theorem rillmeterref13_Small.mono_l : ∀ k, (∀ y0 y1 y2, LeO (rillmeterref13_Small.l0 k y0 y1 y2) (rillmeterref13_Small.l0 (k + 1) y0 y1 y2))
  | 0 => fun _ _ _ r h => by simp [rillmeterref13_Small.l0] at h
  | k + 1 => by
    have ih0 := rillmeterref13_Small.mono_l k
    · intro y0 y1 y2
      unfold rillmeterref13_Small.l0
      repeat' first
      | (with_reducible exact ih0 _ _ _)
      | (with_reducible exact LeO.refl _)
      | (with_reducible exact LeO.none _)
      | (with_reducible refine LeO.ite ?_ ?_)
      | (with_reducible refine LeO.bind ?_ (fun _ => ?_))
      | exact ih0 _ _ _
      | exact LeO.none _
      | refine LeO.ite ?_ ?_
      | refine LeO.bind ?_ (fun _ => ?_)
theorem rillmeterref13_Small.mono : ∀ a0 a1 k, LeO (rillmeterref13_Small.f k a0 a1) (rillmeterref13_Small.f (k + 1) a0 a1) := by
  intro a0 a1 k
  have ih0 := rillmeterref13_Small.mono_l k
  unfold rillmeterref13_Small.f
  repeat' first
      | (with_reducible exact ih0 _ _ _)
      | (with_reducible exact LeO.refl _)
      | (with_reducible exact LeO.none _)
      | (with_reducible refine LeO.ite ?_ ?_)
      | (with_reducible refine LeO.bind ?_ (fun _ => ?_))
      | exact ih0 _ _ _
      | exact LeO.none _
      | refine LeO.ite ?_ ?_
      | refine LeO.bind ?_ (fun _ => ?_)
set_option maxHeartbeats 80000000 in
set_option maxRecDepth 100000 in
theorem rillmeterref13_Small.calls (k : Nat) (a0_0 : Int) (A0_1 : Option Addr) (c0_1 : Nat) (l0_1 : List (List Bool)) (r : Bool) (w : World) (hr0_1 : Kd.C (Kd.slice 4 Kd.bool) w A0_1 l0_1.length l0_1) (hc0_1 : l0_1.length ≤ c0_1) (h : rillmeterref13_Small.f k a0_0 l0_1 = some r) :
    Calls Tryd.prog 14 #[.agg #[.int .u64 a0_0, .slice A0_1 l0_1.length c0_1]] w fun e w' => e = .returned (.bool r) ∧ Below w.heap.size w w' := by
 have hu30 := Tryd.underlying30; have HR0_1 := Aside0.mk hr0_1; have HC0_1 := Aside0.mk hc0_1; clear hr0_1 hc0_1; have HB := Aside0.mk (Below.refl w.heap.size w); have H : (rillmeterref13_Small.l0 k 0 a0_0 l0_1) = some r := h; clear h; have H' := Aside0.mk H; clear H
 go_enter Tryd.func14, Tryd.ntmps14
 go_wp2_with (first | ((with_reducible refine gate_dst (N := 1) rfl ?_); refine box_event ?hg (N := 1) ?hd (cs := #[.int .u64 a0_0, .slice A0_1 l0_1.length c0_1]) (t := 30) ?hr ?_; (case hd => rfl); (case hg => rfl); (case hr => first | (go_simp; done) | (go_simp; rfl)); intro gb195 hg w2 hbox hb; have n0_ := Aside0.mk (below_step (bl_ HB) hb); have n1_ := Aside0.mk (hbox); have n2_ := Aside0.mk (gl_ hg HB); have n3_ := Aside0.mk (gl_ hg HB); clear HB; have HB := n0_; have BK195 := n1_; have GW195 := n2_; have GE195 := n3_; clear n0_ n1_ n2_ n3_; clear hb hbox hg))
 go_loopg [3] k (fun kq v3 w' => ∃ (x3_1 : Int), v3 = .int .i64 x3_1 ∧ Aside0 (rillmeterref13_Small.l0 kq x3_1 a0_0 l0_1 = some r) ∧ Aside0 (kq ≤ k) ∧ Aside0 (w'.heap[gb195]? = some (.cells #[.int .u64 a0_0, (.slice A0_1 l0_1.length c0_1)] 30 (0, 0))) ∧ Aside0 (Below w.heap.size w w'))
 case atStart => exact ⟨(0), (by first | rfl | (simp; done) | (simp [*]; done)), H', ⟨Nat.le_refl _⟩, ⟨bk_ BK195⟩, ⟨bl_ HB⟩⟩
 case round =>
  clear H'; (try clear c1); (try clear p2); obtain ⟨x3_1, rfl, HA, HK1, BK195, HB⟩ := hrel
  cases gk with
  | zero => exact absurd HA.out (by simp [rillmeterref13_Small.l0])
  | succ k1 =>
   have H := HA.out; clear HA; simp only [rillmeterref13_Small.l0] at H
   by_cases c3 : x3_1 < (l0_1.length : Int)
   ·rw [if_pos c3] at H; have c3b0 : decide (x3_1 < (l0_1.length : Int)) = true := decide_eq_true c3; clear c3
    by_cases c4 : 0 ≤ x3_1
    ·rw [if_pos c4] at H; have c4b0 : decide (0 ≤ x3_1) = true := decide_eq_true c4; clear c4
     by_cases c5 : ((rd_L1 l0_1 x3_1).length : Int) > 300
     ·rw [if_pos c5] at H; have c5b0 : decide (300 < ((rd_L1 l0_1 x3_1).length : Int)) = true := decide_eq_true c5; have c5b1 : decide (300 < (rd_L1 l0_1 x3_1).length) = true := decide_eq_true (by omega); clear c5; obtain rfl := Option.some.inj H; have hcz6_0 : wr.cell? ⟨gb195, 0, none⟩ = some (.int .u64 a0_0) := (blk_cell BK195.out 0).trans rfl; have hcz6_1 : wr.cell? ⟨gb195, 1, none⟩ = some (.slice A0_1 l0_1.length c0_1) := (blk_cell BK195.out 1).trans rfl; have hfz6_0 := blk_frozen BK195.out 0; have hfz6_1 := blk_frozen BK195.out 1; have p196 : 0 ≤ (x3_1 : Int) := of_decide_eq_true (by first | (with_reducible assumption) | assumption); have q196 : x3_1 < (l0_1.length : Int) := of_decide_eq_true (by first | (with_reducible assumption) | assumption); obtain ⟨ad196, A196_0, c196_0, e196, hx196_0, hl196_0, hi196_0⟩ := at_L1 HR0_1.out x3_1 p196 q196
      cases e196; (try replace hx196_0 := (HB.out.cell (World.block_lt_of_cell? w _ hx196_0)).trans hx196_0); have HR196_0 := Aside0.mk hi196_0; have HC196_0 := Aside0.mk hl196_0; clear hi196_0 hl196_0; replace p196 := eq_true p196; replace q196 := eq_true q196
      go_wp2
      go_ret; exact ⟨by first | rfl | (simp [errW_none, errW_some] <;> rfl) | (simp [*, errW_none, errW_some] <;> rfl), bl_ HB⟩
     ·rw [if_neg c5] at H; have c5b0 : decide (300 < ((rd_L1 l0_1 x3_1).length : Int)) = false := decide_eq_false c5; have c5b1 : decide (300 < (rd_L1 l0_1 x3_1).length) = false := decide_eq_false (by omega); clear c5; have H' := Aside0.mk H; clear H; have hcz7_0 : wr.cell? ⟨gb195, 0, none⟩ = some (.int .u64 a0_0) := (blk_cell BK195.out 0).trans rfl; have hcz7_1 : wr.cell? ⟨gb195, 1, none⟩ = some (.slice A0_1 l0_1.length c0_1) := (blk_cell BK195.out 1).trans rfl; have hfz7_0 := blk_frozen BK195.out 0; have hfz7_1 := blk_frozen BK195.out 1; have p196 : 0 ≤ (x3_1 : Int) := of_decide_eq_true (by first | (with_reducible assumption) | assumption); have q196 : x3_1 < (l0_1.length : Int) := of_decide_eq_true (by first | (with_reducible assumption) | assumption); obtain ⟨ad196, A196_0, c196_0, e196, hx196_0, hl196_0, hi196_0⟩ := at_L1 HR0_1.out x3_1 p196 q196
      cases e196; (try replace hx196_0 := (HB.out.cell (World.block_lt_of_cell? w _ hx196_0)).trans hx196_0); have HR196_0 := Aside0.mk hi196_0; have HC196_0 := Aside0.mk hl196_0; clear hi196_0 hl196_0; replace p196 := eq_true p196; replace q196 := eq_true q196
      go_wp2
      go_roundg k1
      case measure => have := HK1.out; omega
      case rel => exact ⟨(wrap64 (x3_1 + 1)), (by first | rfl | (simp; done) | (simp [*]; done)), H', ⟨by have := HK1.out; omega⟩, ⟨bk_ BK195⟩, ⟨bl_ HB⟩⟩
    ·rw [if_neg c4] at H; exact absurd H (by simp)
   ·rw [if_neg c3] at H; have c3b0 : decide (x3_1 < (l0_1.length : Int)) = false := decide_eq_false c3; clear c3; obtain rfl := Option.some.inj H; have hcz8_0 : wr.cell? ⟨gb195, 0, none⟩ = some (.int .u64 a0_0) := (blk_cell BK195.out 0).trans rfl; have hcz8_1 : wr.cell? ⟨gb195, 1, none⟩ = some (.slice A0_1 l0_1.length c0_1) := (blk_cell BK195.out 1).trans rfl; have hfz8_0 := blk_frozen BK195.out 0; have hfz8_1 := blk_frozen BK195.out 1
    go_wp2
    go_ret; exact ⟨by first | rfl | (simp [errW_none, errW_some] <;> rfl) | (simp [*, errW_none, errW_some] <;> rfl), bl_ HB⟩

end Go.Proofs.YteakbghjhckoeaaDoor.PBitmapMerges
