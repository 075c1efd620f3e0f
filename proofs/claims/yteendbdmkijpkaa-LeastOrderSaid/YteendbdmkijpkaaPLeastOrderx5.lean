/- The functions that a law uses, each as a plain function, with the proof that a call of the Go function comes to its answer. Condition of each: the arguments read as the data that it names, and the plain function has an answer. Written by a program of this session (standin.py). -/
import Derived.Test.YteendbdmkijpkaaPLeastOrderx0
import Derived.Test.YteendbdmkijpkaaPLeastOrderx1
import Derived.Test.YteendbdmkijpkaaPLeastOrderx3
import Derived.Test.YteendbdmkijpkaaPLeastOrderx4
import Derived.Test.YteendbdmkijpkaaShort
import Derived.Lib.SliceRun
import Derived.Shelf.Abstract
import Derived.StillTailTactics
import Derived.Test.YteendbdmkijpkaaPress
namespace Go.Proofs.Yteendbdmkijpkaa.PLeastOrder
open Go.RowKit Go.Proofs.YteendbdmkijpkaaW.PrintWords Go.Proofs.YteendbdmkijpkaaW.PrintLast Go.Proofs.YteendbdmkijpkaaW.PrintMore Go.Proofs.Yteendbdmkijpkaa.Short Go.Proofs.Yteendbdmkijpkaa.Press
attribute [local go_sem] max2_int min2_int max_two min_two max_three min_three max_four min_four   -- for this text's walks alone
set_option linter.unusedVariables false
set_option linter.unusedSimpArgs false

/-! ### least_Get: function 16 -/
def least_Get.l0 : Nat → ByteArray → Int → List (List Int) → Int → Int → Int → Int → List (List Int) → Option (Int × Bool)
  | 0, _, _, _, _, _, _, _, _ => none
  | k + 1, x1, x6, x15, x16, x17, x185000, x185001, x185002 => if x17 < x16 then (if 0 ≤ x17 then (if x17 < (x15.length : Int) then ((hash_Row.f x185000 x17).bind fun t187 => ((hash_Cell.f k t187 x1 ((rd_L1 x15 x17).length : Int)).bind fun t188 => (if 0 ≤ t188 then (if t188 < ((rd_L1 x15 x17).length : Int) then (least_Get.l0 k x1 (mn x6 (rd (rd_L1 x15 x17) t188)) x15 x16 (wrap64 (x17 + 1)) x185000 x185001 x185002) else (none)) else (none)))) else (none)) else (none)) else (some (x6, decide (x6 < x185001)))
def least_Get.f (k : Nat) (a0_0 : Int) (a0_1 : Int) (l0_2 : List (List Int)) (a1 : ByteArray) : Option (Int × Bool) := (least_Right.f k a0_0 a0_1 l0_2).bind fun t185 => (if t185 = true then (least_Get.l0 k a1 a0_1 l0_2 (l0_2.length : Int) 0 a0_0 a0_1 l0_2) else (some (0, false)))
theorem least_Get.mono_l : ∀ k, (∀ y0 y1 y2 y3 y4 y5 y6 y7, LeO (least_Get.l0 k y0 y1 y2 y3 y4 y5 y6 y7) (least_Get.l0 (k + 1) y0 y1 y2 y3 y4 y5 y6 y7))
  | 0 => fun _ _ _ _ _ _ _ _ r h => by simp [least_Get.l0] at h
  | k + 1 => by
    have ih0 := least_Get.mono_l k
    · intro y0 y1 y2 y3 y4 y5 y6 y7
      unfold least_Get.l0
      repeat' first
      | (with_reducible exact ih0 _ _ _ _ _ _ _ _)
      | (with_reducible exact hash_Cell.mono _ _ _ _)
      | (with_reducible exact least_Right.mono _ _ _ _)
      | (with_reducible exact LeO.refl _)
      | (with_reducible exact LeO.none _)
      | (with_reducible refine LeO.ite ?_ ?_)
      | (with_reducible refine LeO.bind ?_ (fun _ => ?_))
      | exact ih0 _ _ _ _ _ _ _ _
      | exact hash_Cell.mono _ _ _ _
      | exact least_Right.mono _ _ _ _
      | exact LeO.none _
      | refine LeO.ite ?_ ?_
      | refine LeO.bind ?_ (fun _ => ?_)
theorem least_Get.mono : ∀ a0 a1 a2 a3 k, LeO (least_Get.f k a0 a1 a2 a3) (least_Get.f (k + 1) a0 a1 a2 a3) := by
  intro a0 a1 a2 a3 k
  have ih0 := least_Get.mono_l k
  unfold least_Get.f
  repeat' first
      | (with_reducible exact ih0 _ _ _ _ _ _ _ _)
      | (with_reducible exact hash_Cell.mono _ _ _ _)
      | (with_reducible exact least_Right.mono _ _ _ _)
      | (with_reducible exact LeO.refl _)
      | (with_reducible exact LeO.none _)
      | (with_reducible refine LeO.ite ?_ ?_)
      | (with_reducible refine LeO.bind ?_ (fun _ => ?_))
      | exact ih0 _ _ _ _ _ _ _ _
      | exact hash_Cell.mono _ _ _ _
      | exact least_Right.mono _ _ _ _
      | exact LeO.none _
      | refine LeO.ite ?_ ?_
      | refine LeO.bind ?_ (fun _ => ?_)
set_option maxHeartbeats 80000000 in
set_option maxRecDepth 100000 in
theorem least_Get.calls (k : Nat) (a0_0 : Int) (a0_1 : Int) (A0_2 : Option Addr) (c0_2 : Nat) (l0_2 : List (List Int)) (a1 : ByteArray) (r1 : Int) (r2 : Bool) (w : World) (hr0_2 : Kd.C (Kd.slice 3 (Kd.int .i64)) w A0_2 l0_2.length l0_2) (hc0_2 : l0_2.length ≤ c0_2) (h : least_Get.f k a0_0 a0_1 l0_2 a1 = some (r1, r2)) :
    Calls Try.prog 16 #[.agg #[.int .u64 a0_0, .int .i64 a0_1, .slice A0_2 l0_2.length c0_2], .string a1] w fun e w' => e = .returned (.tuple #[.int .i64 r1, .bool r2]) ∧ Below w.heap.size w w' := by
 have hu25 := Try.underlying25; have HR0_2 := Aside0.mk hr0_2; have HC0_2 := Aside0.mk hc0_2; clear hr0_2 hc0_2; have HB := Aside0.mk (Below.refl w.heap.size w); have H : ((least_Right.f k a0_0 a0_1 l0_2).bind fun t185 => (if t185 = true then (least_Get.l0 k a1 a0_1 l0_2 (l0_2.length : Int) 0 a0_0 a0_1 l0_2) else (some (0, false)))) = some (r1, r2) := h; clear h; replace H := Option.bind_eq_some_iff.mp H; obtain ⟨t185, A30, H⟩ := H; replace H : (if t185 = true then (least_Get.l0 k a1 a0_1 l0_2 (l0_2.length : Int) 0 a0_0 a0_1 l0_2) else (some (0, false))) = some (r1, r2) := H; have A3 := Aside0.mk A30; clear A30
 by_cases c4 : t185 = true
 ·subst c4
  have H1 : (least_Get.l0 k a1 a0_1 l0_2 (l0_2.length : Int) 0 a0_0 a0_1 l0_2) = some (r1, r2) := by rw [if_pos rfl] at H; exact H
  clear H; have H := H1; clear H1; have H' := Aside0.mk H; clear H
  go_enter Try.func16, Try.ntmps16
  go_wp2_with (first | ((with_reducible refine gate_dst (N := 2) rfl ?_); refine box_event ?hg (N := 2) ?hd (cs := #[.int .u64 a0_0, .int .i64 a0_1, .slice A0_2 l0_2.length c0_2]) (t := 25) ?hr ?_; (case hd => rfl); (case hg => rfl); (case hr => first | (go_simp; done) | (go_simp; rfl)); intro gb184 hg w5 hbox hb; have n0_ := Aside0.mk (below_step (bl_ HB) hb); have n1_ := Aside0.mk (hbox); have n2_ := Aside0.mk (gl_ hg HB); have n3_ := Aside0.mk (gl_ hg HB); clear HB; have HB := n0_; have BK184 := n1_; have GW184 := n2_; have GE184 := n3_; clear n0_ n1_ n2_ n3_; clear hb hbox hg; have hcz6_0 : w5.cell? ⟨gb184, 0, none⟩ = some (.int .u64 a0_0) := (blk_cell BK184.out 0).trans rfl; have hcz6_1 : w5.cell? ⟨gb184, 1, none⟩ = some (.int .i64 a0_1) := (blk_cell BK184.out 1).trans rfl; have hcz6_2 : w5.cell? ⟨gb184, 2, none⟩ = some (.slice A0_2 l0_2.length c0_2) := (blk_cell BK184.out 2).trans rfl; have hfz6_0 := blk_frozen BK184.out 0; have hfz6_1 := blk_frozen BK184.out 1; have hfz6_2 := blk_frozen BK184.out 2) | (go_at_call 17; (with_reducible refine (least_Right.calls k a0_0 a0_1 _ _ l0_2 true _ ?side1 ?side2 A3.out).mono ?_); (case side1 => repeat (first | exact (Kd.C_below HR0_2.out HB.out) | (with_reducible refine Kd.C_alloc ?_ _) | (with_reducible refine Kd.C_drewN ?_ _) | (with_reducible refine Kd.C_drew ?_))); (case side2 => exact HC0_2.out); rintro e w7 ⟨rfl, hb⟩; have n0_ := Aside0.mk (blk_below (bk_ BK184) hb); have n1_ := Aside0.mk (below_step (bl_ HB) hb); clear BK184; clear HB; have BK184 := n0_; have HB := n1_; clear n0_ n1_; (try clear hb); (try clear hb2); (try clear hk); (try clear hi); have hcz8_0 : w7.cell? ⟨gb184, 0, none⟩ = some (.int .u64 a0_0) := (blk_cell BK184.out 0).trans rfl; have hcz8_1 : w7.cell? ⟨gb184, 1, none⟩ = some (.int .i64 a0_1) := (blk_cell BK184.out 1).trans rfl; have hcz8_2 : w7.cell? ⟨gb184, 2, none⟩ = some (.slice A0_2 l0_2.length c0_2) := (blk_cell BK184.out 2).trans rfl; have hfz8_0 := blk_frozen BK184.out 0; have hfz8_1 := blk_frozen BK184.out 1; have hfz8_2 := blk_frozen BK184.out 2))
  repeat (go_quiet (first | ((with_reducible refine gate_dst (N := 2) rfl ?_); refine box_event ?hg (N := 2) ?hd (cs := #[.int .u64 a0_0, .int .i64 a0_1, .slice A0_2 l0_2.length c0_2]) (t := 25) ?hr ?_; (case hd => rfl); (case hg => rfl); (case hr => first | (go_simp; done) | (go_simp; rfl)); intro gb184 hg w5 hbox hb; have n0_ := Aside0.mk (below_step (bl_ HB) hb); have n1_ := Aside0.mk (hbox); have n2_ := Aside0.mk (gl_ hg HB); have n3_ := Aside0.mk (gl_ hg HB); clear HB; have HB := n0_; have BK184 := n1_; have GW184 := n2_; have GE184 := n3_; clear n0_ n1_ n2_ n3_; clear hb hbox hg; have hcz6_0 : w5.cell? ⟨gb184, 0, none⟩ = some (.int .u64 a0_0) := (blk_cell BK184.out 0).trans rfl; have hcz6_1 : w5.cell? ⟨gb184, 1, none⟩ = some (.int .i64 a0_1) := (blk_cell BK184.out 1).trans rfl; have hcz6_2 : w5.cell? ⟨gb184, 2, none⟩ = some (.slice A0_2 l0_2.length c0_2) := (blk_cell BK184.out 2).trans rfl; have hfz6_0 := blk_frozen BK184.out 0; have hfz6_1 := blk_frozen BK184.out 1; have hfz6_2 := blk_frozen BK184.out 2) | (go_at_call 17; (with_reducible refine (least_Right.calls k a0_0 a0_1 _ _ l0_2 true _ ?side1 ?side2 A3.out).mono ?_); (case side1 => repeat (first | exact (Kd.C_below HR0_2.out HB.out) | (with_reducible refine Kd.C_alloc ?_ _) | (with_reducible refine Kd.C_drewN ?_ _) | (with_reducible refine Kd.C_drew ?_))); (case side2 => exact HC0_2.out); rintro e w7 ⟨rfl, hb⟩; have n0_ := Aside0.mk (blk_below (bk_ BK184) hb); have n1_ := Aside0.mk (below_step (bl_ HB) hb); clear BK184; clear HB; have BK184 := n0_; have HB := n1_; clear n0_ n1_; (try clear hb); (try clear hb2); (try clear hk); (try clear hi); have hcz8_0 : w7.cell? ⟨gb184, 0, none⟩ = some (.int .u64 a0_0) := (blk_cell BK184.out 0).trans rfl; have hcz8_1 : w7.cell? ⟨gb184, 1, none⟩ = some (.int .i64 a0_1) := (blk_cell BK184.out 1).trans rfl; have hcz8_2 : w7.cell? ⟨gb184, 2, none⟩ = some (.slice A0_2 l0_2.length c0_2) := (blk_cell BK184.out 2).trans rfl; have hfz8_0 := blk_frozen BK184.out 0; have hfz8_1 := blk_frozen BK184.out 1; have hfz8_2 := blk_frozen BK184.out 2)); try go_wp2_with (first | ((with_reducible refine gate_dst (N := 2) rfl ?_); refine box_event ?hg (N := 2) ?hd (cs := #[.int .u64 a0_0, .int .i64 a0_1, .slice A0_2 l0_2.length c0_2]) (t := 25) ?hr ?_; (case hd => rfl); (case hg => rfl); (case hr => first | (go_simp; done) | (go_simp; rfl)); intro gb184 hg w5 hbox hb; have n0_ := Aside0.mk (below_step (bl_ HB) hb); have n1_ := Aside0.mk (hbox); have n2_ := Aside0.mk (gl_ hg HB); have n3_ := Aside0.mk (gl_ hg HB); clear HB; have HB := n0_; have BK184 := n1_; have GW184 := n2_; have GE184 := n3_; clear n0_ n1_ n2_ n3_; clear hb hbox hg; have hcz6_0 : w5.cell? ⟨gb184, 0, none⟩ = some (.int .u64 a0_0) := (blk_cell BK184.out 0).trans rfl; have hcz6_1 : w5.cell? ⟨gb184, 1, none⟩ = some (.int .i64 a0_1) := (blk_cell BK184.out 1).trans rfl; have hcz6_2 : w5.cell? ⟨gb184, 2, none⟩ = some (.slice A0_2 l0_2.length c0_2) := (blk_cell BK184.out 2).trans rfl; have hfz6_0 := blk_frozen BK184.out 0; have hfz6_1 := blk_frozen BK184.out 1; have hfz6_2 := blk_frozen BK184.out 2) | (go_at_call 17; (with_reducible refine (least_Right.calls k a0_0 a0_1 _ _ l0_2 true _ ?side1 ?side2 A3.out).mono ?_); (case side1 => repeat (first | exact (Kd.C_below HR0_2.out HB.out) | (with_reducible refine Kd.C_alloc ?_ _) | (with_reducible refine Kd.C_drewN ?_ _) | (with_reducible refine Kd.C_drew ?_))); (case side2 => exact HC0_2.out); rintro e w7 ⟨rfl, hb⟩; have n0_ := Aside0.mk (blk_below (bk_ BK184) hb); have n1_ := Aside0.mk (below_step (bl_ HB) hb); clear BK184; clear HB; have BK184 := n0_; have HB := n1_; clear n0_ n1_; (try clear hb); (try clear hb2); (try clear hk); (try clear hi); have hcz8_0 : w7.cell? ⟨gb184, 0, none⟩ = some (.int .u64 a0_0) := (blk_cell BK184.out 0).trans rfl; have hcz8_1 : w7.cell? ⟨gb184, 1, none⟩ = some (.int .i64 a0_1) := (blk_cell BK184.out 1).trans rfl; have hcz8_2 : w7.cell? ⟨gb184, 2, none⟩ = some (.slice A0_2 l0_2.length c0_2) := (blk_cell BK184.out 2).trans rfl; have hfz8_0 := blk_frozen BK184.out 0; have hfz8_1 := blk_frozen BK184.out 1; have hfz8_2 := blk_frozen BK184.out 2)))
  go_loopg [6, 17] k (fun kq v6 v17 w' => ∃ (x6_1 : Int) (x17_1 : Int), v6 = .int .i64 x6_1 ∧ v17 = .int .i64 x17_1 ∧ Aside0 (least_Get.l0 kq a1 x6_1 l0_2 (l0_2.length : Int) x17_1 a0_0 a0_1 l0_2 = some (r1, r2)) ∧ Aside0 (kq ≤ k) ∧ Aside0 (w'.heap[gb184]? = some (.cells #[.int .u64 a0_0, .int .i64 a0_1, (.slice A0_2 l0_2.length c0_2)] 25 (0, 0))) ∧ Aside0 (Below w.heap.size w w'))
  case atStart => exact ⟨(a0_1), (0), (by first | rfl | (simp; done) | (simp [*]; done)), (by first | rfl | (simp; done) | (simp [*]; done)), H', ⟨Nat.le_refl _⟩, ⟨bk_ BK184⟩, ⟨bl_ HB⟩⟩
  case round =>
   clear H'; (try clear c1); (try clear p2); (try clear c4); (try clear hcz6_0); (try clear hcz6_1); (try clear hcz6_2); (try clear hcz8_0); (try clear hcz8_1); (try clear hcz8_2); (try clear hfz6_0); (try clear hfz6_1); (try clear hfz6_2); (try clear hfz8_0); (try clear hfz8_1); (try clear hfz8_2); obtain ⟨x6_1, x17_1, rfl, rfl, HA, HK1, BK184, HB⟩ := hrel
   cases gk with
   | zero => exact absurd HA.out (by simp [least_Get.l0])
   | succ k1 =>
    have H := HA.out; clear HA; simp only [least_Get.l0] at H
    by_cases c9 : x17_1 < (l0_2.length : Int)
    ·rw [if_pos c9] at H; have c9b0 : decide (x17_1 < (l0_2.length : Int)) = true := decide_eq_true c9; clear c9
     by_cases c10 : 0 ≤ x17_1
     ·rw [if_pos c10] at H; have c10b0 : decide (0 ≤ x17_1) = true := decide_eq_true c10; clear c10
      by_cases c11 : x17_1 < (l0_2.length : Int)
      ·rw [if_pos c11] at H; have c11b0 : decide (x17_1 < (l0_2.length : Int)) = true := decide_eq_true c11; clear c11; replace H := Option.bind_eq_some_iff.mp H; obtain ⟨t187, A120, H⟩ := H; replace H : ((hash_Cell.f k1 t187 a1 ((rd_L1 l0_2 x17_1).length : Int)).bind fun t188 => (if 0 ≤ t188 then (if t188 < ((rd_L1 l0_2 x17_1).length : Int) then (least_Get.l0 k1 a1 (mn x6_1 (rd (rd_L1 l0_2 x17_1) t188)) l0_2 (l0_2.length : Int) (wrap64 (x17_1 + 1)) a0_0 a0_1 l0_2) else (none)) else (none))) = some (r1, r2) := H; have A12 := Aside0.mk A120; clear A120; replace H := Option.bind_eq_some_iff.mp H; obtain ⟨t188, A130, H⟩ := H; replace H : (if 0 ≤ t188 then (if t188 < ((rd_L1 l0_2 x17_1).length : Int) then (least_Get.l0 k1 a1 (mn x6_1 (rd (rd_L1 l0_2 x17_1) t188)) l0_2 (l0_2.length : Int) (wrap64 (x17_1 + 1)) a0_0 a0_1 l0_2) else (none)) else (none)) = some (r1, r2) := H; have A13 := Aside0.mk A130; clear A130
       by_cases c14 : 0 ≤ t188
       ·rw [if_pos c14] at H; have c14b0 : decide (0 ≤ t188) = true := decide_eq_true c14; clear c14
        by_cases c15 : t188 < ((rd_L1 l0_2 x17_1).length : Int)
        ·rw [if_pos c15] at H; have c15b0 : decide (t188 < ((rd_L1 l0_2 x17_1).length : Int)) = true := decide_eq_true c15; clear c15; obtain ⟨ji16, hji16⟩ : ∃ j_ : Int, (mn x6_1 (rd (rd_L1 l0_2 x17_1) t188)) = j_ := ⟨_, rfl⟩
         replace H : (least_Get.l0 k1 a1 ji16 l0_2 (l0_2.length : Int) (wrap64 (x17_1 + 1)) a0_0 a0_1 l0_2) = some (r1, r2) := by first | (rw [hji16] at H; exact H) | (simp only [hji16] at H ⊢; exact H)
         (try rw [hji16] at A12); (try rw [hji16] at A13); have hji16_ : (if (rd (rd_L1 l0_2 x17_1) t188) < x6_1 then (rd (rd_L1 l0_2 x17_1) t188) else x6_1) = ji16 := hji16; have H' := Aside0.mk H; clear H; have p186 : 0 ≤ (x17_1 : Int) := of_decide_eq_true (by first | (with_reducible assumption) | assumption); have q186 : x17_1 < (l0_2.length : Int) := of_decide_eq_true (by first | (with_reducible assumption) | assumption); obtain ⟨ad186, A186_0, c186_0, e186, hx186_0, hl186_0, hi186_0⟩ := at_L1 HR0_2.out x17_1 p186 q186
         cases e186; (try replace hx186_0 := (HB.out.cell (World.block_lt_of_cell? w _ hx186_0)).trans hx186_0); have HR186_0 := Aside0.mk hi186_0; have HC186_0 := Aside0.mk hl186_0; clear hi186_0 hl186_0; replace p186 := eq_true p186; replace q186 := eq_true q186; have hcz17_0 : wr.cell? ⟨gb184, 0, none⟩ = some (.int .u64 a0_0) := (blk_cell BK184.out 0).trans rfl; have hcz17_1 : wr.cell? ⟨gb184, 1, none⟩ = some (.int .i64 a0_1) := (blk_cell BK184.out 1).trans rfl; have hcz17_2 : wr.cell? ⟨gb184, 2, none⟩ = some (.slice (some ad186) l0_2.length c0_2) := (blk_cell BK184.out 2).trans rfl; have hfz17_0 := blk_frozen BK184.out 0; have hfz17_1 := blk_frozen BK184.out 1; have hfz17_2 := blk_frozen BK184.out 2
         go_wp2_with (first | (go_at_call 28; (with_reducible refine (hash_Row.calls a0_0 x17_1 t187 _ A12.out).mono ?_); rintro e w18 ⟨rfl, hb⟩; have n0_ := Aside0.mk (blk_below (bk_ BK184) hb); have n1_ := Aside0.mk (below_step (bl_ HB) hb); clear BK184; clear HB; have BK184 := n0_; have HB := n1_; clear n0_ n1_; (try clear hb); (try clear hb2); (try clear hk); (try clear hi)) | (go_at_call 27; (with_reducible refine (hash_Cell.calls k1 t187 a1 ((rd_L1 l0_2 x17_1).length : Int) t188 _ A13.out).mono ?_); rintro e w' ⟨rfl, ⟨nd, rfl⟩⟩; (try first | exact ⟨rfl, _, World.drewN_drewN _ _ _⟩ | exact ⟨rfl, _, Eq.trans (World.drewN_drewN _ _ _) (congrArg (World.drewN _) (Nat.add_assoc _ _ _))⟩); have p189 : 0 ≤ (t188 : Int) := of_decide_eq_true (by first | (with_reducible assumption) | assumption); have q189 : t188 < ((rd_L1 l0_2 x17_1).length : Int) := of_decide_eq_true (by first | (with_reducible assumption) | assumption); obtain ⟨ad189, e189, hx189_0⟩ := Kd.at_int HR186_0.out t188 p189 q189; cases e189; replace hx189_0 := (HB.out.cell (World.block_lt_of_cell? w _ hx189_0)).trans hx189_0; replace p189 := eq_true p189; replace q189 := eq_true q189))
         repeat (go_quiet (first | (go_at_call 28; (with_reducible refine (hash_Row.calls a0_0 x17_1 t187 _ A12.out).mono ?_); rintro e w18 ⟨rfl, hb⟩; have n0_ := Aside0.mk (blk_below (bk_ BK184) hb); have n1_ := Aside0.mk (below_step (bl_ HB) hb); clear BK184; clear HB; have BK184 := n0_; have HB := n1_; clear n0_ n1_; (try clear hb); (try clear hb2); (try clear hk); (try clear hi)) | (go_at_call 27; (with_reducible refine (hash_Cell.calls k1 t187 a1 ((rd_L1 l0_2 x17_1).length : Int) t188 _ A13.out).mono ?_); rintro e w' ⟨rfl, ⟨nd, rfl⟩⟩; (try first | exact ⟨rfl, _, World.drewN_drewN _ _ _⟩ | exact ⟨rfl, _, Eq.trans (World.drewN_drewN _ _ _) (congrArg (World.drewN _) (Nat.add_assoc _ _ _))⟩); have p189 : 0 ≤ (t188 : Int) := of_decide_eq_true (by first | (with_reducible assumption) | assumption); have q189 : t188 < ((rd_L1 l0_2 x17_1).length : Int) := of_decide_eq_true (by first | (with_reducible assumption) | assumption); obtain ⟨ad189, e189, hx189_0⟩ := Kd.at_int HR186_0.out t188 p189 q189; cases e189; replace hx189_0 := (HB.out.cell (World.block_lt_of_cell? w _ hx189_0)).trans hx189_0; replace p189 := eq_true p189; replace q189 := eq_true q189)); try go_wp2_with (first | (go_at_call 28; (with_reducible refine (hash_Row.calls a0_0 x17_1 t187 _ A12.out).mono ?_); rintro e w18 ⟨rfl, hb⟩; have n0_ := Aside0.mk (blk_below (bk_ BK184) hb); have n1_ := Aside0.mk (below_step (bl_ HB) hb); clear BK184; clear HB; have BK184 := n0_; have HB := n1_; clear n0_ n1_; (try clear hb); (try clear hb2); (try clear hk); (try clear hi)) | (go_at_call 27; (with_reducible refine (hash_Cell.calls k1 t187 a1 ((rd_L1 l0_2 x17_1).length : Int) t188 _ A13.out).mono ?_); rintro e w' ⟨rfl, ⟨nd, rfl⟩⟩; (try first | exact ⟨rfl, _, World.drewN_drewN _ _ _⟩ | exact ⟨rfl, _, Eq.trans (World.drewN_drewN _ _ _) (congrArg (World.drewN _) (Nat.add_assoc _ _ _))⟩); have p189 : 0 ≤ (t188 : Int) := of_decide_eq_true (by first | (with_reducible assumption) | assumption); have q189 : t188 < ((rd_L1 l0_2 x17_1).length : Int) := of_decide_eq_true (by first | (with_reducible assumption) | assumption); obtain ⟨ad189, e189, hx189_0⟩ := Kd.at_int HR186_0.out t188 p189 q189; cases e189; replace hx189_0 := (HB.out.cell (World.block_lt_of_cell? w _ hx189_0)).trans hx189_0; replace p189 := eq_true p189; replace q189 := eq_true q189)))
         go_roundg k1
         case measure => have := HK1.out; omega
         case rel => exact ⟨(ji16), (wrap64 (x17_1 + 1)), (by first | rfl | (simp; done) | (simp only [← hji16] <;> (first | rfl | simp)) | (simp [*]; done)), (by first | rfl | (simp; done) | (simp [*]; done)), H', ⟨by have := HK1.out; omega⟩, ⟨bk_ BK184⟩, ⟨bl_ HB⟩⟩
        ·rw [if_neg c15] at H; exact absurd H (by simp)
       ·rw [if_neg c14] at H; exact absurd H (by simp)
      ·rw [if_neg c11] at H; exact absurd H (by simp)
     ·rw [if_neg c10] at H; exact absurd H (by simp)
    ·rw [if_neg c9] at H; have c9b0 : decide (x17_1 < (l0_2.length : Int)) = false := decide_eq_false c9; clear c9; simp only [Option.some.injEq, Prod.mk.injEq] at H; obtain ⟨rfl, rfl⟩ := H; have hcz19_0 : wr.cell? ⟨gb184, 0, none⟩ = some (.int .u64 a0_0) := (blk_cell BK184.out 0).trans rfl; have hcz19_1 : wr.cell? ⟨gb184, 1, none⟩ = some (.int .i64 a0_1) := (blk_cell BK184.out 1).trans rfl; have hcz19_2 : wr.cell? ⟨gb184, 2, none⟩ = some (.slice A0_2 l0_2.length c0_2) := (blk_cell BK184.out 2).trans rfl; have hfz19_0 := blk_frozen BK184.out 0; have hfz19_1 := blk_frozen BK184.out 1; have hfz19_2 := blk_frozen BK184.out 2
     go_wp2
     repeat (go_quiet (fail); try go_wp2)
     go_ret2
     exact ⟨by first | rfl | (simp [errW_none, errW_some] <;> rfl) | (simp [*, errW_none, errW_some] <;> rfl), bl_ HB⟩
 ·replace c4 := Bool.eq_false_iff.mpr c4; subst c4
  have H1 : (some (0, false)) = some (r1, r2) := by rw [if_neg (show ¬ (false = true) by decide)] at H; exact H
  clear H; have H := H1; clear H1; simp only [Option.some.injEq, Prod.mk.injEq] at H; obtain ⟨rfl, rfl⟩ := H
  go_enter Try.func16, Try.ntmps16
  go_wp2_with (first | ((with_reducible refine gate_dst (N := 2) rfl ?_); refine box_event ?hg (N := 2) ?hd (cs := #[.int .u64 a0_0, .int .i64 a0_1, .slice A0_2 l0_2.length c0_2]) (t := 25) ?hr ?_; (case hd => rfl); (case hg => rfl); (case hr => first | (go_simp; done) | (go_simp; rfl)); intro gb184 hg w20 hbox hb; have n0_ := Aside0.mk (below_step (bl_ HB) hb); have n1_ := Aside0.mk (hbox); have n2_ := Aside0.mk (gl_ hg HB); have n3_ := Aside0.mk (gl_ hg HB); clear HB; have HB := n0_; have BK184 := n1_; have GW184 := n2_; have GE184 := n3_; clear n0_ n1_ n2_ n3_; clear hb hbox hg; have hcz21_0 : w20.cell? ⟨gb184, 0, none⟩ = some (.int .u64 a0_0) := (blk_cell BK184.out 0).trans rfl; have hcz21_1 : w20.cell? ⟨gb184, 1, none⟩ = some (.int .i64 a0_1) := (blk_cell BK184.out 1).trans rfl; have hcz21_2 : w20.cell? ⟨gb184, 2, none⟩ = some (.slice A0_2 l0_2.length c0_2) := (blk_cell BK184.out 2).trans rfl; have hfz21_0 := blk_frozen BK184.out 0; have hfz21_1 := blk_frozen BK184.out 1; have hfz21_2 := blk_frozen BK184.out 2) | (go_at_call 17; (with_reducible refine (least_Right.calls k a0_0 a0_1 _ _ l0_2 false _ ?side1 ?side2 A3.out).mono ?_); (case side1 => repeat (first | exact (Kd.C_below HR0_2.out HB.out) | (with_reducible refine Kd.C_alloc ?_ _) | (with_reducible refine Kd.C_drewN ?_ _) | (with_reducible refine Kd.C_drew ?_))); (case side2 => exact HC0_2.out); rintro e w22 ⟨rfl, hb⟩; have n0_ := Aside0.mk (blk_below (bk_ BK184) hb); have n1_ := Aside0.mk (below_step (bl_ HB) hb); clear BK184; clear HB; have BK184 := n0_; have HB := n1_; clear n0_ n1_; (try clear hb); (try clear hb2); (try clear hk); (try clear hi)))
  repeat (go_quiet (first | ((with_reducible refine gate_dst (N := 2) rfl ?_); refine box_event ?hg (N := 2) ?hd (cs := #[.int .u64 a0_0, .int .i64 a0_1, .slice A0_2 l0_2.length c0_2]) (t := 25) ?hr ?_; (case hd => rfl); (case hg => rfl); (case hr => first | (go_simp; done) | (go_simp; rfl)); intro gb184 hg w20 hbox hb; have n0_ := Aside0.mk (below_step (bl_ HB) hb); have n1_ := Aside0.mk (hbox); have n2_ := Aside0.mk (gl_ hg HB); have n3_ := Aside0.mk (gl_ hg HB); clear HB; have HB := n0_; have BK184 := n1_; have GW184 := n2_; have GE184 := n3_; clear n0_ n1_ n2_ n3_; clear hb hbox hg; have hcz21_0 : w20.cell? ⟨gb184, 0, none⟩ = some (.int .u64 a0_0) := (blk_cell BK184.out 0).trans rfl; have hcz21_1 : w20.cell? ⟨gb184, 1, none⟩ = some (.int .i64 a0_1) := (blk_cell BK184.out 1).trans rfl; have hcz21_2 : w20.cell? ⟨gb184, 2, none⟩ = some (.slice A0_2 l0_2.length c0_2) := (blk_cell BK184.out 2).trans rfl; have hfz21_0 := blk_frozen BK184.out 0; have hfz21_1 := blk_frozen BK184.out 1; have hfz21_2 := blk_frozen BK184.out 2) | (go_at_call 17; (with_reducible refine (least_Right.calls k a0_0 a0_1 _ _ l0_2 false _ ?side1 ?side2 A3.out).mono ?_); (case side1 => repeat (first | exact (Kd.C_below HR0_2.out HB.out) | (with_reducible refine Kd.C_alloc ?_ _) | (with_reducible refine Kd.C_drewN ?_ _) | (with_reducible refine Kd.C_drew ?_))); (case side2 => exact HC0_2.out); rintro e w22 ⟨rfl, hb⟩; have n0_ := Aside0.mk (blk_below (bk_ BK184) hb); have n1_ := Aside0.mk (below_step (bl_ HB) hb); clear BK184; clear HB; have BK184 := n0_; have HB := n1_; clear n0_ n1_; (try clear hb); (try clear hb2); (try clear hk); (try clear hi))); try go_wp2_with (first | ((with_reducible refine gate_dst (N := 2) rfl ?_); refine box_event ?hg (N := 2) ?hd (cs := #[.int .u64 a0_0, .int .i64 a0_1, .slice A0_2 l0_2.length c0_2]) (t := 25) ?hr ?_; (case hd => rfl); (case hg => rfl); (case hr => first | (go_simp; done) | (go_simp; rfl)); intro gb184 hg w20 hbox hb; have n0_ := Aside0.mk (below_step (bl_ HB) hb); have n1_ := Aside0.mk (hbox); have n2_ := Aside0.mk (gl_ hg HB); have n3_ := Aside0.mk (gl_ hg HB); clear HB; have HB := n0_; have BK184 := n1_; have GW184 := n2_; have GE184 := n3_; clear n0_ n1_ n2_ n3_; clear hb hbox hg; have hcz21_0 : w20.cell? ⟨gb184, 0, none⟩ = some (.int .u64 a0_0) := (blk_cell BK184.out 0).trans rfl; have hcz21_1 : w20.cell? ⟨gb184, 1, none⟩ = some (.int .i64 a0_1) := (blk_cell BK184.out 1).trans rfl; have hcz21_2 : w20.cell? ⟨gb184, 2, none⟩ = some (.slice A0_2 l0_2.length c0_2) := (blk_cell BK184.out 2).trans rfl; have hfz21_0 := blk_frozen BK184.out 0; have hfz21_1 := blk_frozen BK184.out 1; have hfz21_2 := blk_frozen BK184.out 2) | (go_at_call 17; (with_reducible refine (least_Right.calls k a0_0 a0_1 _ _ l0_2 false _ ?side1 ?side2 A3.out).mono ?_); (case side1 => repeat (first | exact (Kd.C_below HR0_2.out HB.out) | (with_reducible refine Kd.C_alloc ?_ _) | (with_reducible refine Kd.C_drewN ?_ _) | (with_reducible refine Kd.C_drew ?_))); (case side2 => exact HC0_2.out); rintro e w22 ⟨rfl, hb⟩; have n0_ := Aside0.mk (blk_below (bk_ BK184) hb); have n1_ := Aside0.mk (below_step (bl_ HB) hb); clear BK184; clear HB; have BK184 := n0_; have HB := n1_; clear n0_ n1_; (try clear hb); (try clear hb2); (try clear hk); (try clear hi))))
  go_ret2
  exact ⟨by first | rfl | (simp [errW_none, errW_some] <;> rfl) | (simp [*, errW_none, errW_some] <;> rfl), bl_ HB⟩

/-! ### rillmeterlaw11_awake: function 12 -/
def rillmeterlaw11_awake.f (k : Nat)  : Option (Bool) := (least_New.f k 1 2 8 255).bind fun bt190 => ((least_Add.f k bt190.1 bt190.2.1 bt190.2.2.1 (⟨#[97]⟩ : ByteArray) 3).bind fun bt197 => ((least_Add.f k bt197.1 bt197.2.1 bt197.2.2.1 (⟨#[97]⟩ : ByteArray) 4).bind fun bt203 => ((least_Get.f k bt203.1 bt203.2.1 bt203.2.2.1 (⟨#[97]⟩ : ByteArray)).bind fun bt209 => (if bt190.2.2.2 = 0 then (if bt197.2.2.2 = 0 then (if bt203.2.2.2 = 0 then (if bt209.1 = 7 then (some bt209.2) else (some false)) else (some false)) else (some false)) else (some false)))))
theorem rillmeterlaw11_awake.mono : ∀ k, LeO (rillmeterlaw11_awake.f k ) (rillmeterlaw11_awake.f (k + 1) ) := by
  intro  k
  unfold rillmeterlaw11_awake.f
  repeat' first
      | (with_reducible exact least_Add.mono _ _ _ _ _ _)
      | (with_reducible exact least_Get.mono _ _ _ _ _)
      | (with_reducible exact least_New.mono _ _ _ _ _)
      | (with_reducible exact LeO.refl _)
      | (with_reducible exact LeO.none _)
      | (with_reducible refine LeO.ite ?_ ?_)
      | (with_reducible refine LeO.bind ?_ (fun _ => ?_))
      | exact least_Add.mono _ _ _ _ _ _
      | exact least_Get.mono _ _ _ _ _
      | exact least_New.mono _ _ _ _ _
      | exact LeO.none _
      | refine LeO.ite ?_ ?_
      | refine LeO.bind ?_ (fun _ => ?_)
set_option maxHeartbeats 80000000 in
set_option maxRecDepth 100000 in
theorem rillmeterlaw11_awake.calls (k : Nat)  (r : Bool) (w : World) (h : rillmeterlaw11_awake.f k  = some r) :
    Calls Try.prog 12 #[] w fun e w' => e = .returned (.bool r) ∧ Below w.heap.size w w' := by
 have hu25 := Try.underlying25; have HB := Aside0.mk (Below.refl w.heap.size w); have H : ((least_New.f k 1 2 8 255).bind fun bt190 => ((least_Add.f k bt190.1 bt190.2.1 bt190.2.2.1 (⟨#[97]⟩ : ByteArray) 3).bind fun bt197 => ((least_Add.f k bt197.1 bt197.2.1 bt197.2.2.1 (⟨#[97]⟩ : ByteArray) 4).bind fun bt203 => ((least_Get.f k bt203.1 bt203.2.1 bt203.2.2.1 (⟨#[97]⟩ : ByteArray)).bind fun bt209 => (if bt190.2.2.2 = 0 then (if bt197.2.2.2 = 0 then (if bt203.2.2.2 = 0 then (if bt209.1 = 7 then (some bt209.2) else (some false)) else (some false)) else (some false)) else (some false)))))) = some r := h; clear h; replace H := Option.bind_eq_some_iff.mp H; obtain ⟨⟨t190, t191, t192, t195⟩, A10, H⟩ := H; replace H : ((least_Add.f k t190 t191 t192 (⟨#[97]⟩ : ByteArray) 3).bind fun bt197 => ((least_Add.f k bt197.1 bt197.2.1 bt197.2.2.1 (⟨#[97]⟩ : ByteArray) 4).bind fun bt203 => ((least_Get.f k bt203.1 bt203.2.1 bt203.2.2.1 (⟨#[97]⟩ : ByteArray)).bind fun bt209 => (if t195 = 0 then (if bt197.2.2.2 = 0 then (if bt203.2.2.2 = 0 then (if bt209.1 = 7 then (some bt209.2) else (some false)) else (some false)) else (some false)) else (some false))))) = some r := H; have A1 := Aside0.mk A10; clear A10; replace H := Option.bind_eq_some_iff.mp H; obtain ⟨⟨t197, t198, t199, t202⟩, A20, H⟩ := H
 replace H : ((least_Add.f k t197 t198 t199 (⟨#[97]⟩ : ByteArray) 4).bind fun bt203 => ((least_Get.f k bt203.1 bt203.2.1 bt203.2.2.1 (⟨#[97]⟩ : ByteArray)).bind fun bt209 => (if t195 = 0 then (if t202 = 0 then (if bt203.2.2.2 = 0 then (if bt209.1 = 7 then (some bt209.2) else (some false)) else (some false)) else (some false)) else (some false)))) = some r := H; have A2 := Aside0.mk A20; clear A20; replace H := Option.bind_eq_some_iff.mp H; obtain ⟨⟨t203, t204, t205, t208⟩, A30, H⟩ := H; replace H : ((least_Get.f k t203 t204 t205 (⟨#[97]⟩ : ByteArray)).bind fun bt209 => (if t195 = 0 then (if t202 = 0 then (if t208 = 0 then (if bt209.1 = 7 then (some bt209.2) else (some false)) else (some false)) else (some false)) else (some false))) = some r := H; have A3 := Aside0.mk A30; clear A30; replace H := Option.bind_eq_some_iff.mp H; obtain ⟨⟨t209, t210⟩, A40, H⟩ := H; replace H : (if t195 = 0 then (if t202 = 0 then (if t208 = 0 then (if t209 = 7 then (some t210) else (some false)) else (some false)) else (some false)) else (some false)) = some r := H; have A4 := Aside0.mk A40; clear A40
 by_cases c5 : t195 = 0
 ·rw [if_pos c5] at H; have c5b0 : (t195 == 0) = true := beq_iff_eq.mpr c5; have c5b1 : (t195 != 0) = false := bne_eq_false_iff_eq.mpr c5; clear c5
  by_cases c6 : t202 = 0
  ·rw [if_pos c6] at H; have c6b0 : (t202 == 0) = true := beq_iff_eq.mpr c6; have c6b1 : (t202 != 0) = false := bne_eq_false_iff_eq.mpr c6; clear c6
   by_cases c7 : t208 = 0
   ·rw [if_pos c7] at H; have c7b0 : (t208 == 0) = true := beq_iff_eq.mpr c7; have c7b1 : (t208 != 0) = false := bne_eq_false_iff_eq.mpr c7; clear c7
    by_cases c8 : t209 = 7
    ·rw [if_pos c8] at H; have c8b0 : (t209 == 7) = true := beq_iff_eq.mpr c8; have c8b1 : (t209 != 7) = false := bne_eq_false_iff_eq.mpr c8; clear c8; obtain rfl := Option.some.inj H
     go_enter Try.func12, Try.ntmps12
     go_wp2_with (first | ((with_reducible refine gate_callee (f := 9) rfl ?_); refine goesL_ (some 8) rfl rfl Try.func9 (by kernel_rfl) rfl #[.int .u64 1, .int .i64 2, .int .i64 8, .int .i64 255] rfl (by (try simp only [List.map_toArray, List.map_cons, List.map_nil]); first | done | rfl | (simp only [List.length_drop, List.length_take]; rfl)) ?_; (with_reducible refine (least_New.calls k 1 2 8 255 t190 t191 t192 t195 _ A1.out).mono ?_); rintro e w9 ⟨v193, rfl, ho0, hb⟩; refine ⟨_, rfl, ?_⟩; have n0_ := Aside0.mk (Kd.S_lower ho0 (below_size (bl_ HB))); have n1_ := Aside0.mk (below_step (bl_ HB) hb); clear HB; have HO194 := n0_; have HB := n1_; clear n0_ n1_; (try clear hb); (try clear hb2); (try clear hk); (try clear hi); (try clear ho0)) | ((with_reducible refine gate_dst (N := 1) rfl ?_); refine box_event ?hg (N := 1) ?hd (cs := #[.int .u64 0, .int .i64 0, .slice none 0 0]) (t := 25) ?hr ?_; (case hd => rfl); (case hg => rfl); (case hr => first | (go_simp; done) | (go_simp; rfl)); intro gb196 hg w10 hbox hb; have n0_ := Aside0.mk (Kd.S_below (sk_ HO194) hb); have n1_ := Aside0.mk (below_step (bl_ HB) hb); have n2_ := Aside0.mk (hbox); have n3_ := Aside0.mk (gl_ hg HB); have n4_ := Aside0.mk (gl_ hg HB); clear HO194; clear HB; have HO194 := n0_; have HB := n1_; have BK196 := n2_; have GW196 := n3_; have GE196 := n4_; clear n0_ n1_ n2_ n3_ n4_; clear hb hbox hg; have hcz11_0 : w10.cell? ⟨gb196, 0, none⟩ = some (.int .u64 0) := (blk_cell BK196.out 0).trans rfl; have hcz11_1 : w10.cell? ⟨gb196, 1, none⟩ = some (.int .i64 0) := (blk_cell BK196.out 1).trans rfl; have hcz11_2 : w10.cell? ⟨gb196, 2, none⟩ = some (.slice none 0 0) := (blk_cell BK196.out 2).trans rfl; have hfz11_0 := blk_frozen BK196.out 0; have hfz11_1 := blk_frozen BK196.out 1; have hfz11_2 := blk_frozen BK196.out 2; obtain ⟨Ao12, co12, eo12⟩ := Kd.S_slice HO194.out; subst eo12) | ((with_reducible refine gate_callee (f := 15) rfl ?_); refine goesL_ (some 13) rfl rfl Try.func15 (by kernel_rfl) rfl #[.agg #[.int .u64 t190, .int .i64 t191, .slice Ao12 t192.length co12], .string (⟨#[97]⟩ : ByteArray), .int .i64 3] rfl (by (try simp only [List.map_toArray, List.map_cons, List.map_nil]); first | done | rfl | (simp only [List.length_drop, List.length_take]; rfl)) ?_; (with_reducible refine (least_Add.calls k t190 t191 _ _ t192 (⟨#[97]⟩ : ByteArray) 3 t197 t198 t199 t202 _ ?side1 ?side2 A2.out).mono ?_); (case side1 => refine (Kd.S_reads' (e := 33) (base := w.heap.size) (ok := fun k_ => True) (n := t192.length) (c := co12) ?_).2.2; exact (by (with_reducible repeat (first | apply Kd.S_alloc | apply Kd.S_drewN | apply Kd.S_drew)); exact (Kd.S_mono (Kd.S_far (p := ⟨gb196, 2, none⟩) (Kd.S_far (p := ⟨gb196, 1, none⟩) (Kd.S_far (p := ⟨gb196, 0, none⟩) (Kd.S_types HO194.out BK196.out (by decide)) (fun _ hk => hk.2) (.int .u64 t190)) (fun _ hk => hk.2) (.int .i64 t191)) (fun _ hk => hk.2) (.slice Ao12 t192.length co12)) (fun _ h_ => h_.1)))); (case side2 => exact (Kd.S_reads' HO194.out).2.1); rintro e w13 ⟨v200, rfl, ho0, hb⟩; refine ⟨_, rfl, ?_⟩; have n0_ := Aside0.mk (Kd.S_elder' (by (with_reducible repeat (first | apply Kd.S_alloc | apply Kd.S_drewN | apply Kd.S_drew)); exact (Kd.S_mono (Kd.S_far (p := ⟨gb196, 2, none⟩) (Kd.S_far (p := ⟨gb196, 1, none⟩) (Kd.S_far (p := ⟨gb196, 0, none⟩) (Kd.S_types HO194.out BK196.out (by decide)) (fun _ hk => hk.2) (.int .u64 t190)) (fun _ hk => hk.2) (.int .i64 t191)) (fun _ hk => hk.2) (.slice Ao12 t192.length co12)) (fun _ h_ => h_.1))) (Kd.S_base ho0) hb); have n1_ := Aside0.mk (Kd.S_lower (Kd.S_new' ho0 (Kd.S_lt (by (with_reducible repeat (first | apply Kd.S_alloc | apply Kd.S_drewN | apply Kd.S_drew)); exact (Kd.S_mono (Kd.S_far (p := ⟨gb196, 2, none⟩) (Kd.S_far (p := ⟨gb196, 1, none⟩) (Kd.S_far (p := ⟨gb196, 0, none⟩) (Kd.S_types HO194.out BK196.out (by decide)) (fun _ hk => hk.2) (.int .u64 t190)) (fun _ hk => hk.2) (.int .i64 t191)) (fun _ hk => hk.2) (.slice Ao12 t192.length co12)) (fun _ h_ => h_.1))))) (below_size (bl_ HB))); have n2_ := Aside0.mk (blk_below (g := gb196) (o := .cells #[.int .u64 t190, .int .i64 t191, .slice Ao12 t192.length co12] 25 (0, 0)) (by (with_reducible repeat (first | refine blk_drewN ?_ _ | refine blk_drew ?_ | refine blk_alloc ?_ _)); refine blk_put (cs := #[.int .u64 t190, .int .i64 t191, .slice none 0 0]) ?_ 2 _ rfl; (with_reducible repeat (first | refine blk_drewN ?_ _ | refine blk_drew ?_ | refine blk_alloc ?_ _)); refine blk_put (cs := #[.int .u64 t190, .int .i64 0, .slice none 0 0]) ?_ 1 _ rfl; (with_reducible repeat (first | refine blk_drewN ?_ _ | refine blk_drew ?_ | refine blk_alloc ?_ _)); refine blk_put (cs := #[.int .u64 0, .int .i64 0, .slice none 0 0]) ?_ 0 _ rfl; (with_reducible repeat (first | refine blk_drewN ?_ _ | refine blk_drew ?_ | refine blk_alloc ?_ _)); exact BK196.out) hb); have n3_ := Aside0.mk (below_step (bl_ HB) hb); clear HO194; clear BK196; clear HB; have HO194 := n0_; have HO201 := n1_; have BK196 := n2_; have HB := n3_; clear n0_ n1_ n2_ n3_; (try clear hb); (try clear hb2); (try clear hk); (try clear hi); (try clear ho0); have hcz14_0 : w13.cell? ⟨gb196, 0, none⟩ = some (.int .u64 t190) := (blk_cell BK196.out 0).trans rfl; have hcz14_1 : w13.cell? ⟨gb196, 1, none⟩ = some (.int .i64 t191) := (blk_cell BK196.out 1).trans rfl; have hcz14_2 : w13.cell? ⟨gb196, 2, none⟩ = some (.slice Ao12 t192.length co12) := (blk_cell BK196.out 2).trans rfl; have hfz14_0 := blk_frozen BK196.out 0; have hfz14_1 := blk_frozen BK196.out 1; have hfz14_2 := blk_frozen BK196.out 2; obtain ⟨Ao15, co15, eo15⟩ := Kd.S_slice HO201.out; subst eo15) | ((with_reducible refine gate_callee (f := 15) rfl ?_); refine goesL_ (some 18) rfl rfl Try.func15 (by kernel_rfl) rfl #[.agg #[.int .u64 t197, .int .i64 t198, .slice Ao15 t199.length co15], .string (⟨#[97]⟩ : ByteArray), .int .i64 4] rfl (by (try simp only [List.map_toArray, List.map_cons, List.map_nil]); first | done | rfl | (simp only [List.length_drop, List.length_take]; rfl)) ?_; (with_reducible refine (least_Add.calls k t197 t198 _ _ t199 (⟨#[97]⟩ : ByteArray) 4 t203 t204 t205 t208 _ ?side1 ?side2 A3.out).mono ?_); (case side1 => refine (Kd.S_reads' (e := 33) (base := w.heap.size) (ok := fun k_ => (True ∧ some k_ ≠ (.slice Ao12 t192.length co12 : Value).ownBlock)) (n := t199.length) (c := co15) ?_).2.2; exact (by (with_reducible repeat (first | apply Kd.S_alloc | apply Kd.S_drewN | apply Kd.S_drew)); exact (Kd.S_mono (Kd.S_far (p := ⟨gb196, 2, none⟩) (Kd.S_far (p := ⟨gb196, 1, none⟩) (Kd.S_far (p := ⟨gb196, 0, none⟩) (Kd.S_types HO201.out BK196.out (by decide)) (fun _ hk => hk.2) (.int .u64 t197)) (fun _ hk => hk.2) (.int .i64 t198)) (fun _ hk => hk.2) (.slice Ao15 t199.length co15)) (fun _ h_ => h_.1)))); (case side2 => exact (Kd.S_reads' HO201.out).2.1); rintro e w16 ⟨v206, rfl, ho0, hb⟩; refine ⟨_, rfl, ?_⟩; have n0_ := Aside0.mk (Kd.S_elder' (by (with_reducible repeat (first | apply Kd.S_alloc | apply Kd.S_drewN | apply Kd.S_drew)); exact (Kd.S_mono (Kd.S_far (p := ⟨gb196, 2, none⟩) (Kd.S_far (p := ⟨gb196, 1, none⟩) (Kd.S_far (p := ⟨gb196, 0, none⟩) (Kd.S_types HO194.out BK196.out (by decide)) (fun _ hk => hk.2) (.int .u64 t197)) (fun _ hk => hk.2) (.int .i64 t198)) (fun _ hk => hk.2) (.slice Ao15 t199.length co15)) (fun _ h_ => h_.1))) (Kd.S_base ho0) hb); have n1_ := Aside0.mk (Kd.S_elder' (by (with_reducible repeat (first | apply Kd.S_alloc | apply Kd.S_drewN | apply Kd.S_drew)); exact (Kd.S_mono (Kd.S_far (p := ⟨gb196, 2, none⟩) (Kd.S_far (p := ⟨gb196, 1, none⟩) (Kd.S_far (p := ⟨gb196, 0, none⟩) (Kd.S_types HO201.out BK196.out (by decide)) (fun _ hk => hk.2) (.int .u64 t197)) (fun _ hk => hk.2) (.int .i64 t198)) (fun _ hk => hk.2) (.slice Ao15 t199.length co15)) (fun _ h_ => h_.1))) (Kd.S_base ho0) hb); have n2_ := Aside0.mk (Kd.S_lower (Kd.S_new' (Kd.S_new' ho0 (Kd.S_lt (by (with_reducible repeat (first | apply Kd.S_alloc | apply Kd.S_drewN | apply Kd.S_drew)); exact (Kd.S_mono (Kd.S_far (p := ⟨gb196, 2, none⟩) (Kd.S_far (p := ⟨gb196, 1, none⟩) (Kd.S_far (p := ⟨gb196, 0, none⟩) (Kd.S_types HO194.out BK196.out (by decide)) (fun _ hk => hk.2) (.int .u64 t197)) (fun _ hk => hk.2) (.int .i64 t198)) (fun _ hk => hk.2) (.slice Ao15 t199.length co15)) (fun _ h_ => h_.1))))) (Kd.S_lt (by (with_reducible repeat (first | apply Kd.S_alloc | apply Kd.S_drewN | apply Kd.S_drew)); exact (Kd.S_mono (Kd.S_far (p := ⟨gb196, 2, none⟩) (Kd.S_far (p := ⟨gb196, 1, none⟩) (Kd.S_far (p := ⟨gb196, 0, none⟩) (Kd.S_types HO201.out BK196.out (by decide)) (fun _ hk => hk.2) (.int .u64 t197)) (fun _ hk => hk.2) (.int .i64 t198)) (fun _ hk => hk.2) (.slice Ao15 t199.length co15)) (fun _ h_ => h_.1))))) (below_size (bl_ HB))); have n3_ := Aside0.mk (blk_below (g := gb196) (o := .cells #[.int .u64 t197, .int .i64 t198, .slice Ao15 t199.length co15] 25 (0, 0)) (by (with_reducible repeat (first | refine blk_drewN ?_ _ | refine blk_drew ?_ | refine blk_alloc ?_ _)); refine blk_put (cs := #[.int .u64 t197, .int .i64 t198, .slice Ao12 t192.length co12]) ?_ 2 _ rfl; (with_reducible repeat (first | refine blk_drewN ?_ _ | refine blk_drew ?_ | refine blk_alloc ?_ _)); refine blk_put (cs := #[.int .u64 t197, .int .i64 t191, .slice Ao12 t192.length co12]) ?_ 1 _ rfl; (with_reducible repeat (first | refine blk_drewN ?_ _ | refine blk_drew ?_ | refine blk_alloc ?_ _)); refine blk_put (cs := #[.int .u64 t190, .int .i64 t191, .slice Ao12 t192.length co12]) ?_ 0 _ rfl; (with_reducible repeat (first | refine blk_drewN ?_ _ | refine blk_drew ?_ | refine blk_alloc ?_ _)); exact BK196.out) hb); have n4_ := Aside0.mk (below_step (bl_ HB) hb); clear HO194; clear HO201; clear BK196; clear HB; have HO194 := n0_; have HO201 := n1_; have HO207 := n2_; have BK196 := n3_; have HB := n4_; clear n0_ n1_ n2_ n3_ n4_; (try clear hb); (try clear hb2); (try clear hk); (try clear hi); (try clear ho0); have hcz17_0 : w16.cell? ⟨gb196, 0, none⟩ = some (.int .u64 t197) := (blk_cell BK196.out 0).trans rfl; have hcz17_1 : w16.cell? ⟨gb196, 1, none⟩ = some (.int .i64 t198) := (blk_cell BK196.out 1).trans rfl; have hcz17_2 : w16.cell? ⟨gb196, 2, none⟩ = some (.slice Ao15 t199.length co15) := (blk_cell BK196.out 2).trans rfl; have hfz17_0 := blk_frozen BK196.out 0; have hfz17_1 := blk_frozen BK196.out 1; have hfz17_2 := blk_frozen BK196.out 2; obtain ⟨Ao18, co18, eo18⟩ := Kd.S_slice HO207.out; subst eo18) | ((with_reducible refine gate_callee (f := 16) rfl ?_); refine goesL_ (some 23) rfl rfl Try.func16 (by kernel_rfl) rfl #[.agg #[.int .u64 t203, .int .i64 t204, .slice Ao18 t205.length co18], .string (⟨#[97]⟩ : ByteArray)] rfl (by (try simp only [List.map_toArray, List.map_cons, List.map_nil]); first | done | rfl | (simp only [List.length_drop, List.length_take]; rfl)) ?_; (with_reducible refine (least_Get.calls k t203 t204 _ _ t205 (⟨#[97]⟩ : ByteArray) t209 t210 _ ?side1 ?side2 A4.out).mono ?_); (case side1 => refine (Kd.S_reads' (e := 33) (base := w.heap.size) (ok := fun k_ => ((True ∧ some k_ ≠ (.slice Ao12 t192.length co12 : Value).ownBlock) ∧ some k_ ≠ (.slice Ao15 t199.length co15 : Value).ownBlock)) (n := t205.length) (c := co18) ?_).2.2; exact (by (with_reducible repeat (first | apply Kd.S_alloc | apply Kd.S_drewN | apply Kd.S_drew)); exact (Kd.S_mono (Kd.S_far (p := ⟨gb196, 2, none⟩) (Kd.S_far (p := ⟨gb196, 1, none⟩) (Kd.S_far (p := ⟨gb196, 0, none⟩) (Kd.S_types HO207.out BK196.out (by decide)) (fun _ hk => hk.2) (.int .u64 t203)) (fun _ hk => hk.2) (.int .i64 t204)) (fun _ hk => hk.2) (.slice Ao18 t205.length co18)) (fun _ h_ => h_.1)))); (case side2 => exact (Kd.S_reads' HO207.out).2.1); rintro e w19 ⟨rfl, hb⟩; refine ⟨_, rfl, ?_⟩; have n0_ := Aside0.mk (Kd.S_below (by (with_reducible repeat (first | apply Kd.S_alloc | apply Kd.S_drewN | apply Kd.S_drew)); exact (Kd.S_mono (Kd.S_far (p := ⟨gb196, 2, none⟩) (Kd.S_far (p := ⟨gb196, 1, none⟩) (Kd.S_far (p := ⟨gb196, 0, none⟩) (Kd.S_types HO194.out BK196.out (by decide)) (fun _ hk => hk.2) (.int .u64 t203)) (fun _ hk => hk.2) (.int .i64 t204)) (fun _ hk => hk.2) (.slice Ao18 t205.length co18)) (fun _ h_ => h_.1))) hb); have n1_ := Aside0.mk (Kd.S_below (by (with_reducible repeat (first | apply Kd.S_alloc | apply Kd.S_drewN | apply Kd.S_drew)); exact (Kd.S_mono (Kd.S_far (p := ⟨gb196, 2, none⟩) (Kd.S_far (p := ⟨gb196, 1, none⟩) (Kd.S_far (p := ⟨gb196, 0, none⟩) (Kd.S_types HO201.out BK196.out (by decide)) (fun _ hk => hk.2) (.int .u64 t203)) (fun _ hk => hk.2) (.int .i64 t204)) (fun _ hk => hk.2) (.slice Ao18 t205.length co18)) (fun _ h_ => h_.1))) hb); have n2_ := Aside0.mk (Kd.S_below (by (with_reducible repeat (first | apply Kd.S_alloc | apply Kd.S_drewN | apply Kd.S_drew)); exact (Kd.S_mono (Kd.S_far (p := ⟨gb196, 2, none⟩) (Kd.S_far (p := ⟨gb196, 1, none⟩) (Kd.S_far (p := ⟨gb196, 0, none⟩) (Kd.S_types HO207.out BK196.out (by decide)) (fun _ hk => hk.2) (.int .u64 t203)) (fun _ hk => hk.2) (.int .i64 t204)) (fun _ hk => hk.2) (.slice Ao18 t205.length co18)) (fun _ h_ => h_.1))) hb); have n3_ := Aside0.mk (blk_below (g := gb196) (o := .cells #[.int .u64 t203, .int .i64 t204, .slice Ao18 t205.length co18] 25 (0, 0)) (by (with_reducible repeat (first | refine blk_drewN ?_ _ | refine blk_drew ?_ | refine blk_alloc ?_ _)); refine blk_put (cs := #[.int .u64 t203, .int .i64 t204, .slice Ao15 t199.length co15]) ?_ 2 _ rfl; (with_reducible repeat (first | refine blk_drewN ?_ _ | refine blk_drew ?_ | refine blk_alloc ?_ _)); refine blk_put (cs := #[.int .u64 t203, .int .i64 t198, .slice Ao15 t199.length co15]) ?_ 1 _ rfl; (with_reducible repeat (first | refine blk_drewN ?_ _ | refine blk_drew ?_ | refine blk_alloc ?_ _)); refine blk_put (cs := #[.int .u64 t197, .int .i64 t198, .slice Ao15 t199.length co15]) ?_ 0 _ rfl; (with_reducible repeat (first | refine blk_drewN ?_ _ | refine blk_drew ?_ | refine blk_alloc ?_ _)); exact BK196.out) hb); have n4_ := Aside0.mk (below_step (bl_ HB) hb); clear HO194; clear HO201; clear HO207; clear BK196; clear HB; have HO194 := n0_; have HO201 := n1_; have HO207 := n2_; have BK196 := n3_; have HB := n4_; clear n0_ n1_ n2_ n3_ n4_; (try clear hb); (try clear hb2); (try clear hk); (try clear hi)))
     go_ret; exact ⟨by first | rfl | (simp [errW_none, errW_some] <;> rfl) | (simp [*, errW_none, errW_some] <;> rfl), bl_ HB⟩
    ·rw [if_neg c8] at H; have c8b0 : (t209 == 7) = false := beq_eq_false_iff_ne.mpr c8; have c8b1 : (t209 != 7) = true := bne_iff_ne.mpr c8; obtain rfl := Option.some.inj H
     go_enter Try.func12, Try.ntmps12
     go_wp2_with (first | ((with_reducible refine gate_callee (f := 9) rfl ?_); refine goesL_ (some 8) rfl rfl Try.func9 (by kernel_rfl) rfl #[.int .u64 1, .int .i64 2, .int .i64 8, .int .i64 255] rfl (by (try simp only [List.map_toArray, List.map_cons, List.map_nil]); first | done | rfl | (simp only [List.length_drop, List.length_take]; rfl)) ?_; (with_reducible refine (least_New.calls k 1 2 8 255 t190 t191 t192 t195 _ A1.out).mono ?_); rintro e w20 ⟨v193, rfl, ho0, hb⟩; refine ⟨_, rfl, ?_⟩; have n0_ := Aside0.mk (Kd.S_lower ho0 (below_size (bl_ HB))); have n1_ := Aside0.mk (below_step (bl_ HB) hb); clear HB; have HO194 := n0_; have HB := n1_; clear n0_ n1_; (try clear hb); (try clear hb2); (try clear hk); (try clear hi); (try clear ho0)) | ((with_reducible refine gate_dst (N := 1) rfl ?_); refine box_event ?hg (N := 1) ?hd (cs := #[.int .u64 0, .int .i64 0, .slice none 0 0]) (t := 25) ?hr ?_; (case hd => rfl); (case hg => rfl); (case hr => first | (go_simp; done) | (go_simp; rfl)); intro gb196 hg w21 hbox hb; have n0_ := Aside0.mk (Kd.S_below (sk_ HO194) hb); have n1_ := Aside0.mk (below_step (bl_ HB) hb); have n2_ := Aside0.mk (hbox); have n3_ := Aside0.mk (gl_ hg HB); have n4_ := Aside0.mk (gl_ hg HB); clear HO194; clear HB; have HO194 := n0_; have HB := n1_; have BK196 := n2_; have GW196 := n3_; have GE196 := n4_; clear n0_ n1_ n2_ n3_ n4_; clear hb hbox hg; have hcz22_0 : w21.cell? ⟨gb196, 0, none⟩ = some (.int .u64 0) := (blk_cell BK196.out 0).trans rfl; have hcz22_1 : w21.cell? ⟨gb196, 1, none⟩ = some (.int .i64 0) := (blk_cell BK196.out 1).trans rfl; have hcz22_2 : w21.cell? ⟨gb196, 2, none⟩ = some (.slice none 0 0) := (blk_cell BK196.out 2).trans rfl; have hfz22_0 := blk_frozen BK196.out 0; have hfz22_1 := blk_frozen BK196.out 1; have hfz22_2 := blk_frozen BK196.out 2; obtain ⟨Ao23, co23, eo23⟩ := Kd.S_slice HO194.out; subst eo23) | ((with_reducible refine gate_callee (f := 15) rfl ?_); refine goesL_ (some 13) rfl rfl Try.func15 (by kernel_rfl) rfl #[.agg #[.int .u64 t190, .int .i64 t191, .slice Ao23 t192.length co23], .string (⟨#[97]⟩ : ByteArray), .int .i64 3] rfl (by (try simp only [List.map_toArray, List.map_cons, List.map_nil]); first | done | rfl | (simp only [List.length_drop, List.length_take]; rfl)) ?_; (with_reducible refine (least_Add.calls k t190 t191 _ _ t192 (⟨#[97]⟩ : ByteArray) 3 t197 t198 t199 t202 _ ?side1 ?side2 A2.out).mono ?_); (case side1 => refine (Kd.S_reads' (e := 33) (base := w.heap.size) (ok := fun k_ => True) (n := t192.length) (c := co23) ?_).2.2; exact (by (with_reducible repeat (first | apply Kd.S_alloc | apply Kd.S_drewN | apply Kd.S_drew)); exact (Kd.S_mono (Kd.S_far (p := ⟨gb196, 2, none⟩) (Kd.S_far (p := ⟨gb196, 1, none⟩) (Kd.S_far (p := ⟨gb196, 0, none⟩) (Kd.S_types HO194.out BK196.out (by decide)) (fun _ hk => hk.2) (.int .u64 t190)) (fun _ hk => hk.2) (.int .i64 t191)) (fun _ hk => hk.2) (.slice Ao23 t192.length co23)) (fun _ h_ => h_.1)))); (case side2 => exact (Kd.S_reads' HO194.out).2.1); rintro e w24 ⟨v200, rfl, ho0, hb⟩; refine ⟨_, rfl, ?_⟩; have n0_ := Aside0.mk (Kd.S_elder' (by (with_reducible repeat (first | apply Kd.S_alloc | apply Kd.S_drewN | apply Kd.S_drew)); exact (Kd.S_mono (Kd.S_far (p := ⟨gb196, 2, none⟩) (Kd.S_far (p := ⟨gb196, 1, none⟩) (Kd.S_far (p := ⟨gb196, 0, none⟩) (Kd.S_types HO194.out BK196.out (by decide)) (fun _ hk => hk.2) (.int .u64 t190)) (fun _ hk => hk.2) (.int .i64 t191)) (fun _ hk => hk.2) (.slice Ao23 t192.length co23)) (fun _ h_ => h_.1))) (Kd.S_base ho0) hb); have n1_ := Aside0.mk (Kd.S_lower (Kd.S_new' ho0 (Kd.S_lt (by (with_reducible repeat (first | apply Kd.S_alloc | apply Kd.S_drewN | apply Kd.S_drew)); exact (Kd.S_mono (Kd.S_far (p := ⟨gb196, 2, none⟩) (Kd.S_far (p := ⟨gb196, 1, none⟩) (Kd.S_far (p := ⟨gb196, 0, none⟩) (Kd.S_types HO194.out BK196.out (by decide)) (fun _ hk => hk.2) (.int .u64 t190)) (fun _ hk => hk.2) (.int .i64 t191)) (fun _ hk => hk.2) (.slice Ao23 t192.length co23)) (fun _ h_ => h_.1))))) (below_size (bl_ HB))); have n2_ := Aside0.mk (blk_below (g := gb196) (o := .cells #[.int .u64 t190, .int .i64 t191, .slice Ao23 t192.length co23] 25 (0, 0)) (by (with_reducible repeat (first | refine blk_drewN ?_ _ | refine blk_drew ?_ | refine blk_alloc ?_ _)); refine blk_put (cs := #[.int .u64 t190, .int .i64 t191, .slice none 0 0]) ?_ 2 _ rfl; (with_reducible repeat (first | refine blk_drewN ?_ _ | refine blk_drew ?_ | refine blk_alloc ?_ _)); refine blk_put (cs := #[.int .u64 t190, .int .i64 0, .slice none 0 0]) ?_ 1 _ rfl; (with_reducible repeat (first | refine blk_drewN ?_ _ | refine blk_drew ?_ | refine blk_alloc ?_ _)); refine blk_put (cs := #[.int .u64 0, .int .i64 0, .slice none 0 0]) ?_ 0 _ rfl; (with_reducible repeat (first | refine blk_drewN ?_ _ | refine blk_drew ?_ | refine blk_alloc ?_ _)); exact BK196.out) hb); have n3_ := Aside0.mk (below_step (bl_ HB) hb); clear HO194; clear BK196; clear HB; have HO194 := n0_; have HO201 := n1_; have BK196 := n2_; have HB := n3_; clear n0_ n1_ n2_ n3_; (try clear hb); (try clear hb2); (try clear hk); (try clear hi); (try clear ho0); have hcz25_0 : w24.cell? ⟨gb196, 0, none⟩ = some (.int .u64 t190) := (blk_cell BK196.out 0).trans rfl; have hcz25_1 : w24.cell? ⟨gb196, 1, none⟩ = some (.int .i64 t191) := (blk_cell BK196.out 1).trans rfl; have hcz25_2 : w24.cell? ⟨gb196, 2, none⟩ = some (.slice Ao23 t192.length co23) := (blk_cell BK196.out 2).trans rfl; have hfz25_0 := blk_frozen BK196.out 0; have hfz25_1 := blk_frozen BK196.out 1; have hfz25_2 := blk_frozen BK196.out 2; obtain ⟨Ao26, co26, eo26⟩ := Kd.S_slice HO201.out; subst eo26) | ((with_reducible refine gate_callee (f := 15) rfl ?_); refine goesL_ (some 18) rfl rfl Try.func15 (by kernel_rfl) rfl #[.agg #[.int .u64 t197, .int .i64 t198, .slice Ao26 t199.length co26], .string (⟨#[97]⟩ : ByteArray), .int .i64 4] rfl (by (try simp only [List.map_toArray, List.map_cons, List.map_nil]); first | done | rfl | (simp only [List.length_drop, List.length_take]; rfl)) ?_; (with_reducible refine (least_Add.calls k t197 t198 _ _ t199 (⟨#[97]⟩ : ByteArray) 4 t203 t204 t205 t208 _ ?side1 ?side2 A3.out).mono ?_); (case side1 => refine (Kd.S_reads' (e := 33) (base := w.heap.size) (ok := fun k_ => (True ∧ some k_ ≠ (.slice Ao23 t192.length co23 : Value).ownBlock)) (n := t199.length) (c := co26) ?_).2.2; exact (by (with_reducible repeat (first | apply Kd.S_alloc | apply Kd.S_drewN | apply Kd.S_drew)); exact (Kd.S_mono (Kd.S_far (p := ⟨gb196, 2, none⟩) (Kd.S_far (p := ⟨gb196, 1, none⟩) (Kd.S_far (p := ⟨gb196, 0, none⟩) (Kd.S_types HO201.out BK196.out (by decide)) (fun _ hk => hk.2) (.int .u64 t197)) (fun _ hk => hk.2) (.int .i64 t198)) (fun _ hk => hk.2) (.slice Ao26 t199.length co26)) (fun _ h_ => h_.1)))); (case side2 => exact (Kd.S_reads' HO201.out).2.1); rintro e w27 ⟨v206, rfl, ho0, hb⟩; refine ⟨_, rfl, ?_⟩; have n0_ := Aside0.mk (Kd.S_elder' (by (with_reducible repeat (first | apply Kd.S_alloc | apply Kd.S_drewN | apply Kd.S_drew)); exact (Kd.S_mono (Kd.S_far (p := ⟨gb196, 2, none⟩) (Kd.S_far (p := ⟨gb196, 1, none⟩) (Kd.S_far (p := ⟨gb196, 0, none⟩) (Kd.S_types HO194.out BK196.out (by decide)) (fun _ hk => hk.2) (.int .u64 t197)) (fun _ hk => hk.2) (.int .i64 t198)) (fun _ hk => hk.2) (.slice Ao26 t199.length co26)) (fun _ h_ => h_.1))) (Kd.S_base ho0) hb); have n1_ := Aside0.mk (Kd.S_elder' (by (with_reducible repeat (first | apply Kd.S_alloc | apply Kd.S_drewN | apply Kd.S_drew)); exact (Kd.S_mono (Kd.S_far (p := ⟨gb196, 2, none⟩) (Kd.S_far (p := ⟨gb196, 1, none⟩) (Kd.S_far (p := ⟨gb196, 0, none⟩) (Kd.S_types HO201.out BK196.out (by decide)) (fun _ hk => hk.2) (.int .u64 t197)) (fun _ hk => hk.2) (.int .i64 t198)) (fun _ hk => hk.2) (.slice Ao26 t199.length co26)) (fun _ h_ => h_.1))) (Kd.S_base ho0) hb); have n2_ := Aside0.mk (Kd.S_lower (Kd.S_new' (Kd.S_new' ho0 (Kd.S_lt (by (with_reducible repeat (first | apply Kd.S_alloc | apply Kd.S_drewN | apply Kd.S_drew)); exact (Kd.S_mono (Kd.S_far (p := ⟨gb196, 2, none⟩) (Kd.S_far (p := ⟨gb196, 1, none⟩) (Kd.S_far (p := ⟨gb196, 0, none⟩) (Kd.S_types HO194.out BK196.out (by decide)) (fun _ hk => hk.2) (.int .u64 t197)) (fun _ hk => hk.2) (.int .i64 t198)) (fun _ hk => hk.2) (.slice Ao26 t199.length co26)) (fun _ h_ => h_.1))))) (Kd.S_lt (by (with_reducible repeat (first | apply Kd.S_alloc | apply Kd.S_drewN | apply Kd.S_drew)); exact (Kd.S_mono (Kd.S_far (p := ⟨gb196, 2, none⟩) (Kd.S_far (p := ⟨gb196, 1, none⟩) (Kd.S_far (p := ⟨gb196, 0, none⟩) (Kd.S_types HO201.out BK196.out (by decide)) (fun _ hk => hk.2) (.int .u64 t197)) (fun _ hk => hk.2) (.int .i64 t198)) (fun _ hk => hk.2) (.slice Ao26 t199.length co26)) (fun _ h_ => h_.1))))) (below_size (bl_ HB))); have n3_ := Aside0.mk (blk_below (g := gb196) (o := .cells #[.int .u64 t197, .int .i64 t198, .slice Ao26 t199.length co26] 25 (0, 0)) (by (with_reducible repeat (first | refine blk_drewN ?_ _ | refine blk_drew ?_ | refine blk_alloc ?_ _)); refine blk_put (cs := #[.int .u64 t197, .int .i64 t198, .slice Ao23 t192.length co23]) ?_ 2 _ rfl; (with_reducible repeat (first | refine blk_drewN ?_ _ | refine blk_drew ?_ | refine blk_alloc ?_ _)); refine blk_put (cs := #[.int .u64 t197, .int .i64 t191, .slice Ao23 t192.length co23]) ?_ 1 _ rfl; (with_reducible repeat (first | refine blk_drewN ?_ _ | refine blk_drew ?_ | refine blk_alloc ?_ _)); refine blk_put (cs := #[.int .u64 t190, .int .i64 t191, .slice Ao23 t192.length co23]) ?_ 0 _ rfl; (with_reducible repeat (first | refine blk_drewN ?_ _ | refine blk_drew ?_ | refine blk_alloc ?_ _)); exact BK196.out) hb); have n4_ := Aside0.mk (below_step (bl_ HB) hb); clear HO194; clear HO201; clear BK196; clear HB; have HO194 := n0_; have HO201 := n1_; have HO207 := n2_; have BK196 := n3_; have HB := n4_; clear n0_ n1_ n2_ n3_ n4_; (try clear hb); (try clear hb2); (try clear hk); (try clear hi); (try clear ho0); have hcz28_0 : w27.cell? ⟨gb196, 0, none⟩ = some (.int .u64 t197) := (blk_cell BK196.out 0).trans rfl; have hcz28_1 : w27.cell? ⟨gb196, 1, none⟩ = some (.int .i64 t198) := (blk_cell BK196.out 1).trans rfl; have hcz28_2 : w27.cell? ⟨gb196, 2, none⟩ = some (.slice Ao26 t199.length co26) := (blk_cell BK196.out 2).trans rfl; have hfz28_0 := blk_frozen BK196.out 0; have hfz28_1 := blk_frozen BK196.out 1; have hfz28_2 := blk_frozen BK196.out 2; obtain ⟨Ao29, co29, eo29⟩ := Kd.S_slice HO207.out; subst eo29) | ((with_reducible refine gate_callee (f := 16) rfl ?_); refine goesL_ (some 23) rfl rfl Try.func16 (by kernel_rfl) rfl #[.agg #[.int .u64 t203, .int .i64 t204, .slice Ao29 t205.length co29], .string (⟨#[97]⟩ : ByteArray)] rfl (by (try simp only [List.map_toArray, List.map_cons, List.map_nil]); first | done | rfl | (simp only [List.length_drop, List.length_take]; rfl)) ?_; (with_reducible refine (least_Get.calls k t203 t204 _ _ t205 (⟨#[97]⟩ : ByteArray) t209 t210 _ ?side1 ?side2 A4.out).mono ?_); (case side1 => refine (Kd.S_reads' (e := 33) (base := w.heap.size) (ok := fun k_ => ((True ∧ some k_ ≠ (.slice Ao23 t192.length co23 : Value).ownBlock) ∧ some k_ ≠ (.slice Ao26 t199.length co26 : Value).ownBlock)) (n := t205.length) (c := co29) ?_).2.2; exact (by (with_reducible repeat (first | apply Kd.S_alloc | apply Kd.S_drewN | apply Kd.S_drew)); exact (Kd.S_mono (Kd.S_far (p := ⟨gb196, 2, none⟩) (Kd.S_far (p := ⟨gb196, 1, none⟩) (Kd.S_far (p := ⟨gb196, 0, none⟩) (Kd.S_types HO207.out BK196.out (by decide)) (fun _ hk => hk.2) (.int .u64 t203)) (fun _ hk => hk.2) (.int .i64 t204)) (fun _ hk => hk.2) (.slice Ao29 t205.length co29)) (fun _ h_ => h_.1)))); (case side2 => exact (Kd.S_reads' HO207.out).2.1); rintro e w30 ⟨rfl, hb⟩; refine ⟨_, rfl, ?_⟩; have n0_ := Aside0.mk (Kd.S_below (by (with_reducible repeat (first | apply Kd.S_alloc | apply Kd.S_drewN | apply Kd.S_drew)); exact (Kd.S_mono (Kd.S_far (p := ⟨gb196, 2, none⟩) (Kd.S_far (p := ⟨gb196, 1, none⟩) (Kd.S_far (p := ⟨gb196, 0, none⟩) (Kd.S_types HO194.out BK196.out (by decide)) (fun _ hk => hk.2) (.int .u64 t203)) (fun _ hk => hk.2) (.int .i64 t204)) (fun _ hk => hk.2) (.slice Ao29 t205.length co29)) (fun _ h_ => h_.1))) hb); have n1_ := Aside0.mk (Kd.S_below (by (with_reducible repeat (first | apply Kd.S_alloc | apply Kd.S_drewN | apply Kd.S_drew)); exact (Kd.S_mono (Kd.S_far (p := ⟨gb196, 2, none⟩) (Kd.S_far (p := ⟨gb196, 1, none⟩) (Kd.S_far (p := ⟨gb196, 0, none⟩) (Kd.S_types HO201.out BK196.out (by decide)) (fun _ hk => hk.2) (.int .u64 t203)) (fun _ hk => hk.2) (.int .i64 t204)) (fun _ hk => hk.2) (.slice Ao29 t205.length co29)) (fun _ h_ => h_.1))) hb); have n2_ := Aside0.mk (Kd.S_below (by (with_reducible repeat (first | apply Kd.S_alloc | apply Kd.S_drewN | apply Kd.S_drew)); exact (Kd.S_mono (Kd.S_far (p := ⟨gb196, 2, none⟩) (Kd.S_far (p := ⟨gb196, 1, none⟩) (Kd.S_far (p := ⟨gb196, 0, none⟩) (Kd.S_types HO207.out BK196.out (by decide)) (fun _ hk => hk.2) (.int .u64 t203)) (fun _ hk => hk.2) (.int .i64 t204)) (fun _ hk => hk.2) (.slice Ao29 t205.length co29)) (fun _ h_ => h_.1))) hb); have n3_ := Aside0.mk (blk_below (g := gb196) (o := .cells #[.int .u64 t203, .int .i64 t204, .slice Ao29 t205.length co29] 25 (0, 0)) (by (with_reducible repeat (first | refine blk_drewN ?_ _ | refine blk_drew ?_ | refine blk_alloc ?_ _)); refine blk_put (cs := #[.int .u64 t203, .int .i64 t204, .slice Ao26 t199.length co26]) ?_ 2 _ rfl; (with_reducible repeat (first | refine blk_drewN ?_ _ | refine blk_drew ?_ | refine blk_alloc ?_ _)); refine blk_put (cs := #[.int .u64 t203, .int .i64 t198, .slice Ao26 t199.length co26]) ?_ 1 _ rfl; (with_reducible repeat (first | refine blk_drewN ?_ _ | refine blk_drew ?_ | refine blk_alloc ?_ _)); refine blk_put (cs := #[.int .u64 t197, .int .i64 t198, .slice Ao26 t199.length co26]) ?_ 0 _ rfl; (with_reducible repeat (first | refine blk_drewN ?_ _ | refine blk_drew ?_ | refine blk_alloc ?_ _)); exact BK196.out) hb); have n4_ := Aside0.mk (below_step (bl_ HB) hb); clear HO194; clear HO201; clear HO207; clear BK196; clear HB; have HO194 := n0_; have HO201 := n1_; have HO207 := n2_; have BK196 := n3_; have HB := n4_; clear n0_ n1_ n2_ n3_ n4_; (try clear hb); (try clear hb2); (try clear hk); (try clear hi)))
     go_ret; exact ⟨by first | rfl | (simp [errW_none, errW_some] <;> rfl) | (simp [*, errW_none, errW_some] <;> rfl), bl_ HB⟩
   ·rw [if_neg c7] at H; have c7b0 : (t208 == 0) = false := beq_eq_false_iff_ne.mpr c7; have c7b1 : (t208 != 0) = true := bne_iff_ne.mpr c7; obtain rfl := Option.some.inj H
    go_enter Try.func12, Try.ntmps12
    go_wp2_with (first | ((with_reducible refine gate_callee (f := 9) rfl ?_); refine goesL_ (some 8) rfl rfl Try.func9 (by kernel_rfl) rfl #[.int .u64 1, .int .i64 2, .int .i64 8, .int .i64 255] rfl (by (try simp only [List.map_toArray, List.map_cons, List.map_nil]); first | done | rfl | (simp only [List.length_drop, List.length_take]; rfl)) ?_; (with_reducible refine (least_New.calls k 1 2 8 255 t190 t191 t192 t195 _ A1.out).mono ?_); rintro e w31 ⟨v193, rfl, ho0, hb⟩; refine ⟨_, rfl, ?_⟩; have n0_ := Aside0.mk (Kd.S_lower ho0 (below_size (bl_ HB))); have n1_ := Aside0.mk (below_step (bl_ HB) hb); clear HB; have HO194 := n0_; have HB := n1_; clear n0_ n1_; (try clear hb); (try clear hb2); (try clear hk); (try clear hi); (try clear ho0)) | ((with_reducible refine gate_dst (N := 1) rfl ?_); refine box_event ?hg (N := 1) ?hd (cs := #[.int .u64 0, .int .i64 0, .slice none 0 0]) (t := 25) ?hr ?_; (case hd => rfl); (case hg => rfl); (case hr => first | (go_simp; done) | (go_simp; rfl)); intro gb196 hg w32 hbox hb; have n0_ := Aside0.mk (Kd.S_below (sk_ HO194) hb); have n1_ := Aside0.mk (below_step (bl_ HB) hb); have n2_ := Aside0.mk (hbox); have n3_ := Aside0.mk (gl_ hg HB); have n4_ := Aside0.mk (gl_ hg HB); clear HO194; clear HB; have HO194 := n0_; have HB := n1_; have BK196 := n2_; have GW196 := n3_; have GE196 := n4_; clear n0_ n1_ n2_ n3_ n4_; clear hb hbox hg; have hcz33_0 : w32.cell? ⟨gb196, 0, none⟩ = some (.int .u64 0) := (blk_cell BK196.out 0).trans rfl; have hcz33_1 : w32.cell? ⟨gb196, 1, none⟩ = some (.int .i64 0) := (blk_cell BK196.out 1).trans rfl; have hcz33_2 : w32.cell? ⟨gb196, 2, none⟩ = some (.slice none 0 0) := (blk_cell BK196.out 2).trans rfl; have hfz33_0 := blk_frozen BK196.out 0; have hfz33_1 := blk_frozen BK196.out 1; have hfz33_2 := blk_frozen BK196.out 2; obtain ⟨Ao34, co34, eo34⟩ := Kd.S_slice HO194.out; subst eo34) | ((with_reducible refine gate_callee (f := 15) rfl ?_); refine goesL_ (some 13) rfl rfl Try.func15 (by kernel_rfl) rfl #[.agg #[.int .u64 t190, .int .i64 t191, .slice Ao34 t192.length co34], .string (⟨#[97]⟩ : ByteArray), .int .i64 3] rfl (by (try simp only [List.map_toArray, List.map_cons, List.map_nil]); first | done | rfl | (simp only [List.length_drop, List.length_take]; rfl)) ?_; (with_reducible refine (least_Add.calls k t190 t191 _ _ t192 (⟨#[97]⟩ : ByteArray) 3 t197 t198 t199 t202 _ ?side1 ?side2 A2.out).mono ?_); (case side1 => refine (Kd.S_reads' (e := 33) (base := w.heap.size) (ok := fun k_ => True) (n := t192.length) (c := co34) ?_).2.2; exact (by (with_reducible repeat (first | apply Kd.S_alloc | apply Kd.S_drewN | apply Kd.S_drew)); exact (Kd.S_mono (Kd.S_far (p := ⟨gb196, 2, none⟩) (Kd.S_far (p := ⟨gb196, 1, none⟩) (Kd.S_far (p := ⟨gb196, 0, none⟩) (Kd.S_types HO194.out BK196.out (by decide)) (fun _ hk => hk.2) (.int .u64 t190)) (fun _ hk => hk.2) (.int .i64 t191)) (fun _ hk => hk.2) (.slice Ao34 t192.length co34)) (fun _ h_ => h_.1)))); (case side2 => exact (Kd.S_reads' HO194.out).2.1); rintro e w35 ⟨v200, rfl, ho0, hb⟩; refine ⟨_, rfl, ?_⟩; have n0_ := Aside0.mk (Kd.S_elder' (by (with_reducible repeat (first | apply Kd.S_alloc | apply Kd.S_drewN | apply Kd.S_drew)); exact (Kd.S_mono (Kd.S_far (p := ⟨gb196, 2, none⟩) (Kd.S_far (p := ⟨gb196, 1, none⟩) (Kd.S_far (p := ⟨gb196, 0, none⟩) (Kd.S_types HO194.out BK196.out (by decide)) (fun _ hk => hk.2) (.int .u64 t190)) (fun _ hk => hk.2) (.int .i64 t191)) (fun _ hk => hk.2) (.slice Ao34 t192.length co34)) (fun _ h_ => h_.1))) (Kd.S_base ho0) hb); have n1_ := Aside0.mk (Kd.S_lower (Kd.S_new' ho0 (Kd.S_lt (by (with_reducible repeat (first | apply Kd.S_alloc | apply Kd.S_drewN | apply Kd.S_drew)); exact (Kd.S_mono (Kd.S_far (p := ⟨gb196, 2, none⟩) (Kd.S_far (p := ⟨gb196, 1, none⟩) (Kd.S_far (p := ⟨gb196, 0, none⟩) (Kd.S_types HO194.out BK196.out (by decide)) (fun _ hk => hk.2) (.int .u64 t190)) (fun _ hk => hk.2) (.int .i64 t191)) (fun _ hk => hk.2) (.slice Ao34 t192.length co34)) (fun _ h_ => h_.1))))) (below_size (bl_ HB))); have n2_ := Aside0.mk (blk_below (g := gb196) (o := .cells #[.int .u64 t190, .int .i64 t191, .slice Ao34 t192.length co34] 25 (0, 0)) (by (with_reducible repeat (first | refine blk_drewN ?_ _ | refine blk_drew ?_ | refine blk_alloc ?_ _)); refine blk_put (cs := #[.int .u64 t190, .int .i64 t191, .slice none 0 0]) ?_ 2 _ rfl; (with_reducible repeat (first | refine blk_drewN ?_ _ | refine blk_drew ?_ | refine blk_alloc ?_ _)); refine blk_put (cs := #[.int .u64 t190, .int .i64 0, .slice none 0 0]) ?_ 1 _ rfl; (with_reducible repeat (first | refine blk_drewN ?_ _ | refine blk_drew ?_ | refine blk_alloc ?_ _)); refine blk_put (cs := #[.int .u64 0, .int .i64 0, .slice none 0 0]) ?_ 0 _ rfl; (with_reducible repeat (first | refine blk_drewN ?_ _ | refine blk_drew ?_ | refine blk_alloc ?_ _)); exact BK196.out) hb); have n3_ := Aside0.mk (below_step (bl_ HB) hb); clear HO194; clear BK196; clear HB; have HO194 := n0_; have HO201 := n1_; have BK196 := n2_; have HB := n3_; clear n0_ n1_ n2_ n3_; (try clear hb); (try clear hb2); (try clear hk); (try clear hi); (try clear ho0); have hcz36_0 : w35.cell? ⟨gb196, 0, none⟩ = some (.int .u64 t190) := (blk_cell BK196.out 0).trans rfl; have hcz36_1 : w35.cell? ⟨gb196, 1, none⟩ = some (.int .i64 t191) := (blk_cell BK196.out 1).trans rfl; have hcz36_2 : w35.cell? ⟨gb196, 2, none⟩ = some (.slice Ao34 t192.length co34) := (blk_cell BK196.out 2).trans rfl; have hfz36_0 := blk_frozen BK196.out 0; have hfz36_1 := blk_frozen BK196.out 1; have hfz36_2 := blk_frozen BK196.out 2; obtain ⟨Ao37, co37, eo37⟩ := Kd.S_slice HO201.out; subst eo37) | ((with_reducible refine gate_callee (f := 15) rfl ?_); refine goesL_ (some 18) rfl rfl Try.func15 (by kernel_rfl) rfl #[.agg #[.int .u64 t197, .int .i64 t198, .slice Ao37 t199.length co37], .string (⟨#[97]⟩ : ByteArray), .int .i64 4] rfl (by (try simp only [List.map_toArray, List.map_cons, List.map_nil]); first | done | rfl | (simp only [List.length_drop, List.length_take]; rfl)) ?_; (with_reducible refine (least_Add.calls k t197 t198 _ _ t199 (⟨#[97]⟩ : ByteArray) 4 t203 t204 t205 t208 _ ?side1 ?side2 A3.out).mono ?_); (case side1 => refine (Kd.S_reads' (e := 33) (base := w.heap.size) (ok := fun k_ => (True ∧ some k_ ≠ (.slice Ao34 t192.length co34 : Value).ownBlock)) (n := t199.length) (c := co37) ?_).2.2; exact (by (with_reducible repeat (first | apply Kd.S_alloc | apply Kd.S_drewN | apply Kd.S_drew)); exact (Kd.S_mono (Kd.S_far (p := ⟨gb196, 2, none⟩) (Kd.S_far (p := ⟨gb196, 1, none⟩) (Kd.S_far (p := ⟨gb196, 0, none⟩) (Kd.S_types HO201.out BK196.out (by decide)) (fun _ hk => hk.2) (.int .u64 t197)) (fun _ hk => hk.2) (.int .i64 t198)) (fun _ hk => hk.2) (.slice Ao37 t199.length co37)) (fun _ h_ => h_.1)))); (case side2 => exact (Kd.S_reads' HO201.out).2.1); rintro e w38 ⟨v206, rfl, ho0, hb⟩; refine ⟨_, rfl, ?_⟩; have n0_ := Aside0.mk (Kd.S_elder' (by (with_reducible repeat (first | apply Kd.S_alloc | apply Kd.S_drewN | apply Kd.S_drew)); exact (Kd.S_mono (Kd.S_far (p := ⟨gb196, 2, none⟩) (Kd.S_far (p := ⟨gb196, 1, none⟩) (Kd.S_far (p := ⟨gb196, 0, none⟩) (Kd.S_types HO194.out BK196.out (by decide)) (fun _ hk => hk.2) (.int .u64 t197)) (fun _ hk => hk.2) (.int .i64 t198)) (fun _ hk => hk.2) (.slice Ao37 t199.length co37)) (fun _ h_ => h_.1))) (Kd.S_base ho0) hb); have n1_ := Aside0.mk (Kd.S_elder' (by (with_reducible repeat (first | apply Kd.S_alloc | apply Kd.S_drewN | apply Kd.S_drew)); exact (Kd.S_mono (Kd.S_far (p := ⟨gb196, 2, none⟩) (Kd.S_far (p := ⟨gb196, 1, none⟩) (Kd.S_far (p := ⟨gb196, 0, none⟩) (Kd.S_types HO201.out BK196.out (by decide)) (fun _ hk => hk.2) (.int .u64 t197)) (fun _ hk => hk.2) (.int .i64 t198)) (fun _ hk => hk.2) (.slice Ao37 t199.length co37)) (fun _ h_ => h_.1))) (Kd.S_base ho0) hb); have n2_ := Aside0.mk (Kd.S_lower (Kd.S_new' (Kd.S_new' ho0 (Kd.S_lt (by (with_reducible repeat (first | apply Kd.S_alloc | apply Kd.S_drewN | apply Kd.S_drew)); exact (Kd.S_mono (Kd.S_far (p := ⟨gb196, 2, none⟩) (Kd.S_far (p := ⟨gb196, 1, none⟩) (Kd.S_far (p := ⟨gb196, 0, none⟩) (Kd.S_types HO194.out BK196.out (by decide)) (fun _ hk => hk.2) (.int .u64 t197)) (fun _ hk => hk.2) (.int .i64 t198)) (fun _ hk => hk.2) (.slice Ao37 t199.length co37)) (fun _ h_ => h_.1))))) (Kd.S_lt (by (with_reducible repeat (first | apply Kd.S_alloc | apply Kd.S_drewN | apply Kd.S_drew)); exact (Kd.S_mono (Kd.S_far (p := ⟨gb196, 2, none⟩) (Kd.S_far (p := ⟨gb196, 1, none⟩) (Kd.S_far (p := ⟨gb196, 0, none⟩) (Kd.S_types HO201.out BK196.out (by decide)) (fun _ hk => hk.2) (.int .u64 t197)) (fun _ hk => hk.2) (.int .i64 t198)) (fun _ hk => hk.2) (.slice Ao37 t199.length co37)) (fun _ h_ => h_.1))))) (below_size (bl_ HB))); have n3_ := Aside0.mk (blk_below (g := gb196) (o := .cells #[.int .u64 t197, .int .i64 t198, .slice Ao37 t199.length co37] 25 (0, 0)) (by (with_reducible repeat (first | refine blk_drewN ?_ _ | refine blk_drew ?_ | refine blk_alloc ?_ _)); refine blk_put (cs := #[.int .u64 t197, .int .i64 t198, .slice Ao34 t192.length co34]) ?_ 2 _ rfl; (with_reducible repeat (first | refine blk_drewN ?_ _ | refine blk_drew ?_ | refine blk_alloc ?_ _)); refine blk_put (cs := #[.int .u64 t197, .int .i64 t191, .slice Ao34 t192.length co34]) ?_ 1 _ rfl; (with_reducible repeat (first | refine blk_drewN ?_ _ | refine blk_drew ?_ | refine blk_alloc ?_ _)); refine blk_put (cs := #[.int .u64 t190, .int .i64 t191, .slice Ao34 t192.length co34]) ?_ 0 _ rfl; (with_reducible repeat (first | refine blk_drewN ?_ _ | refine blk_drew ?_ | refine blk_alloc ?_ _)); exact BK196.out) hb); have n4_ := Aside0.mk (below_step (bl_ HB) hb); clear HO194; clear HO201; clear BK196; clear HB; have HO194 := n0_; have HO201 := n1_; have HO207 := n2_; have BK196 := n3_; have HB := n4_; clear n0_ n1_ n2_ n3_ n4_; (try clear hb); (try clear hb2); (try clear hk); (try clear hi); (try clear ho0); have hcz39_0 : w38.cell? ⟨gb196, 0, none⟩ = some (.int .u64 t197) := (blk_cell BK196.out 0).trans rfl; have hcz39_1 : w38.cell? ⟨gb196, 1, none⟩ = some (.int .i64 t198) := (blk_cell BK196.out 1).trans rfl; have hcz39_2 : w38.cell? ⟨gb196, 2, none⟩ = some (.slice Ao37 t199.length co37) := (blk_cell BK196.out 2).trans rfl; have hfz39_0 := blk_frozen BK196.out 0; have hfz39_1 := blk_frozen BK196.out 1; have hfz39_2 := blk_frozen BK196.out 2; obtain ⟨Ao40, co40, eo40⟩ := Kd.S_slice HO207.out; subst eo40) | ((with_reducible refine gate_callee (f := 16) rfl ?_); refine goesL_ (some 23) rfl rfl Try.func16 (by kernel_rfl) rfl #[.agg #[.int .u64 t203, .int .i64 t204, .slice Ao40 t205.length co40], .string (⟨#[97]⟩ : ByteArray)] rfl (by (try simp only [List.map_toArray, List.map_cons, List.map_nil]); first | done | rfl | (simp only [List.length_drop, List.length_take]; rfl)) ?_; (with_reducible refine (least_Get.calls k t203 t204 _ _ t205 (⟨#[97]⟩ : ByteArray) t209 t210 _ ?side1 ?side2 A4.out).mono ?_); (case side1 => refine (Kd.S_reads' (e := 33) (base := w.heap.size) (ok := fun k_ => ((True ∧ some k_ ≠ (.slice Ao34 t192.length co34 : Value).ownBlock) ∧ some k_ ≠ (.slice Ao37 t199.length co37 : Value).ownBlock)) (n := t205.length) (c := co40) ?_).2.2; exact (by (with_reducible repeat (first | apply Kd.S_alloc | apply Kd.S_drewN | apply Kd.S_drew)); exact (Kd.S_mono (Kd.S_far (p := ⟨gb196, 2, none⟩) (Kd.S_far (p := ⟨gb196, 1, none⟩) (Kd.S_far (p := ⟨gb196, 0, none⟩) (Kd.S_types HO207.out BK196.out (by decide)) (fun _ hk => hk.2) (.int .u64 t203)) (fun _ hk => hk.2) (.int .i64 t204)) (fun _ hk => hk.2) (.slice Ao40 t205.length co40)) (fun _ h_ => h_.1)))); (case side2 => exact (Kd.S_reads' HO207.out).2.1); rintro e w41 ⟨rfl, hb⟩; refine ⟨_, rfl, ?_⟩; have n0_ := Aside0.mk (Kd.S_below (by (with_reducible repeat (first | apply Kd.S_alloc | apply Kd.S_drewN | apply Kd.S_drew)); exact (Kd.S_mono (Kd.S_far (p := ⟨gb196, 2, none⟩) (Kd.S_far (p := ⟨gb196, 1, none⟩) (Kd.S_far (p := ⟨gb196, 0, none⟩) (Kd.S_types HO194.out BK196.out (by decide)) (fun _ hk => hk.2) (.int .u64 t203)) (fun _ hk => hk.2) (.int .i64 t204)) (fun _ hk => hk.2) (.slice Ao40 t205.length co40)) (fun _ h_ => h_.1))) hb); have n1_ := Aside0.mk (Kd.S_below (by (with_reducible repeat (first | apply Kd.S_alloc | apply Kd.S_drewN | apply Kd.S_drew)); exact (Kd.S_mono (Kd.S_far (p := ⟨gb196, 2, none⟩) (Kd.S_far (p := ⟨gb196, 1, none⟩) (Kd.S_far (p := ⟨gb196, 0, none⟩) (Kd.S_types HO201.out BK196.out (by decide)) (fun _ hk => hk.2) (.int .u64 t203)) (fun _ hk => hk.2) (.int .i64 t204)) (fun _ hk => hk.2) (.slice Ao40 t205.length co40)) (fun _ h_ => h_.1))) hb); have n2_ := Aside0.mk (Kd.S_below (by (with_reducible repeat (first | apply Kd.S_alloc | apply Kd.S_drewN | apply Kd.S_drew)); exact (Kd.S_mono (Kd.S_far (p := ⟨gb196, 2, none⟩) (Kd.S_far (p := ⟨gb196, 1, none⟩) (Kd.S_far (p := ⟨gb196, 0, none⟩) (Kd.S_types HO207.out BK196.out (by decide)) (fun _ hk => hk.2) (.int .u64 t203)) (fun _ hk => hk.2) (.int .i64 t204)) (fun _ hk => hk.2) (.slice Ao40 t205.length co40)) (fun _ h_ => h_.1))) hb); have n3_ := Aside0.mk (blk_below (g := gb196) (o := .cells #[.int .u64 t203, .int .i64 t204, .slice Ao40 t205.length co40] 25 (0, 0)) (by (with_reducible repeat (first | refine blk_drewN ?_ _ | refine blk_drew ?_ | refine blk_alloc ?_ _)); refine blk_put (cs := #[.int .u64 t203, .int .i64 t204, .slice Ao37 t199.length co37]) ?_ 2 _ rfl; (with_reducible repeat (first | refine blk_drewN ?_ _ | refine blk_drew ?_ | refine blk_alloc ?_ _)); refine blk_put (cs := #[.int .u64 t203, .int .i64 t198, .slice Ao37 t199.length co37]) ?_ 1 _ rfl; (with_reducible repeat (first | refine blk_drewN ?_ _ | refine blk_drew ?_ | refine blk_alloc ?_ _)); refine blk_put (cs := #[.int .u64 t197, .int .i64 t198, .slice Ao37 t199.length co37]) ?_ 0 _ rfl; (with_reducible repeat (first | refine blk_drewN ?_ _ | refine blk_drew ?_ | refine blk_alloc ?_ _)); exact BK196.out) hb); have n4_ := Aside0.mk (below_step (bl_ HB) hb); clear HO194; clear HO201; clear HO207; clear BK196; clear HB; have HO194 := n0_; have HO201 := n1_; have HO207 := n2_; have BK196 := n3_; have HB := n4_; clear n0_ n1_ n2_ n3_ n4_; (try clear hb); (try clear hb2); (try clear hk); (try clear hi)))
    go_ret; exact ⟨by first | rfl | (simp [errW_none, errW_some] <;> rfl) | (simp [*, errW_none, errW_some] <;> rfl), bl_ HB⟩
  ·rw [if_neg c6] at H; have c6b0 : (t202 == 0) = false := beq_eq_false_iff_ne.mpr c6; have c6b1 : (t202 != 0) = true := bne_iff_ne.mpr c6; obtain rfl := Option.some.inj H
   go_enter Try.func12, Try.ntmps12
   go_wp2_with (first | ((with_reducible refine gate_callee (f := 9) rfl ?_); refine goesL_ (some 8) rfl rfl Try.func9 (by kernel_rfl) rfl #[.int .u64 1, .int .i64 2, .int .i64 8, .int .i64 255] rfl (by (try simp only [List.map_toArray, List.map_cons, List.map_nil]); first | done | rfl | (simp only [List.length_drop, List.length_take]; rfl)) ?_; (with_reducible refine (least_New.calls k 1 2 8 255 t190 t191 t192 t195 _ A1.out).mono ?_); rintro e w42 ⟨v193, rfl, ho0, hb⟩; refine ⟨_, rfl, ?_⟩; have n0_ := Aside0.mk (Kd.S_lower ho0 (below_size (bl_ HB))); have n1_ := Aside0.mk (below_step (bl_ HB) hb); clear HB; have HO194 := n0_; have HB := n1_; clear n0_ n1_; (try clear hb); (try clear hb2); (try clear hk); (try clear hi); (try clear ho0)) | ((with_reducible refine gate_dst (N := 1) rfl ?_); refine box_event ?hg (N := 1) ?hd (cs := #[.int .u64 0, .int .i64 0, .slice none 0 0]) (t := 25) ?hr ?_; (case hd => rfl); (case hg => rfl); (case hr => first | (go_simp; done) | (go_simp; rfl)); intro gb196 hg w43 hbox hb; have n0_ := Aside0.mk (Kd.S_below (sk_ HO194) hb); have n1_ := Aside0.mk (below_step (bl_ HB) hb); have n2_ := Aside0.mk (hbox); have n3_ := Aside0.mk (gl_ hg HB); have n4_ := Aside0.mk (gl_ hg HB); clear HO194; clear HB; have HO194 := n0_; have HB := n1_; have BK196 := n2_; have GW196 := n3_; have GE196 := n4_; clear n0_ n1_ n2_ n3_ n4_; clear hb hbox hg; have hcz44_0 : w43.cell? ⟨gb196, 0, none⟩ = some (.int .u64 0) := (blk_cell BK196.out 0).trans rfl; have hcz44_1 : w43.cell? ⟨gb196, 1, none⟩ = some (.int .i64 0) := (blk_cell BK196.out 1).trans rfl; have hcz44_2 : w43.cell? ⟨gb196, 2, none⟩ = some (.slice none 0 0) := (blk_cell BK196.out 2).trans rfl; have hfz44_0 := blk_frozen BK196.out 0; have hfz44_1 := blk_frozen BK196.out 1; have hfz44_2 := blk_frozen BK196.out 2; obtain ⟨Ao45, co45, eo45⟩ := Kd.S_slice HO194.out; subst eo45) | ((with_reducible refine gate_callee (f := 15) rfl ?_); refine goesL_ (some 13) rfl rfl Try.func15 (by kernel_rfl) rfl #[.agg #[.int .u64 t190, .int .i64 t191, .slice Ao45 t192.length co45], .string (⟨#[97]⟩ : ByteArray), .int .i64 3] rfl (by (try simp only [List.map_toArray, List.map_cons, List.map_nil]); first | done | rfl | (simp only [List.length_drop, List.length_take]; rfl)) ?_; (with_reducible refine (least_Add.calls k t190 t191 _ _ t192 (⟨#[97]⟩ : ByteArray) 3 t197 t198 t199 t202 _ ?side1 ?side2 A2.out).mono ?_); (case side1 => refine (Kd.S_reads' (e := 33) (base := w.heap.size) (ok := fun k_ => True) (n := t192.length) (c := co45) ?_).2.2; exact (by (with_reducible repeat (first | apply Kd.S_alloc | apply Kd.S_drewN | apply Kd.S_drew)); exact (Kd.S_mono (Kd.S_far (p := ⟨gb196, 2, none⟩) (Kd.S_far (p := ⟨gb196, 1, none⟩) (Kd.S_far (p := ⟨gb196, 0, none⟩) (Kd.S_types HO194.out BK196.out (by decide)) (fun _ hk => hk.2) (.int .u64 t190)) (fun _ hk => hk.2) (.int .i64 t191)) (fun _ hk => hk.2) (.slice Ao45 t192.length co45)) (fun _ h_ => h_.1)))); (case side2 => exact (Kd.S_reads' HO194.out).2.1); rintro e w46 ⟨v200, rfl, ho0, hb⟩; refine ⟨_, rfl, ?_⟩; have n0_ := Aside0.mk (Kd.S_elder' (by (with_reducible repeat (first | apply Kd.S_alloc | apply Kd.S_drewN | apply Kd.S_drew)); exact (Kd.S_mono (Kd.S_far (p := ⟨gb196, 2, none⟩) (Kd.S_far (p := ⟨gb196, 1, none⟩) (Kd.S_far (p := ⟨gb196, 0, none⟩) (Kd.S_types HO194.out BK196.out (by decide)) (fun _ hk => hk.2) (.int .u64 t190)) (fun _ hk => hk.2) (.int .i64 t191)) (fun _ hk => hk.2) (.slice Ao45 t192.length co45)) (fun _ h_ => h_.1))) (Kd.S_base ho0) hb); have n1_ := Aside0.mk (Kd.S_lower (Kd.S_new' ho0 (Kd.S_lt (by (with_reducible repeat (first | apply Kd.S_alloc | apply Kd.S_drewN | apply Kd.S_drew)); exact (Kd.S_mono (Kd.S_far (p := ⟨gb196, 2, none⟩) (Kd.S_far (p := ⟨gb196, 1, none⟩) (Kd.S_far (p := ⟨gb196, 0, none⟩) (Kd.S_types HO194.out BK196.out (by decide)) (fun _ hk => hk.2) (.int .u64 t190)) (fun _ hk => hk.2) (.int .i64 t191)) (fun _ hk => hk.2) (.slice Ao45 t192.length co45)) (fun _ h_ => h_.1))))) (below_size (bl_ HB))); have n2_ := Aside0.mk (blk_below (g := gb196) (o := .cells #[.int .u64 t190, .int .i64 t191, .slice Ao45 t192.length co45] 25 (0, 0)) (by (with_reducible repeat (first | refine blk_drewN ?_ _ | refine blk_drew ?_ | refine blk_alloc ?_ _)); refine blk_put (cs := #[.int .u64 t190, .int .i64 t191, .slice none 0 0]) ?_ 2 _ rfl; (with_reducible repeat (first | refine blk_drewN ?_ _ | refine blk_drew ?_ | refine blk_alloc ?_ _)); refine blk_put (cs := #[.int .u64 t190, .int .i64 0, .slice none 0 0]) ?_ 1 _ rfl; (with_reducible repeat (first | refine blk_drewN ?_ _ | refine blk_drew ?_ | refine blk_alloc ?_ _)); refine blk_put (cs := #[.int .u64 0, .int .i64 0, .slice none 0 0]) ?_ 0 _ rfl; (with_reducible repeat (first | refine blk_drewN ?_ _ | refine blk_drew ?_ | refine blk_alloc ?_ _)); exact BK196.out) hb); have n3_ := Aside0.mk (below_step (bl_ HB) hb); clear HO194; clear BK196; clear HB; have HO194 := n0_; have HO201 := n1_; have BK196 := n2_; have HB := n3_; clear n0_ n1_ n2_ n3_; (try clear hb); (try clear hb2); (try clear hk); (try clear hi); (try clear ho0); have hcz47_0 : w46.cell? ⟨gb196, 0, none⟩ = some (.int .u64 t190) := (blk_cell BK196.out 0).trans rfl; have hcz47_1 : w46.cell? ⟨gb196, 1, none⟩ = some (.int .i64 t191) := (blk_cell BK196.out 1).trans rfl; have hcz47_2 : w46.cell? ⟨gb196, 2, none⟩ = some (.slice Ao45 t192.length co45) := (blk_cell BK196.out 2).trans rfl; have hfz47_0 := blk_frozen BK196.out 0; have hfz47_1 := blk_frozen BK196.out 1; have hfz47_2 := blk_frozen BK196.out 2; obtain ⟨Ao48, co48, eo48⟩ := Kd.S_slice HO201.out; subst eo48) | ((with_reducible refine gate_callee (f := 15) rfl ?_); refine goesL_ (some 18) rfl rfl Try.func15 (by kernel_rfl) rfl #[.agg #[.int .u64 t197, .int .i64 t198, .slice Ao48 t199.length co48], .string (⟨#[97]⟩ : ByteArray), .int .i64 4] rfl (by (try simp only [List.map_toArray, List.map_cons, List.map_nil]); first | done | rfl | (simp only [List.length_drop, List.length_take]; rfl)) ?_; (with_reducible refine (least_Add.calls k t197 t198 _ _ t199 (⟨#[97]⟩ : ByteArray) 4 t203 t204 t205 t208 _ ?side1 ?side2 A3.out).mono ?_); (case side1 => refine (Kd.S_reads' (e := 33) (base := w.heap.size) (ok := fun k_ => (True ∧ some k_ ≠ (.slice Ao45 t192.length co45 : Value).ownBlock)) (n := t199.length) (c := co48) ?_).2.2; exact (by (with_reducible repeat (first | apply Kd.S_alloc | apply Kd.S_drewN | apply Kd.S_drew)); exact (Kd.S_mono (Kd.S_far (p := ⟨gb196, 2, none⟩) (Kd.S_far (p := ⟨gb196, 1, none⟩) (Kd.S_far (p := ⟨gb196, 0, none⟩) (Kd.S_types HO201.out BK196.out (by decide)) (fun _ hk => hk.2) (.int .u64 t197)) (fun _ hk => hk.2) (.int .i64 t198)) (fun _ hk => hk.2) (.slice Ao48 t199.length co48)) (fun _ h_ => h_.1)))); (case side2 => exact (Kd.S_reads' HO201.out).2.1); rintro e w49 ⟨v206, rfl, ho0, hb⟩; refine ⟨_, rfl, ?_⟩; have n0_ := Aside0.mk (Kd.S_elder' (by (with_reducible repeat (first | apply Kd.S_alloc | apply Kd.S_drewN | apply Kd.S_drew)); exact (Kd.S_mono (Kd.S_far (p := ⟨gb196, 2, none⟩) (Kd.S_far (p := ⟨gb196, 1, none⟩) (Kd.S_far (p := ⟨gb196, 0, none⟩) (Kd.S_types HO194.out BK196.out (by decide)) (fun _ hk => hk.2) (.int .u64 t197)) (fun _ hk => hk.2) (.int .i64 t198)) (fun _ hk => hk.2) (.slice Ao48 t199.length co48)) (fun _ h_ => h_.1))) (Kd.S_base ho0) hb); have n1_ := Aside0.mk (Kd.S_elder' (by (with_reducible repeat (first | apply Kd.S_alloc | apply Kd.S_drewN | apply Kd.S_drew)); exact (Kd.S_mono (Kd.S_far (p := ⟨gb196, 2, none⟩) (Kd.S_far (p := ⟨gb196, 1, none⟩) (Kd.S_far (p := ⟨gb196, 0, none⟩) (Kd.S_types HO201.out BK196.out (by decide)) (fun _ hk => hk.2) (.int .u64 t197)) (fun _ hk => hk.2) (.int .i64 t198)) (fun _ hk => hk.2) (.slice Ao48 t199.length co48)) (fun _ h_ => h_.1))) (Kd.S_base ho0) hb); have n2_ := Aside0.mk (Kd.S_lower (Kd.S_new' (Kd.S_new' ho0 (Kd.S_lt (by (with_reducible repeat (first | apply Kd.S_alloc | apply Kd.S_drewN | apply Kd.S_drew)); exact (Kd.S_mono (Kd.S_far (p := ⟨gb196, 2, none⟩) (Kd.S_far (p := ⟨gb196, 1, none⟩) (Kd.S_far (p := ⟨gb196, 0, none⟩) (Kd.S_types HO194.out BK196.out (by decide)) (fun _ hk => hk.2) (.int .u64 t197)) (fun _ hk => hk.2) (.int .i64 t198)) (fun _ hk => hk.2) (.slice Ao48 t199.length co48)) (fun _ h_ => h_.1))))) (Kd.S_lt (by (with_reducible repeat (first | apply Kd.S_alloc | apply Kd.S_drewN | apply Kd.S_drew)); exact (Kd.S_mono (Kd.S_far (p := ⟨gb196, 2, none⟩) (Kd.S_far (p := ⟨gb196, 1, none⟩) (Kd.S_far (p := ⟨gb196, 0, none⟩) (Kd.S_types HO201.out BK196.out (by decide)) (fun _ hk => hk.2) (.int .u64 t197)) (fun _ hk => hk.2) (.int .i64 t198)) (fun _ hk => hk.2) (.slice Ao48 t199.length co48)) (fun _ h_ => h_.1))))) (below_size (bl_ HB))); have n3_ := Aside0.mk (blk_below (g := gb196) (o := .cells #[.int .u64 t197, .int .i64 t198, .slice Ao48 t199.length co48] 25 (0, 0)) (by (with_reducible repeat (first | refine blk_drewN ?_ _ | refine blk_drew ?_ | refine blk_alloc ?_ _)); refine blk_put (cs := #[.int .u64 t197, .int .i64 t198, .slice Ao45 t192.length co45]) ?_ 2 _ rfl; (with_reducible repeat (first | refine blk_drewN ?_ _ | refine blk_drew ?_ | refine blk_alloc ?_ _)); refine blk_put (cs := #[.int .u64 t197, .int .i64 t191, .slice Ao45 t192.length co45]) ?_ 1 _ rfl; (with_reducible repeat (first | refine blk_drewN ?_ _ | refine blk_drew ?_ | refine blk_alloc ?_ _)); refine blk_put (cs := #[.int .u64 t190, .int .i64 t191, .slice Ao45 t192.length co45]) ?_ 0 _ rfl; (with_reducible repeat (first | refine blk_drewN ?_ _ | refine blk_drew ?_ | refine blk_alloc ?_ _)); exact BK196.out) hb); have n4_ := Aside0.mk (below_step (bl_ HB) hb); clear HO194; clear HO201; clear BK196; clear HB; have HO194 := n0_; have HO201 := n1_; have HO207 := n2_; have BK196 := n3_; have HB := n4_; clear n0_ n1_ n2_ n3_ n4_; (try clear hb); (try clear hb2); (try clear hk); (try clear hi); (try clear ho0); have hcz50_0 : w49.cell? ⟨gb196, 0, none⟩ = some (.int .u64 t197) := (blk_cell BK196.out 0).trans rfl; have hcz50_1 : w49.cell? ⟨gb196, 1, none⟩ = some (.int .i64 t198) := (blk_cell BK196.out 1).trans rfl; have hcz50_2 : w49.cell? ⟨gb196, 2, none⟩ = some (.slice Ao48 t199.length co48) := (blk_cell BK196.out 2).trans rfl; have hfz50_0 := blk_frozen BK196.out 0; have hfz50_1 := blk_frozen BK196.out 1; have hfz50_2 := blk_frozen BK196.out 2; obtain ⟨Ao51, co51, eo51⟩ := Kd.S_slice HO207.out; subst eo51) | ((with_reducible refine gate_callee (f := 16) rfl ?_); refine goesL_ (some 23) rfl rfl Try.func16 (by kernel_rfl) rfl #[.agg #[.int .u64 t203, .int .i64 t204, .slice Ao51 t205.length co51], .string (⟨#[97]⟩ : ByteArray)] rfl (by (try simp only [List.map_toArray, List.map_cons, List.map_nil]); first | done | rfl | (simp only [List.length_drop, List.length_take]; rfl)) ?_; (with_reducible refine (least_Get.calls k t203 t204 _ _ t205 (⟨#[97]⟩ : ByteArray) t209 t210 _ ?side1 ?side2 A4.out).mono ?_); (case side1 => refine (Kd.S_reads' (e := 33) (base := w.heap.size) (ok := fun k_ => ((True ∧ some k_ ≠ (.slice Ao45 t192.length co45 : Value).ownBlock) ∧ some k_ ≠ (.slice Ao48 t199.length co48 : Value).ownBlock)) (n := t205.length) (c := co51) ?_).2.2; exact (by (with_reducible repeat (first | apply Kd.S_alloc | apply Kd.S_drewN | apply Kd.S_drew)); exact (Kd.S_mono (Kd.S_far (p := ⟨gb196, 2, none⟩) (Kd.S_far (p := ⟨gb196, 1, none⟩) (Kd.S_far (p := ⟨gb196, 0, none⟩) (Kd.S_types HO207.out BK196.out (by decide)) (fun _ hk => hk.2) (.int .u64 t203)) (fun _ hk => hk.2) (.int .i64 t204)) (fun _ hk => hk.2) (.slice Ao51 t205.length co51)) (fun _ h_ => h_.1)))); (case side2 => exact (Kd.S_reads' HO207.out).2.1); rintro e w52 ⟨rfl, hb⟩; refine ⟨_, rfl, ?_⟩; have n0_ := Aside0.mk (Kd.S_below (by (with_reducible repeat (first | apply Kd.S_alloc | apply Kd.S_drewN | apply Kd.S_drew)); exact (Kd.S_mono (Kd.S_far (p := ⟨gb196, 2, none⟩) (Kd.S_far (p := ⟨gb196, 1, none⟩) (Kd.S_far (p := ⟨gb196, 0, none⟩) (Kd.S_types HO194.out BK196.out (by decide)) (fun _ hk => hk.2) (.int .u64 t203)) (fun _ hk => hk.2) (.int .i64 t204)) (fun _ hk => hk.2) (.slice Ao51 t205.length co51)) (fun _ h_ => h_.1))) hb); have n1_ := Aside0.mk (Kd.S_below (by (with_reducible repeat (first | apply Kd.S_alloc | apply Kd.S_drewN | apply Kd.S_drew)); exact (Kd.S_mono (Kd.S_far (p := ⟨gb196, 2, none⟩) (Kd.S_far (p := ⟨gb196, 1, none⟩) (Kd.S_far (p := ⟨gb196, 0, none⟩) (Kd.S_types HO201.out BK196.out (by decide)) (fun _ hk => hk.2) (.int .u64 t203)) (fun _ hk => hk.2) (.int .i64 t204)) (fun _ hk => hk.2) (.slice Ao51 t205.length co51)) (fun _ h_ => h_.1))) hb); have n2_ := Aside0.mk (Kd.S_below (by (with_reducible repeat (first | apply Kd.S_alloc | apply Kd.S_drewN | apply Kd.S_drew)); exact (Kd.S_mono (Kd.S_far (p := ⟨gb196, 2, none⟩) (Kd.S_far (p := ⟨gb196, 1, none⟩) (Kd.S_far (p := ⟨gb196, 0, none⟩) (Kd.S_types HO207.out BK196.out (by decide)) (fun _ hk => hk.2) (.int .u64 t203)) (fun _ hk => hk.2) (.int .i64 t204)) (fun _ hk => hk.2) (.slice Ao51 t205.length co51)) (fun _ h_ => h_.1))) hb); have n3_ := Aside0.mk (blk_below (g := gb196) (o := .cells #[.int .u64 t203, .int .i64 t204, .slice Ao51 t205.length co51] 25 (0, 0)) (by (with_reducible repeat (first | refine blk_drewN ?_ _ | refine blk_drew ?_ | refine blk_alloc ?_ _)); refine blk_put (cs := #[.int .u64 t203, .int .i64 t204, .slice Ao48 t199.length co48]) ?_ 2 _ rfl; (with_reducible repeat (first | refine blk_drewN ?_ _ | refine blk_drew ?_ | refine blk_alloc ?_ _)); refine blk_put (cs := #[.int .u64 t203, .int .i64 t198, .slice Ao48 t199.length co48]) ?_ 1 _ rfl; (with_reducible repeat (first | refine blk_drewN ?_ _ | refine blk_drew ?_ | refine blk_alloc ?_ _)); refine blk_put (cs := #[.int .u64 t197, .int .i64 t198, .slice Ao48 t199.length co48]) ?_ 0 _ rfl; (with_reducible repeat (first | refine blk_drewN ?_ _ | refine blk_drew ?_ | refine blk_alloc ?_ _)); exact BK196.out) hb); have n4_ := Aside0.mk (below_step (bl_ HB) hb); clear HO194; clear HO201; clear HO207; clear BK196; clear HB; have HO194 := n0_; have HO201 := n1_; have HO207 := n2_; have BK196 := n3_; have HB := n4_; clear n0_ n1_ n2_ n3_ n4_; (try clear hb); (try clear hb2); (try clear hk); (try clear hi)))
   go_ret; exact ⟨by first | rfl | (simp [errW_none, errW_some] <;> rfl) | (simp [*, errW_none, errW_some] <;> rfl), bl_ HB⟩
 ·rw [if_neg c5] at H; have c5b0 : (t195 == 0) = false := beq_eq_false_iff_ne.mpr c5; have c5b1 : (t195 != 0) = true := bne_iff_ne.mpr c5; obtain rfl := Option.some.inj H
  go_enter Try.func12, Try.ntmps12
  go_wp2_with (first | ((with_reducible refine gate_callee (f := 9) rfl ?_); refine goesL_ (some 8) rfl rfl Try.func9 (by kernel_rfl) rfl #[.int .u64 1, .int .i64 2, .int .i64 8, .int .i64 255] rfl (by (try simp only [List.map_toArray, List.map_cons, List.map_nil]); first | done | rfl | (simp only [List.length_drop, List.length_take]; rfl)) ?_; (with_reducible refine (least_New.calls k 1 2 8 255 t190 t191 t192 t195 _ A1.out).mono ?_); rintro e w53 ⟨v193, rfl, ho0, hb⟩; refine ⟨_, rfl, ?_⟩; have n0_ := Aside0.mk (Kd.S_lower ho0 (below_size (bl_ HB))); have n1_ := Aside0.mk (below_step (bl_ HB) hb); clear HB; have HO194 := n0_; have HB := n1_; clear n0_ n1_; (try clear hb); (try clear hb2); (try clear hk); (try clear hi); (try clear ho0)) | ((with_reducible refine gate_dst (N := 1) rfl ?_); refine box_event ?hg (N := 1) ?hd (cs := #[.int .u64 0, .int .i64 0, .slice none 0 0]) (t := 25) ?hr ?_; (case hd => rfl); (case hg => rfl); (case hr => first | (go_simp; done) | (go_simp; rfl)); intro gb196 hg w54 hbox hb; have n0_ := Aside0.mk (Kd.S_below (sk_ HO194) hb); have n1_ := Aside0.mk (below_step (bl_ HB) hb); have n2_ := Aside0.mk (hbox); have n3_ := Aside0.mk (gl_ hg HB); have n4_ := Aside0.mk (gl_ hg HB); clear HO194; clear HB; have HO194 := n0_; have HB := n1_; have BK196 := n2_; have GW196 := n3_; have GE196 := n4_; clear n0_ n1_ n2_ n3_ n4_; clear hb hbox hg; have hcz55_0 : w54.cell? ⟨gb196, 0, none⟩ = some (.int .u64 0) := (blk_cell BK196.out 0).trans rfl; have hcz55_1 : w54.cell? ⟨gb196, 1, none⟩ = some (.int .i64 0) := (blk_cell BK196.out 1).trans rfl; have hcz55_2 : w54.cell? ⟨gb196, 2, none⟩ = some (.slice none 0 0) := (blk_cell BK196.out 2).trans rfl; have hfz55_0 := blk_frozen BK196.out 0; have hfz55_1 := blk_frozen BK196.out 1; have hfz55_2 := blk_frozen BK196.out 2; obtain ⟨Ao56, co56, eo56⟩ := Kd.S_slice HO194.out; subst eo56) | ((with_reducible refine gate_callee (f := 15) rfl ?_); refine goesL_ (some 13) rfl rfl Try.func15 (by kernel_rfl) rfl #[.agg #[.int .u64 t190, .int .i64 t191, .slice Ao56 t192.length co56], .string (⟨#[97]⟩ : ByteArray), .int .i64 3] rfl (by (try simp only [List.map_toArray, List.map_cons, List.map_nil]); first | done | rfl | (simp only [List.length_drop, List.length_take]; rfl)) ?_; (with_reducible refine (least_Add.calls k t190 t191 _ _ t192 (⟨#[97]⟩ : ByteArray) 3 t197 t198 t199 t202 _ ?side1 ?side2 A2.out).mono ?_); (case side1 => refine (Kd.S_reads' (e := 33) (base := w.heap.size) (ok := fun k_ => True) (n := t192.length) (c := co56) ?_).2.2; exact (by (with_reducible repeat (first | apply Kd.S_alloc | apply Kd.S_drewN | apply Kd.S_drew)); exact (Kd.S_mono (Kd.S_far (p := ⟨gb196, 2, none⟩) (Kd.S_far (p := ⟨gb196, 1, none⟩) (Kd.S_far (p := ⟨gb196, 0, none⟩) (Kd.S_types HO194.out BK196.out (by decide)) (fun _ hk => hk.2) (.int .u64 t190)) (fun _ hk => hk.2) (.int .i64 t191)) (fun _ hk => hk.2) (.slice Ao56 t192.length co56)) (fun _ h_ => h_.1)))); (case side2 => exact (Kd.S_reads' HO194.out).2.1); rintro e w57 ⟨v200, rfl, ho0, hb⟩; refine ⟨_, rfl, ?_⟩; have n0_ := Aside0.mk (Kd.S_elder' (by (with_reducible repeat (first | apply Kd.S_alloc | apply Kd.S_drewN | apply Kd.S_drew)); exact (Kd.S_mono (Kd.S_far (p := ⟨gb196, 2, none⟩) (Kd.S_far (p := ⟨gb196, 1, none⟩) (Kd.S_far (p := ⟨gb196, 0, none⟩) (Kd.S_types HO194.out BK196.out (by decide)) (fun _ hk => hk.2) (.int .u64 t190)) (fun _ hk => hk.2) (.int .i64 t191)) (fun _ hk => hk.2) (.slice Ao56 t192.length co56)) (fun _ h_ => h_.1))) (Kd.S_base ho0) hb); have n1_ := Aside0.mk (Kd.S_lower (Kd.S_new' ho0 (Kd.S_lt (by (with_reducible repeat (first | apply Kd.S_alloc | apply Kd.S_drewN | apply Kd.S_drew)); exact (Kd.S_mono (Kd.S_far (p := ⟨gb196, 2, none⟩) (Kd.S_far (p := ⟨gb196, 1, none⟩) (Kd.S_far (p := ⟨gb196, 0, none⟩) (Kd.S_types HO194.out BK196.out (by decide)) (fun _ hk => hk.2) (.int .u64 t190)) (fun _ hk => hk.2) (.int .i64 t191)) (fun _ hk => hk.2) (.slice Ao56 t192.length co56)) (fun _ h_ => h_.1))))) (below_size (bl_ HB))); have n2_ := Aside0.mk (blk_below (g := gb196) (o := .cells #[.int .u64 t190, .int .i64 t191, .slice Ao56 t192.length co56] 25 (0, 0)) (by (with_reducible repeat (first | refine blk_drewN ?_ _ | refine blk_drew ?_ | refine blk_alloc ?_ _)); refine blk_put (cs := #[.int .u64 t190, .int .i64 t191, .slice none 0 0]) ?_ 2 _ rfl; (with_reducible repeat (first | refine blk_drewN ?_ _ | refine blk_drew ?_ | refine blk_alloc ?_ _)); refine blk_put (cs := #[.int .u64 t190, .int .i64 0, .slice none 0 0]) ?_ 1 _ rfl; (with_reducible repeat (first | refine blk_drewN ?_ _ | refine blk_drew ?_ | refine blk_alloc ?_ _)); refine blk_put (cs := #[.int .u64 0, .int .i64 0, .slice none 0 0]) ?_ 0 _ rfl; (with_reducible repeat (first | refine blk_drewN ?_ _ | refine blk_drew ?_ | refine blk_alloc ?_ _)); exact BK196.out) hb); have n3_ := Aside0.mk (below_step (bl_ HB) hb); clear HO194; clear BK196; clear HB; have HO194 := n0_; have HO201 := n1_; have BK196 := n2_; have HB := n3_; clear n0_ n1_ n2_ n3_; (try clear hb); (try clear hb2); (try clear hk); (try clear hi); (try clear ho0); have hcz58_0 : w57.cell? ⟨gb196, 0, none⟩ = some (.int .u64 t190) := (blk_cell BK196.out 0).trans rfl; have hcz58_1 : w57.cell? ⟨gb196, 1, none⟩ = some (.int .i64 t191) := (blk_cell BK196.out 1).trans rfl; have hcz58_2 : w57.cell? ⟨gb196, 2, none⟩ = some (.slice Ao56 t192.length co56) := (blk_cell BK196.out 2).trans rfl; have hfz58_0 := blk_frozen BK196.out 0; have hfz58_1 := blk_frozen BK196.out 1; have hfz58_2 := blk_frozen BK196.out 2; obtain ⟨Ao59, co59, eo59⟩ := Kd.S_slice HO201.out; subst eo59) | ((with_reducible refine gate_callee (f := 15) rfl ?_); refine goesL_ (some 18) rfl rfl Try.func15 (by kernel_rfl) rfl #[.agg #[.int .u64 t197, .int .i64 t198, .slice Ao59 t199.length co59], .string (⟨#[97]⟩ : ByteArray), .int .i64 4] rfl (by (try simp only [List.map_toArray, List.map_cons, List.map_nil]); first | done | rfl | (simp only [List.length_drop, List.length_take]; rfl)) ?_; (with_reducible refine (least_Add.calls k t197 t198 _ _ t199 (⟨#[97]⟩ : ByteArray) 4 t203 t204 t205 t208 _ ?side1 ?side2 A3.out).mono ?_); (case side1 => refine (Kd.S_reads' (e := 33) (base := w.heap.size) (ok := fun k_ => (True ∧ some k_ ≠ (.slice Ao56 t192.length co56 : Value).ownBlock)) (n := t199.length) (c := co59) ?_).2.2; exact (by (with_reducible repeat (first | apply Kd.S_alloc | apply Kd.S_drewN | apply Kd.S_drew)); exact (Kd.S_mono (Kd.S_far (p := ⟨gb196, 2, none⟩) (Kd.S_far (p := ⟨gb196, 1, none⟩) (Kd.S_far (p := ⟨gb196, 0, none⟩) (Kd.S_types HO201.out BK196.out (by decide)) (fun _ hk => hk.2) (.int .u64 t197)) (fun _ hk => hk.2) (.int .i64 t198)) (fun _ hk => hk.2) (.slice Ao59 t199.length co59)) (fun _ h_ => h_.1)))); (case side2 => exact (Kd.S_reads' HO201.out).2.1); rintro e w60 ⟨v206, rfl, ho0, hb⟩; refine ⟨_, rfl, ?_⟩; have n0_ := Aside0.mk (Kd.S_elder' (by (with_reducible repeat (first | apply Kd.S_alloc | apply Kd.S_drewN | apply Kd.S_drew)); exact (Kd.S_mono (Kd.S_far (p := ⟨gb196, 2, none⟩) (Kd.S_far (p := ⟨gb196, 1, none⟩) (Kd.S_far (p := ⟨gb196, 0, none⟩) (Kd.S_types HO194.out BK196.out (by decide)) (fun _ hk => hk.2) (.int .u64 t197)) (fun _ hk => hk.2) (.int .i64 t198)) (fun _ hk => hk.2) (.slice Ao59 t199.length co59)) (fun _ h_ => h_.1))) (Kd.S_base ho0) hb); have n1_ := Aside0.mk (Kd.S_elder' (by (with_reducible repeat (first | apply Kd.S_alloc | apply Kd.S_drewN | apply Kd.S_drew)); exact (Kd.S_mono (Kd.S_far (p := ⟨gb196, 2, none⟩) (Kd.S_far (p := ⟨gb196, 1, none⟩) (Kd.S_far (p := ⟨gb196, 0, none⟩) (Kd.S_types HO201.out BK196.out (by decide)) (fun _ hk => hk.2) (.int .u64 t197)) (fun _ hk => hk.2) (.int .i64 t198)) (fun _ hk => hk.2) (.slice Ao59 t199.length co59)) (fun _ h_ => h_.1))) (Kd.S_base ho0) hb); have n2_ := Aside0.mk (Kd.S_lower (Kd.S_new' (Kd.S_new' ho0 (Kd.S_lt (by (with_reducible repeat (first | apply Kd.S_alloc | apply Kd.S_drewN | apply Kd.S_drew)); exact (Kd.S_mono (Kd.S_far (p := ⟨gb196, 2, none⟩) (Kd.S_far (p := ⟨gb196, 1, none⟩) (Kd.S_far (p := ⟨gb196, 0, none⟩) (Kd.S_types HO194.out BK196.out (by decide)) (fun _ hk => hk.2) (.int .u64 t197)) (fun _ hk => hk.2) (.int .i64 t198)) (fun _ hk => hk.2) (.slice Ao59 t199.length co59)) (fun _ h_ => h_.1))))) (Kd.S_lt (by (with_reducible repeat (first | apply Kd.S_alloc | apply Kd.S_drewN | apply Kd.S_drew)); exact (Kd.S_mono (Kd.S_far (p := ⟨gb196, 2, none⟩) (Kd.S_far (p := ⟨gb196, 1, none⟩) (Kd.S_far (p := ⟨gb196, 0, none⟩) (Kd.S_types HO201.out BK196.out (by decide)) (fun _ hk => hk.2) (.int .u64 t197)) (fun _ hk => hk.2) (.int .i64 t198)) (fun _ hk => hk.2) (.slice Ao59 t199.length co59)) (fun _ h_ => h_.1))))) (below_size (bl_ HB))); have n3_ := Aside0.mk (blk_below (g := gb196) (o := .cells #[.int .u64 t197, .int .i64 t198, .slice Ao59 t199.length co59] 25 (0, 0)) (by (with_reducible repeat (first | refine blk_drewN ?_ _ | refine blk_drew ?_ | refine blk_alloc ?_ _)); refine blk_put (cs := #[.int .u64 t197, .int .i64 t198, .slice Ao56 t192.length co56]) ?_ 2 _ rfl; (with_reducible repeat (first | refine blk_drewN ?_ _ | refine blk_drew ?_ | refine blk_alloc ?_ _)); refine blk_put (cs := #[.int .u64 t197, .int .i64 t191, .slice Ao56 t192.length co56]) ?_ 1 _ rfl; (with_reducible repeat (first | refine blk_drewN ?_ _ | refine blk_drew ?_ | refine blk_alloc ?_ _)); refine blk_put (cs := #[.int .u64 t190, .int .i64 t191, .slice Ao56 t192.length co56]) ?_ 0 _ rfl; (with_reducible repeat (first | refine blk_drewN ?_ _ | refine blk_drew ?_ | refine blk_alloc ?_ _)); exact BK196.out) hb); have n4_ := Aside0.mk (below_step (bl_ HB) hb); clear HO194; clear HO201; clear BK196; clear HB; have HO194 := n0_; have HO201 := n1_; have HO207 := n2_; have BK196 := n3_; have HB := n4_; clear n0_ n1_ n2_ n3_ n4_; (try clear hb); (try clear hb2); (try clear hk); (try clear hi); (try clear ho0); have hcz61_0 : w60.cell? ⟨gb196, 0, none⟩ = some (.int .u64 t197) := (blk_cell BK196.out 0).trans rfl; have hcz61_1 : w60.cell? ⟨gb196, 1, none⟩ = some (.int .i64 t198) := (blk_cell BK196.out 1).trans rfl; have hcz61_2 : w60.cell? ⟨gb196, 2, none⟩ = some (.slice Ao59 t199.length co59) := (blk_cell BK196.out 2).trans rfl; have hfz61_0 := blk_frozen BK196.out 0; have hfz61_1 := blk_frozen BK196.out 1; have hfz61_2 := blk_frozen BK196.out 2; obtain ⟨Ao62, co62, eo62⟩ := Kd.S_slice HO207.out; subst eo62) | ((with_reducible refine gate_callee (f := 16) rfl ?_); refine goesL_ (some 23) rfl rfl Try.func16 (by kernel_rfl) rfl #[.agg #[.int .u64 t203, .int .i64 t204, .slice Ao62 t205.length co62], .string (⟨#[97]⟩ : ByteArray)] rfl (by (try simp only [List.map_toArray, List.map_cons, List.map_nil]); first | done | rfl | (simp only [List.length_drop, List.length_take]; rfl)) ?_; (with_reducible refine (least_Get.calls k t203 t204 _ _ t205 (⟨#[97]⟩ : ByteArray) t209 t210 _ ?side1 ?side2 A4.out).mono ?_); (case side1 => refine (Kd.S_reads' (e := 33) (base := w.heap.size) (ok := fun k_ => ((True ∧ some k_ ≠ (.slice Ao56 t192.length co56 : Value).ownBlock) ∧ some k_ ≠ (.slice Ao59 t199.length co59 : Value).ownBlock)) (n := t205.length) (c := co62) ?_).2.2; exact (by (with_reducible repeat (first | apply Kd.S_alloc | apply Kd.S_drewN | apply Kd.S_drew)); exact (Kd.S_mono (Kd.S_far (p := ⟨gb196, 2, none⟩) (Kd.S_far (p := ⟨gb196, 1, none⟩) (Kd.S_far (p := ⟨gb196, 0, none⟩) (Kd.S_types HO207.out BK196.out (by decide)) (fun _ hk => hk.2) (.int .u64 t203)) (fun _ hk => hk.2) (.int .i64 t204)) (fun _ hk => hk.2) (.slice Ao62 t205.length co62)) (fun _ h_ => h_.1)))); (case side2 => exact (Kd.S_reads' HO207.out).2.1); rintro e w63 ⟨rfl, hb⟩; refine ⟨_, rfl, ?_⟩; have n0_ := Aside0.mk (Kd.S_below (by (with_reducible repeat (first | apply Kd.S_alloc | apply Kd.S_drewN | apply Kd.S_drew)); exact (Kd.S_mono (Kd.S_far (p := ⟨gb196, 2, none⟩) (Kd.S_far (p := ⟨gb196, 1, none⟩) (Kd.S_far (p := ⟨gb196, 0, none⟩) (Kd.S_types HO194.out BK196.out (by decide)) (fun _ hk => hk.2) (.int .u64 t203)) (fun _ hk => hk.2) (.int .i64 t204)) (fun _ hk => hk.2) (.slice Ao62 t205.length co62)) (fun _ h_ => h_.1))) hb); have n1_ := Aside0.mk (Kd.S_below (by (with_reducible repeat (first | apply Kd.S_alloc | apply Kd.S_drewN | apply Kd.S_drew)); exact (Kd.S_mono (Kd.S_far (p := ⟨gb196, 2, none⟩) (Kd.S_far (p := ⟨gb196, 1, none⟩) (Kd.S_far (p := ⟨gb196, 0, none⟩) (Kd.S_types HO201.out BK196.out (by decide)) (fun _ hk => hk.2) (.int .u64 t203)) (fun _ hk => hk.2) (.int .i64 t204)) (fun _ hk => hk.2) (.slice Ao62 t205.length co62)) (fun _ h_ => h_.1))) hb); have n2_ := Aside0.mk (Kd.S_below (by (with_reducible repeat (first | apply Kd.S_alloc | apply Kd.S_drewN | apply Kd.S_drew)); exact (Kd.S_mono (Kd.S_far (p := ⟨gb196, 2, none⟩) (Kd.S_far (p := ⟨gb196, 1, none⟩) (Kd.S_far (p := ⟨gb196, 0, none⟩) (Kd.S_types HO207.out BK196.out (by decide)) (fun _ hk => hk.2) (.int .u64 t203)) (fun _ hk => hk.2) (.int .i64 t204)) (fun _ hk => hk.2) (.slice Ao62 t205.length co62)) (fun _ h_ => h_.1))) hb); have n3_ := Aside0.mk (blk_below (g := gb196) (o := .cells #[.int .u64 t203, .int .i64 t204, .slice Ao62 t205.length co62] 25 (0, 0)) (by (with_reducible repeat (first | refine blk_drewN ?_ _ | refine blk_drew ?_ | refine blk_alloc ?_ _)); refine blk_put (cs := #[.int .u64 t203, .int .i64 t204, .slice Ao59 t199.length co59]) ?_ 2 _ rfl; (with_reducible repeat (first | refine blk_drewN ?_ _ | refine blk_drew ?_ | refine blk_alloc ?_ _)); refine blk_put (cs := #[.int .u64 t203, .int .i64 t198, .slice Ao59 t199.length co59]) ?_ 1 _ rfl; (with_reducible repeat (first | refine blk_drewN ?_ _ | refine blk_drew ?_ | refine blk_alloc ?_ _)); refine blk_put (cs := #[.int .u64 t197, .int .i64 t198, .slice Ao59 t199.length co59]) ?_ 0 _ rfl; (with_reducible repeat (first | refine blk_drewN ?_ _ | refine blk_drew ?_ | refine blk_alloc ?_ _)); exact BK196.out) hb); have n4_ := Aside0.mk (below_step (bl_ HB) hb); clear HO194; clear HO201; clear HO207; clear BK196; clear HB; have HO194 := n0_; have HO201 := n1_; have HO207 := n2_; have BK196 := n3_; have HB := n4_; clear n0_ n1_ n2_ n3_ n4_; (try clear hb); (try clear hb2); (try clear hk); (try clear hi)))
  go_ret; exact ⟨by first | rfl | (simp [errW_none, errW_some] <;> rfl) | (simp [*, errW_none, errW_some] <;> rfl), bl_ HB⟩

/-! ### rillmeterlaw11_few: function 20 -/
def rillmeterlaw11_few.l0 : Nat → List (S48) → Int → Int → Option (Bool)
  | 0, _, _, _ => none
  | k + 1, x0, x5, x6 => if x6 < x5 then (if 0 ≤ x6 then (if x6 < (x0.length : Int) then (if (((rd_T48 x0 x6).f0).size : Int) > 100 then (some false) else (if ((rd_T48 x0 x6).f1) < 0 then (some false) else (if ((rd_T48 x0 x6).f1) > 1073741824 then (some false) else (rillmeterlaw11_few.l0 k x0 x5 (wrap64 (x6 + 1)))))) else (none)) else (none)) else (some (decide ((x0.length : Int) ≤ 40)))
def rillmeterlaw11_few.f (k : Nat) (l0 : List (S48)) : Option (Bool) := rillmeterlaw11_few.l0 k l0 (l0.length : Int) 0
theorem rillmeterlaw11_few.mono_l : ∀ k, (∀ y0 y1 y2, LeO (rillmeterlaw11_few.l0 k y0 y1 y2) (rillmeterlaw11_few.l0 (k + 1) y0 y1 y2))
  | 0 => fun _ _ _ r h => by simp [rillmeterlaw11_few.l0] at h
  | k + 1 => by
    have ih0 := rillmeterlaw11_few.mono_l k
    · intro y0 y1 y2
      unfold rillmeterlaw11_few.l0
      repeat' first
      | (with_reducible exact ih0 _ _ _)
      | (with_reducible exact LeO.refl _)
      | (with_reducible exact LeO.none _)
      | (with_reducible refine LeO.ite ?_ ?_)
      | (with_reducible refine LeO.bind ?_ (fun _ => ?_))
      | exact ih0 _ _ _
      | exact LeO.none _
      | refine LeO.ite ?_ ?_
      | refine LeO.bind ?_ (fun _ => ?_)
theorem rillmeterlaw11_few.mono : ∀ a0 k, LeO (rillmeterlaw11_few.f k a0) (rillmeterlaw11_few.f (k + 1) a0) := by
  intro a0 k
  have ih0 := rillmeterlaw11_few.mono_l k
  unfold rillmeterlaw11_few.f
  repeat' first
      | (with_reducible exact ih0 _ _ _)
      | (with_reducible exact LeO.refl _)
      | (with_reducible exact LeO.none _)
      | (with_reducible refine LeO.ite ?_ ?_)
      | (with_reducible refine LeO.bind ?_ (fun _ => ?_))
      | exact ih0 _ _ _
      | exact LeO.none _
      | refine LeO.ite ?_ ?_
      | refine LeO.bind ?_ (fun _ => ?_)
set_option maxHeartbeats 80000000 in
set_option maxRecDepth 100000 in
theorem rillmeterlaw11_few.calls (k : Nat) (A0 : Option Addr) (c0 : Nat) (l0 : List (S48)) (r : Bool) (w : World) (hr0 : Kd.C k48 w A0 l0.length l0) (hc0 : l0.length ≤ c0) (h : rillmeterlaw11_few.f k l0 = some r) :
    Calls Try.prog 20 #[.slice A0 l0.length c0] w fun e w' => e = .returned (.bool r) ∧ Drawn0 w w' := by
 have HR0 := Aside0.mk hr0; have HC0 := Aside0.mk hc0; clear hr0 hc0; have H : (rillmeterlaw11_few.l0 k l0 (l0.length : Int) 0) = some r := h; clear h; have H' := Aside0.mk H; clear H
 go_enter Try.func20, Try.ntmps20
 go_wp2
 go_loopg [6] k (fun kq v6 w' => ∃ (x6_1 : Int), v6 = .int .i64 x6_1 ∧ Aside0 (rillmeterlaw11_few.l0 kq l0 (l0.length : Int) x6_1 = some r) ∧ Aside0 (kq ≤ k) ∧ Drawn0 w w')
 case atStart => exact ⟨(0), (by first | rfl | (simp; done) | (simp [*]; done)), H', ⟨Nat.le_refl _⟩, by repeat (first | exact Drawn0.refl _ | apply Drawn0.step)⟩
 case round =>
  clear H'; obtain ⟨x6_1, rfl, HA, HK1, ⟨m1, rfl⟩⟩ := hrel
  cases gk with
  | zero => exact absurd HA.out (by simp [rillmeterlaw11_few.l0])
  | succ k1 =>
   have H := HA.out; clear HA; simp only [rillmeterlaw11_few.l0] at H
   by_cases c2 : x6_1 < (l0.length : Int)
   ·rw [if_pos c2] at H; have c2b0 : decide (x6_1 < (l0.length : Int)) = true := decide_eq_true c2; clear c2
    by_cases c3 : 0 ≤ x6_1
    ·rw [if_pos c3] at H; have c3b0 : decide (0 ≤ x6_1) = true := decide_eq_true c3; clear c3
     by_cases c4 : x6_1 < (l0.length : Int)
     ·rw [if_pos c4] at H; have c4b0 : decide (x6_1 < (l0.length : Int)) = true := decide_eq_true c4; clear c4
      by_cases c5 : (((rd_T48 l0 x6_1).f0).size : Int) > 100
      ·rw [if_pos c5] at H; have c5b0 : decide (100 < (((rd_T48 l0 x6_1).f0).size : Int)) = true := decide_eq_true c5; have c5b1 : decide (100 < ((rd_T48 l0 x6_1).f0).size) = true := decide_eq_true (by omega); clear c5; obtain rfl := Option.some.inj H; have p211 : 0 ≤ (x6_1 : Int) := of_decide_eq_true (by first | (with_reducible assumption) | assumption); have q211 : x6_1 < (l0.length : Int) := of_decide_eq_true (by first | (with_reducible assumption) | assumption); obtain ⟨ad211, e211, hx211_0, hx211_1⟩ := at_T48 HR0.out x6_1 p211 q211
       cases e211; replace p211 := eq_true p211; replace q211 := eq_true q211
       go_wp2
       go_ret; exact ⟨by first | rfl | (simp; done) | (simp [*]; done), by repeat (first | exact Drawn0.refl _ | apply Drawn0.step)⟩
      ·rw [if_neg c5] at H; have c5b0 : decide (100 < (((rd_T48 l0 x6_1).f0).size : Int)) = false := decide_eq_false c5; have c5b1 : decide (100 < ((rd_T48 l0 x6_1).f0).size) = false := decide_eq_false (by omega); clear c5
       by_cases c6 : ((rd_T48 l0 x6_1).f1) < 0
       ·rw [if_pos c6] at H; have c6b0 : decide (((rd_T48 l0 x6_1).f1) < 0) = true := decide_eq_true c6; clear c6; obtain rfl := Option.some.inj H; have p211 : 0 ≤ (x6_1 : Int) := of_decide_eq_true (by first | (with_reducible assumption) | assumption); have q211 : x6_1 < (l0.length : Int) := of_decide_eq_true (by first | (with_reducible assumption) | assumption); obtain ⟨ad211, e211, hx211_0, hx211_1⟩ := at_T48 HR0.out x6_1 p211 q211
        cases e211; replace p211 := eq_true p211; replace q211 := eq_true q211; have p212 : 0 ≤ (x6_1 : Int) := of_decide_eq_true (by first | (with_reducible assumption) | assumption); have q212 : x6_1 < (l0.length : Int) := of_decide_eq_true (by first | (with_reducible assumption) | assumption); obtain ⟨ad212, e212, hx212_0, hx212_1⟩ := at_T48 HR0.out x6_1 p212 q212; obtain rfl : ad211 = ad212 := (by injection e212); replace p212 := eq_true p212; replace q212 := eq_true q212
        go_wp2
        go_ret; exact ⟨by first | rfl | (simp; done) | (simp [*]; done), by repeat (first | exact Drawn0.refl _ | apply Drawn0.step)⟩
       ·rw [if_neg c6] at H; have c6b0 : decide (((rd_T48 l0 x6_1).f1) < 0) = false := decide_eq_false c6; clear c6
        by_cases c7 : ((rd_T48 l0 x6_1).f1) > 1073741824
        ·rw [if_pos c7] at H; have c7b0 : decide (1073741824 < ((rd_T48 l0 x6_1).f1)) = true := decide_eq_true c7; clear c7; obtain rfl := Option.some.inj H; have p211 : 0 ≤ (x6_1 : Int) := of_decide_eq_true (by first | (with_reducible assumption) | assumption); have q211 : x6_1 < (l0.length : Int) := of_decide_eq_true (by first | (with_reducible assumption) | assumption); obtain ⟨ad211, e211, hx211_0, hx211_1⟩ := at_T48 HR0.out x6_1 p211 q211
         cases e211; replace p211 := eq_true p211; replace q211 := eq_true q211; have p212 : 0 ≤ (x6_1 : Int) := of_decide_eq_true (by first | (with_reducible assumption) | assumption); have q212 : x6_1 < (l0.length : Int) := of_decide_eq_true (by first | (with_reducible assumption) | assumption); obtain ⟨ad212, e212, hx212_0, hx212_1⟩ := at_T48 HR0.out x6_1 p212 q212; obtain rfl : ad211 = ad212 := (by injection e212); replace p212 := eq_true p212; replace q212 := eq_true q212; have p213 : 0 ≤ (x6_1 : Int) := of_decide_eq_true (by first | (with_reducible assumption) | assumption); have q213 : x6_1 < (l0.length : Int) := of_decide_eq_true (by first | (with_reducible assumption) | assumption); obtain ⟨ad213, e213, hx213_0, hx213_1⟩ := at_T48 HR0.out x6_1 p213 q213; obtain rfl : ad211 = ad213 := (by injection e213); replace p213 := eq_true p213; replace q213 := eq_true q213
         go_wp2
         go_ret; exact ⟨by first | rfl | (simp; done) | (simp [*]; done), by repeat (first | exact Drawn0.refl _ | apply Drawn0.step)⟩
        ·rw [if_neg c7] at H; have c7b0 : decide (1073741824 < ((rd_T48 l0 x6_1).f1)) = false := decide_eq_false c7; clear c7; have H' := Aside0.mk H; clear H; have p211 : 0 ≤ (x6_1 : Int) := of_decide_eq_true (by first | (with_reducible assumption) | assumption); have q211 : x6_1 < (l0.length : Int) := of_decide_eq_true (by first | (with_reducible assumption) | assumption); obtain ⟨ad211, e211, hx211_0, hx211_1⟩ := at_T48 HR0.out x6_1 p211 q211
         cases e211; replace p211 := eq_true p211; replace q211 := eq_true q211; have p212 : 0 ≤ (x6_1 : Int) := of_decide_eq_true (by first | (with_reducible assumption) | assumption); have q212 : x6_1 < (l0.length : Int) := of_decide_eq_true (by first | (with_reducible assumption) | assumption); obtain ⟨ad212, e212, hx212_0, hx212_1⟩ := at_T48 HR0.out x6_1 p212 q212; obtain rfl : ad211 = ad212 := (by injection e212); replace p212 := eq_true p212; replace q212 := eq_true q212; have p213 : 0 ≤ (x6_1 : Int) := of_decide_eq_true (by first | (with_reducible assumption) | assumption); have q213 : x6_1 < (l0.length : Int) := of_decide_eq_true (by first | (with_reducible assumption) | assumption); obtain ⟨ad213, e213, hx213_0, hx213_1⟩ := at_T48 HR0.out x6_1 p213 q213; obtain rfl : ad211 = ad213 := (by injection e213); replace p213 := eq_true p213; replace q213 := eq_true q213
         go_wp2
         go_roundg k1
         case measure => have := HK1.out; omega
         case rel => exact ⟨(wrap64 (x6_1 + 1)), (by first | rfl | (simp; done) | (simp [*]; done)), H', ⟨by have := HK1.out; omega⟩, by repeat (first | exact Drawn0.refl _ | apply Drawn0.step)⟩
     ·rw [if_neg c4] at H; exact absurd H (by simp)
    ·rw [if_neg c3] at H; exact absurd H (by simp)
   ·rw [if_neg c2] at H; have c2b0 : decide (x6_1 < (l0.length : Int)) = false := decide_eq_false c2; clear c2; obtain rfl := Option.some.inj H
    go_wp2
    go_ret; exact ⟨by first | rfl | (simp; done) | (simp [*]; done), by repeat (first | exact Drawn0.refl _ | apply Drawn0.step)⟩

/-! ### rillmeterlaw11_adds: function 21 -/
def rillmeterlaw11_adds.l0 : Nat → List (S48) → Int → Int → Int → Int → List (List Int) → Option (Int × Int × (List (List Int)))
  | 0, _, _, _, _, _, _ => none
  | k + 1, x7, x8, x9, x215000, x215001, x215002 => if x9 < x8 then (if 0 ≤ x9 then (if x9 < (x7.length : Int) then ((least_Add.f k x215000 x215001 x215002 ((rd_T48 x7 x9).f0) ((rd_T48 x7 x9).f1)).bind fun bt218 => (rillmeterlaw11_adds.l0 k x7 x8 (wrap64 (x9 + 1)) bt218.1 bt218.2.1 bt218.2.2.1)) else (none)) else (none)) else (some (x215000, x215001, x215002))
def rillmeterlaw11_adds.f (k : Nat) (a0_0 : Int) (a0_1 : Int) (l0_2 : List (List Int)) (l1 : List (S48)) : Option (Int × Int × (List (List Int))) := rillmeterlaw11_adds.l0 k l1 (l1.length : Int) 0 a0_0 a0_1 l0_2
theorem rillmeterlaw11_adds.mono_l : ∀ k, (∀ y0 y1 y2 y3 y4 y5, LeO (rillmeterlaw11_adds.l0 k y0 y1 y2 y3 y4 y5) (rillmeterlaw11_adds.l0 (k + 1) y0 y1 y2 y3 y4 y5))
  | 0 => fun _ _ _ _ _ _ r h => by simp [rillmeterlaw11_adds.l0] at h
  | k + 1 => by
    have ih0 := rillmeterlaw11_adds.mono_l k
    · intro y0 y1 y2 y3 y4 y5
      unfold rillmeterlaw11_adds.l0
      repeat' first
      | (with_reducible exact ih0 _ _ _ _ _ _)
      | (with_reducible exact least_Add.mono _ _ _ _ _ _)
      | (with_reducible exact LeO.refl _)
      | (with_reducible exact LeO.none _)
      | (with_reducible refine LeO.ite ?_ ?_)
      | (with_reducible refine LeO.bind ?_ (fun _ => ?_))
      | exact ih0 _ _ _ _ _ _
      | exact least_Add.mono _ _ _ _ _ _
      | exact LeO.none _
      | refine LeO.ite ?_ ?_
      | refine LeO.bind ?_ (fun _ => ?_)
theorem rillmeterlaw11_adds.mono : ∀ a0 a1 a2 a3 k, LeO (rillmeterlaw11_adds.f k a0 a1 a2 a3) (rillmeterlaw11_adds.f (k + 1) a0 a1 a2 a3) := by
  intro a0 a1 a2 a3 k
  have ih0 := rillmeterlaw11_adds.mono_l k
  unfold rillmeterlaw11_adds.f
  repeat' first
      | (with_reducible exact ih0 _ _ _ _ _ _)
      | (with_reducible exact least_Add.mono _ _ _ _ _ _)
      | (with_reducible exact LeO.refl _)
      | (with_reducible exact LeO.none _)
      | (with_reducible refine LeO.ite ?_ ?_)
      | (with_reducible refine LeO.bind ?_ (fun _ => ?_))
      | exact ih0 _ _ _ _ _ _
      | exact least_Add.mono _ _ _ _ _ _
      | exact LeO.none _
      | refine LeO.ite ?_ ?_
      | refine LeO.bind ?_ (fun _ => ?_)
set_option maxHeartbeats 80000000 in
set_option maxRecDepth 100000 in
theorem rillmeterlaw11_adds.calls (k : Nat) (a0_0 : Int) (a0_1 : Int) (P0_2_ : Nat → Prop) (A0_2 : Option Addr) (c0_2 : Nat) (l0_2 : List (List Int)) (A1 : Option Addr) (c1 : Nat) (l1 : List (S48)) (r1 : Int) (r2 : Int) (r3 : List (List Int)) (w : World) (hs0_2 : Kd.V (Kd.slice 3 (Kd.int .i64)) 33 w w.heap.size (fun k_ => P0_2_ k_) (.slice A0_2 l0_2.length c0_2) l0_2) (hr1 : Kd.C k48 w A1 l1.length l1) (hc1 : l1.length ≤ c1) (h : rillmeterlaw11_adds.f k a0_0 a0_1 l0_2 l1 = some (r1, r2, r3)) :
    Calls Try.prog 21 #[.agg #[.int .u64 a0_0, .int .i64 a0_1, .slice A0_2 l0_2.length c0_2], .slice A1 l1.length c1] w fun e w' => ∃ v2_ : Value, e = .returned (.agg #[.int .u64 r1, .int .i64 r2, v2_]) ∧ Kd.V (Kd.slice 3 (Kd.int .i64)) 33 w' w.heap.size (fun k_ => (P0_2_ k_ ∨ w.heap.size ≤ k_)) v2_ r3 ∧ Below w.heap.size w w' := by
 have hu25 := Try.underlying25; have hu48 := Try.underlying48; have HO0_2 := Aside0.mk (show Kd.V (Kd.slice 3 (Kd.int .i64)) 33 w w.heap.size (fun k_ => (P0_2_ k_ ∨ w.heap.size ≤ k_)) (.slice A0_2 l0_2.length c0_2) l0_2 from Kd.V_mono hs0_2 (fun k_ hk => .inl hk)); have HR1 := Aside0.mk hr1; have HC1 := Aside0.mk hc1; clear hr1 hc1; have HB := Aside0.mk (Below.refl w.heap.size w); have H : (rillmeterlaw11_adds.l0 k l1 (l1.length : Int) 0 a0_0 a0_1 l0_2) = some (r1, r2, r3) := h; clear h; have H' := Aside0.mk H; clear H
 go_enter Try.func21, Try.ntmps21
 go_wp2_with (first | ((with_reducible refine gate_dst (N := 2) rfl ?_); refine box_event ?hg (N := 2) ?hd (cs := #[.int .u64 a0_0, .int .i64 a0_1, .slice A0_2 l0_2.length c0_2]) (t := 25) ?hr ?_; (case hd => rfl); (case hg => rfl); (case hr => first | (go_simp; done) | (go_simp; rfl)); intro gb214 hg w3 hbox hb; have n0_ := Aside0.mk (Kd.V_below (Kd.V_elderB (vk_ HO0_2) gb214 (Nat.le_of_eq hg.symm)) hb); have n1_ := Aside0.mk (below_step (bl_ HB) hb); have n2_ := Aside0.mk (hbox); have n3_ := Aside0.mk (gl_ hg HB); have n4_ := Aside0.mk (gl_ hg HB); clear HO0_2; clear HB; have HO0_2 := n0_; have HB := n1_; have BK214 := n2_; have GW214 := n3_; have GE214 := n4_; clear n0_ n1_ n2_ n3_ n4_; clear hb hbox hg) | ((with_reducible refine gate_dst (N := 4) rfl ?_); refine box_event ?hg (N := 4) ?hd (cs := #[.int .u64 0, .int .i64 0, .slice none 0 0]) (t := 25) ?hr ?_; (case hd => rfl); (case hg => rfl); (case hr => first | (go_simp; done) | (go_simp; rfl)); intro gb215 hg w4 hbox hb; have n0_ := Aside0.mk (Kd.V_below (Kd.V_elderB (vk_ HO0_2) gb215 (Nat.le_of_eq hg.symm)) hb); have n1_ := Aside0.mk (blk_below (bk_ BK214) hb); have n2_ := Aside0.mk (below_step (bl_ HB) hb); have n3_ := Aside0.mk (hbox); have n4_ := Aside0.mk (gl_ hg HB); have n5_ := Aside0.mk (gl_ hg HB); have n6_ := Aside0.mk (nl_ hg BK214); have n7_ := Aside0.mk (ng_ hg BK214); clear HO0_2; clear BK214; clear HB; have HO0_2 := n0_; have BK214 := n1_; have HB := n2_; have BK215 := n3_; have GW215 := n4_; have GE215 := n5_; have NB214_215 := n6_; have NB215_214 := n7_; clear n0_ n1_ n2_ n3_ n4_ n5_ n6_ n7_; clear hb hbox hg))
 go_loopg [9] k (fun kq v9 w' => ∃ (x9_1 : Int) (x215000_1 : Int) (x215001_1 : Int) (x215002_1 : List (List Int)) (u215002 : Value), v9 = .int .i64 x9_1 ∧ Aside0 (rillmeterlaw11_adds.l0 kq l1 (l1.length : Int) x9_1 x215000_1 x215001_1 x215002_1 = some (r1, r2, r3)) ∧ Aside0 (kq ≤ k) ∧ Aside0 (Kd.V (Kd.slice 3 (Kd.int .i64)) 33 w' w.heap.size (fun k_ => (P0_2_ k_ ∨ w.heap.size ≤ k_) ∧ k_ ≠ gb214 ∧ k_ ≠ gb215) u215002 x215002_1) ∧ Aside0 (w'.heap[gb214]? = some (.cells #[.int .u64 x215000_1, .int .i64 x215001_1, u215002] 25 (0, 0))) ∧ Aside0 (w'.heap[gb215]? = some (.cells #[.int .u64 0, .int .i64 0, (.slice none 0 0)] 25 (0, 0))) ∧ Aside0 (Below w.heap.size w w'))
 case atStart => exact ⟨(0), (a0_0), (a0_1), (l0_2), (.slice A0_2 l0_2.length c0_2), (by first | rfl | (simp; done) | (simp [*]; done)), H', ⟨Nat.le_refl _⟩, ⟨by (with_reducible repeat (first | apply Kd.V_alloc | apply Kd.V_drewN | apply Kd.V_drew)); exact Kd.V_mono HO0_2.out (fun _ hk => ⟨hk.1.1, ⟨hk.1.2, hk.2⟩⟩)⟩, ⟨bk_ BK214⟩, ⟨bk_ BK215⟩, ⟨bl_ HB⟩⟩
 case round =>
  clear H'; (try clear c1); (try clear c2); (try clear p2); obtain ⟨x9_1, x215000_1, x215001_1, x215002_1, u215002, rfl, HA, HK1, HO_215002, BK214, BK215, HB⟩ := hrel
  cases gk with
  | zero => exact absurd HA.out (by simp [rillmeterlaw11_adds.l0])
  | succ k1 =>
   have H := HA.out; clear HA; simp only [rillmeterlaw11_adds.l0] at H
   by_cases c5 : x9_1 < (l1.length : Int)
   ·rw [if_pos c5] at H; have c5b0 : decide (x9_1 < (l1.length : Int)) = true := decide_eq_true c5; clear c5
    by_cases c6 : 0 ≤ x9_1
    ·rw [if_pos c6] at H; have c6b0 : decide (0 ≤ x9_1) = true := decide_eq_true c6; clear c6
     by_cases c7 : x9_1 < (l1.length : Int)
     ·rw [if_pos c7] at H; have c7b0 : decide (x9_1 < (l1.length : Int)) = true := decide_eq_true c7; clear c7; replace H := Option.bind_eq_some_iff.mp H; obtain ⟨⟨t218, t219, t220, t223⟩, A80, H⟩ := H; replace H : (rillmeterlaw11_adds.l0 k1 l1 (l1.length : Int) (wrap64 (x9_1 + 1)) t218 t219 t220) = some (r1, r2, r3) := H; have A8 := Aside0.mk A80; clear A80; have H' := Aside0.mk H; clear H; have p216 : 0 ≤ (x9_1 : Int) := of_decide_eq_true (by first | (with_reducible assumption) | assumption); have q216 : x9_1 < (l1.length : Int) := of_decide_eq_true (by first | (with_reducible assumption) | assumption); obtain ⟨ad216, e216, hx216_0, hx216_1⟩ := at_T48 HR1.out x9_1 p216 q216
      cases e216; (try replace hx216_0 := (HB.out.cell (World.block_lt_of_cell? w _ hx216_0)).trans hx216_0); (try replace hx216_1 := (HB.out.cell (World.block_lt_of_cell? w _ hx216_1)).trans hx216_1); replace p216 := eq_true p216; replace q216 := eq_true q216
      go_wp2_with (first | ((with_reducible refine gate_dst (N := 6) rfl ?_); refine box_event ?hg (N := 6) ?hd (cs := #[.string (⟨#[]⟩ : ByteArray), .int .i64 0]) (t := 48) ?hr ?_; (case hd => rfl); (case hg => rfl); (case hr => first | (go_simp; done) | (go_simp; rfl)); intro gb217 hg w9 hbox hb; have n0_ := Aside0.mk (Kd.V_below (Kd.V_elderB (vk_ HO_215002) gb217 (Nat.le_of_eq hg.symm)) hb); have n1_ := Aside0.mk (blk_below (bk_ BK214) hb); have n2_ := Aside0.mk (blk_below (bk_ BK215) hb); have n3_ := Aside0.mk (below_step (bl_ HB) hb); have n4_ := Aside0.mk (hbox); have n5_ := Aside0.mk (gl_ hg HB); have n6_ := Aside0.mk (gl_ hg HB); have n7_ := Aside0.mk (nl_ hg BK214); have n8_ := Aside0.mk (ng_ hg BK214); have n9_ := Aside0.mk (nl_ hg BK215); have n10_ := Aside0.mk (ng_ hg BK215); clear HO_215002; clear BK214; clear BK215; clear HB; have HO_215002 := n0_; have BK214 := n1_; have BK215 := n2_; have HB := n3_; have BK217 := n4_; have GW217 := n5_; have GE217 := n6_; have NB214_217 := n7_; have NB217_214 := n8_; have NB215_217 := n9_; have NB217_215 := n10_; clear n0_ n1_ n2_ n3_ n4_ n5_ n6_ n7_ n8_ n9_ n10_; clear hb hbox hg; have hnb10 := NB217_214.out; have hnc10 := NB214_217.out; have hnb11 := NB217_215.out; have hnc11 := NB215_217.out; have hcz12_0 : w9.cell? ⟨gb217, 0, none⟩ = some (.string (⟨#[]⟩ : ByteArray)) := (blk_cell BK217.out 0).trans rfl; have hcz12_1 : w9.cell? ⟨gb217, 1, none⟩ = some (.int .i64 0) := (blk_cell BK217.out 1).trans rfl; have hfz12_0 := blk_frozen BK217.out 0; have hfz12_1 := blk_frozen BK217.out 1; have hnb13 := NB214_215.out; have hnc13 := NB215_214.out; have hcz14_0 : w9.cell? ⟨gb214, 0, none⟩ = some (.int .u64 x215000_1) := (blk_cell BK214.out 0).trans rfl; have hcz14_1 : w9.cell? ⟨gb214, 1, none⟩ = some (.int .i64 x215001_1) := (blk_cell BK214.out 1).trans rfl; have hcz14_2 : w9.cell? ⟨gb214, 2, none⟩ = some (u215002) := (blk_cell BK214.out 2).trans rfl; have hfz14_0 := blk_frozen BK214.out 0; have hfz14_1 := blk_frozen BK214.out 1; have hfz14_2 := blk_frozen BK214.out 2; obtain ⟨Ao15, co15, eo15⟩ := Kd.V_slice HO_215002.out; subst eo15) | ((with_reducible refine gate_callee (f := 15) rfl ?_); refine goesL_ (some 19) rfl rfl Try.func15 (by kernel_rfl) rfl #[.agg #[.int .u64 x215000_1, .int .i64 x215001_1, .slice Ao15 x215002_1.length co15], .string ((rd_T48 l1 x9_1).f0), .int .i64 ((rd_T48 l1 x9_1).f1)] rfl (by (try simp only [List.map_toArray, List.map_cons, List.map_nil]); first | done | rfl | (simp only [List.length_drop, List.length_take]; rfl)) ?_; (with_reducible refine (least_Add.calls k1 x215000_1 x215001_1 _ _ x215002_1 ((rd_T48 l1 x9_1).f0) ((rd_T48 l1 x9_1).f1) t218 t219 t220 t223 _ ?side1 ?side2 A8.out).mono ?_); (case side1 => refine (Kd.V_reads' (e := 33) (base := w.heap.size) (ok := fun k_ => (((P0_2_ k_ ∨ w.heap.size ≤ k_) ∧ (k_ ≠ gb214 ∧ k_ ≠ gb215)) ∧ k_ ≠ gb217)) (n := x215002_1.length) (c := co15) ?_).2.2; exact (by (with_reducible repeat (first | apply Kd.V_alloc | apply Kd.V_drewN | apply Kd.V_drew)); exact (Kd.V_mono (Kd.V_far (p := ⟨gb217, 1, none⟩) (Kd.V_far (p := ⟨gb217, 0, none⟩) (Kd.V_mono HO_215002.out (fun k_ hk => (⟨hk, hk.2⟩ : _ ∧ k_ ≠ gb217))) (fun _ hk => hk.2) (.string ((rd_T48 l1 x9_1).f0))) (fun _ hk => hk.2) (.int .i64 ((rd_T48 l1 x9_1).f1))) (fun _ h_ => h_.1)))); (case side2 => exact (Kd.V_reads' HO_215002.out).2.1); rintro e w16 ⟨v221, rfl, ho0, hb⟩; refine ⟨_, rfl, ?_⟩; have n0_ := Aside0.mk (Kd.V_elder' (by (with_reducible repeat (first | apply Kd.V_alloc | apply Kd.V_drewN | apply Kd.V_drew)); exact (Kd.V_mono (Kd.V_far (p := ⟨gb217, 1, none⟩) (Kd.V_far (p := ⟨gb217, 0, none⟩) (Kd.V_mono HO_215002.out (fun k_ hk => (⟨hk, hk.2⟩ : _ ∧ k_ ≠ gb217))) (fun _ hk => hk.2) (.string ((rd_T48 l1 x9_1).f0))) (fun _ hk => hk.2) (.int .i64 ((rd_T48 l1 x9_1).f1))) (fun _ h_ => h_.1))) (Kd.S_base ho0) hb); have n1_ := Aside0.mk (Kd.S_lower (Kd.S_newM (M := fun k_ => (w.heap.size ≤ k_)) ho0 (below_size (bl_ HB)) (fun k_ h_ => h_)) (below_size (bl_ HB))); have n2_ := Aside0.mk (blk_below (g := gb214) (o := .cells #[.int .u64 x215000_1, .int .i64 x215001_1, .slice Ao15 x215002_1.length co15] 25 (0, 0)) (by (with_reducible repeat (first | refine blk_drewN ?_ _ | refine blk_drew ?_ | refine blk_alloc ?_ _)); refine blk_far ?_ NB214_217.out _; (with_reducible repeat (first | refine blk_drewN ?_ _ | refine blk_drew ?_ | refine blk_alloc ?_ _)); refine blk_far ?_ NB214_217.out _; (with_reducible repeat (first | refine blk_drewN ?_ _ | refine blk_drew ?_ | refine blk_alloc ?_ _)); exact BK214.out) hb); have n3_ := Aside0.mk (blk_below (g := gb215) (o := .cells #[.int .u64 0, .int .i64 0, .slice none 0 0] 25 (0, 0)) (by (with_reducible repeat (first | refine blk_drewN ?_ _ | refine blk_drew ?_ | refine blk_alloc ?_ _)); refine blk_far ?_ NB215_217.out _; (with_reducible repeat (first | refine blk_drewN ?_ _ | refine blk_drew ?_ | refine blk_alloc ?_ _)); refine blk_far ?_ NB215_217.out _; (with_reducible repeat (first | refine blk_drewN ?_ _ | refine blk_drew ?_ | refine blk_alloc ?_ _)); exact BK215.out) hb); have n4_ := Aside0.mk (blk_below (g := gb217) (o := .cells #[.string ((rd_T48 l1 x9_1).f0), .int .i64 ((rd_T48 l1 x9_1).f1)] 48 (0, 0)) (by (with_reducible repeat (first | refine blk_drewN ?_ _ | refine blk_drew ?_ | refine blk_alloc ?_ _)); refine blk_put (cs := #[.string ((rd_T48 l1 x9_1).f0), .int .i64 0]) ?_ 1 _ rfl; (with_reducible repeat (first | refine blk_drewN ?_ _ | refine blk_drew ?_ | refine blk_alloc ?_ _)); refine blk_put (cs := #[.string (⟨#[]⟩ : ByteArray), .int .i64 0]) ?_ 0 _ rfl; (with_reducible repeat (first | refine blk_drewN ?_ _ | refine blk_drew ?_ | refine blk_alloc ?_ _)); exact BK217.out) hb); have n5_ := Aside0.mk (below_step (bl_ HB) hb); clear HO_215002; clear BK214; clear BK215; clear BK217; clear HB; have HO_215002 := n0_; have HO222 := n1_; have BK214 := n2_; have BK215 := n3_; have BK217 := n4_; have HB := n5_; clear n0_ n1_ n2_ n3_ n4_ n5_; (try clear hb); (try clear hb2); (try clear hk); (try clear hi); (try clear ho0); have hcz17_0 : w16.cell? ⟨gb214, 0, none⟩ = some (.int .u64 x215000_1) := (blk_cell BK214.out 0).trans rfl; have hcz17_1 : w16.cell? ⟨gb214, 1, none⟩ = some (.int .i64 x215001_1) := (blk_cell BK214.out 1).trans rfl; have hcz17_2 : w16.cell? ⟨gb214, 2, none⟩ = some (.slice Ao15 x215002_1.length co15) := (blk_cell BK214.out 2).trans rfl; have hfz17_0 := blk_frozen BK214.out 0; have hfz17_1 := blk_frozen BK214.out 1; have hfz17_2 := blk_frozen BK214.out 2; obtain ⟨Ao18, co18, eo18⟩ := Kd.S_slice HO222.out; subst eo18))
      go_roundg k1
      case measure => have := HK1.out; omega
      case rel => exact ⟨(wrap64 (x9_1 + 1)), (t218), (t219), (t220), (.slice Ao18 t220.length co18), (by first | rfl | (simp; done) | (simp [*]; done)), H', ⟨by have := HK1.out; omega⟩, ⟨Kd.V_mono (Kd.S_V (by (with_reducible repeat (first | apply Kd.S_alloc | apply Kd.S_drewN | apply Kd.S_drew)); exact Kd.S_mono (Kd.S_far (p := ⟨gb214, 2, none⟩) (Kd.S_far (p := ⟨gb214, 1, none⟩) (Kd.S_far (p := ⟨gb214, 0, none⟩) (Kd.S_types (Kd.S_types (Kd.S_types HO222.out BK214.out (by decide)) BK215.out (by decide)) BK214.out (by decide)) (fun _ hk => hk.2) (.int .u64 t218)) (fun _ hk => hk.2) (.int .i64 t219)) (fun _ hk => hk.2) (.slice Ao18 t220.length co18)) (fun k_ hk => (show w.heap.size ≤ k_ ∧ k_ ≠ gb214 ∧ k_ ≠ gb215 from ⟨hk.1.1.1.1, ⟨hk.1.1.2, hk.1.2⟩⟩)))) (fun k_ hk => by first | exact ⟨(.inr (hk.1)), hk.2⟩ | exact (.inr (hk)))⟩, ⟨by (with_reducible repeat (first | refine blk_drewN ?_ _ | refine blk_drew ?_ | refine blk_alloc ?_ _)); refine blk_put (cs := #[.int .u64 t218, .int .i64 t219, .slice Ao15 x215002_1.length co15]) ?_ 2 _ rfl; (with_reducible repeat (first | refine blk_drewN ?_ _ | refine blk_drew ?_ | refine blk_alloc ?_ _)); refine blk_put (cs := #[.int .u64 t218, .int .i64 x215001_1, .slice Ao15 x215002_1.length co15]) ?_ 1 _ rfl; (with_reducible repeat (first | refine blk_drewN ?_ _ | refine blk_drew ?_ | refine blk_alloc ?_ _)); refine blk_put (cs := #[.int .u64 x215000_1, .int .i64 x215001_1, .slice Ao15 x215002_1.length co15]) ?_ 0 _ rfl; (with_reducible repeat (first | refine blk_drewN ?_ _ | refine blk_drew ?_ | refine blk_alloc ?_ _)); exact BK214.out⟩, ⟨by (with_reducible repeat (first | refine blk_drewN ?_ _ | refine blk_drew ?_ | refine blk_alloc ?_ _)); refine blk_far ?_ NB215_214.out _; (with_reducible repeat (first | refine blk_drewN ?_ _ | refine blk_drew ?_ | refine blk_alloc ?_ _)); refine blk_far ?_ NB215_214.out _; (with_reducible repeat (first | refine blk_drewN ?_ _ | refine blk_drew ?_ | refine blk_alloc ?_ _)); refine blk_far ?_ NB215_214.out _; (with_reducible repeat (first | refine blk_drewN ?_ _ | refine blk_drew ?_ | refine blk_alloc ?_ _)); exact BK215.out⟩, ⟨bl_ HB⟩⟩
     ·rw [if_neg c7] at H; exact absurd H (by simp)
    ·rw [if_neg c6] at H; exact absurd H (by simp)
   ·rw [if_neg c5] at H; have c5b0 : decide (x9_1 < (l1.length : Int)) = false := decide_eq_false c5; clear c5; simp only [Option.some.injEq, Prod.mk.injEq] at H; obtain ⟨rfl, rfl, rfl⟩ := H; have hnb19 := NB214_215.out; have hnc19 := NB215_214.out; have hcz20_0 : wr.cell? ⟨gb214, 0, none⟩ = some (.int .u64 x215000_1) := (blk_cell BK214.out 0).trans rfl; have hcz20_1 : wr.cell? ⟨gb214, 1, none⟩ = some (.int .i64 x215001_1) := (blk_cell BK214.out 1).trans rfl; have hcz20_2 : wr.cell? ⟨gb214, 2, none⟩ = some (u215002) := (blk_cell BK214.out 2).trans rfl; have hfz20_0 := blk_frozen BK214.out 0; have hfz20_1 := blk_frozen BK214.out 1; have hfz20_2 := blk_frozen BK214.out 2; have hcz21_0 : wr.cell? ⟨gb215, 0, none⟩ = some (.int .u64 0) := (blk_cell BK215.out 0).trans rfl; have hcz21_1 : wr.cell? ⟨gb215, 1, none⟩ = some (.int .i64 0) := (blk_cell BK215.out 1).trans rfl; have hcz21_2 : wr.cell? ⟨gb215, 2, none⟩ = some (.slice none 0 0) := (blk_cell BK215.out 2).trans rfl; have hfz21_0 := blk_frozen BK215.out 0; have hfz21_1 := blk_frozen BK215.out 1; have hfz21_2 := blk_frozen BK215.out 2; obtain ⟨Ao22, co22, eo22⟩ := Kd.V_slice HO_215002.out; subst eo22
    go_wp2
    refine bodyPost_ret (results_cell_row rfl _ _ gb215 25 #[.int .u64 x215000_1, .int .i64 x215001_1, .slice Ao22 x215002_1.length co22] (0, 0) _ rfl (by (with_reducible repeat (first | refine blk_drewN ?_ _ | refine blk_drew ?_ | refine blk_alloc ?_ _)); refine blk_put (cs := #[.int .u64 x215000_1, .int .i64 x215001_1, .slice none 0 0]) ?_ 2 _ rfl; (with_reducible repeat (first | refine blk_drewN ?_ _ | refine blk_drew ?_ | refine blk_alloc ?_ _)); refine blk_put (cs := #[.int .u64 x215000_1, .int .i64 0, .slice none 0 0]) ?_ 1 _ rfl; (with_reducible repeat (first | refine blk_drewN ?_ _ | refine blk_drew ?_ | refine blk_alloc ?_ _)); refine blk_put (cs := #[.int .u64 0, .int .i64 0, .slice none 0 0]) ?_ 0 _ rfl; (with_reducible repeat (first | refine blk_drewN ?_ _ | refine blk_drew ?_ | refine blk_alloc ?_ _)); exact BK215.out) Try.underlying25 rfl (by kernel_rfl)) rfl ?_; exact ⟨_, by first | rfl | (simp [errW_none, errW_some] <;> rfl) | (simp [*, errW_none, errW_some] <;> rfl), by (with_reducible repeat (first | apply Kd.V_alloc | apply Kd.V_drewN | apply Kd.V_drew)); exact Kd.V_mono (Kd.V_far (p := ⟨gb215, 2, none⟩) (Kd.V_far (p := ⟨gb215, 1, none⟩) (Kd.V_far (p := ⟨gb215, 0, none⟩) (Kd.V_mono HO_215002.out (fun k_ hk => (⟨hk, hk.2.2⟩ : _ ∧ k_ ≠ gb215))) (fun _ hk => hk.2) (.int .u64 x215000_1)) (fun _ hk => hk.2) (.int .i64 x215001_1)) (fun _ hk => hk.2) (.slice Ao22 x215002_1.length co22)) (fun _ hk => hk.1.1), bl_ HB⟩

/-! ### least_Merge: function 23 -/
mutual
def least_Merge.j0 : Nat → Bool → Int → Int → List (List Int) → List (List Int) → Option (Int × Int × (List (List Int)) × Int)
  | 0, _, _, _, _, _ => none
  | k + 1, x52, x220000, x220001, x220002, b => if x52 = true then (some (0, 0, ([] : List (List Int)), 1)) else ((least_clone.f k x220000 x220001 x220002).bind fun bt226 => (least_Merge.l0 k b bt226.2.2 (bt226.2.2.length : Int) 0 bt226.1 bt226.2.1))
def least_Merge.l0 : Nat → List (List Int) → List (List Int) → Int → Int → Int → Int → Option (Int × Int × (List (List Int)) × Int)
  | 0, _, _, _, _, _, _ => none
  | k + 1, b, cur, n, x59, x220000, x220001 => if x59 < n then (if 0 ≤ x59 then (if x59 < (cur.length : Int) then (least_Merge.l1 k b cur n x59 ((rd_L1 cur x59).length : Int) 0 x220000 x220001) else (none)) else (none)) else (some (x220000, x220001, cur, 0))
def least_Merge.l1 : Nat → List (List Int) → List (List Int) → Int → Int → Int → Int → Int → Int → Option (Int × Int × (List (List Int)) × Int)
  | 0, _, _, _, _, _, _, _, _ => none
  | k + 1, b, cur, n, x59, x65, x66, x220000, x220001 => if x66 < x65 then (if 0 ≤ x66 then (if x59 < (b.length : Int) then (if x66 < ((rd_L1 b x59).length : Int) then (least_Merge.l1 k b (cur.set (x59 : Int).toNat ((rd_L1 cur x59).set (x66 : Int).toNat (mn (wrap64 ((rd (rd_L1 cur x59) x66) + (rd (rd_L1 b x59) x66))) x220001))) n x59 x65 (wrap64 (x66 + 1)) x220000 x220001) else (none)) else (none)) else (none)) else (least_Merge.l0 k b cur n (wrap64 (x59 + 1)) x220000 x220001)
end
def least_Merge.f (k : Nat) (a0_0 : Int) (a0_1 : Int) (l0_2 : List (List Int)) (a1_0 : Int) (a1_1 : Int) (l1_2 : List (List Int)) : Option (Int × Int × (List (List Int)) × Int) := (least_Right.f k a0_0 a0_1 l0_2).bind fun t222 => (if t222 = true then ((least_Right.f k a1_0 a1_1 l1_2).bind fun t223 => (if t223 = true then (if a0_0 = a1_0 then (if a0_1 = a1_1 then (if (l0_2.length : Int) = (l1_2.length : Int) then (if 0 < (l0_2.length : Int) then (if 0 < (l1_2.length : Int) then (least_Merge.j0 k (((rd_L1 l0_2 0).length : Int) != ((rd_L1 l1_2 0).length : Int)) a0_0 a0_1 l0_2 l1_2) else (none)) else (none)) else (least_Merge.j0 k true a0_0 a0_1 l0_2 l1_2)) else (least_Merge.j0 k true a0_0 a0_1 l0_2 l1_2)) else (least_Merge.j0 k true a0_0 a0_1 l0_2 l1_2)) else (least_Merge.j0 k true a0_0 a0_1 l0_2 l1_2))) else (least_Merge.j0 k true a0_0 a0_1 l0_2 l1_2))
theorem least_Merge.mono_l : ∀ k, (∀ y0 y1 y2 y3 y4, LeO (least_Merge.j0 k y0 y1 y2 y3 y4) (least_Merge.j0 (k + 1) y0 y1 y2 y3 y4)) ∧ (∀ y0 y1 y2 y3 y4 y5, LeO (least_Merge.l0 k y0 y1 y2 y3 y4 y5) (least_Merge.l0 (k + 1) y0 y1 y2 y3 y4 y5)) ∧ (∀ y0 y1 y2 y3 y4 y5 y6 y7, LeO (least_Merge.l1 k y0 y1 y2 y3 y4 y5 y6 y7) (least_Merge.l1 (k + 1) y0 y1 y2 y3 y4 y5 y6 y7))
  | 0 => ⟨fun _ _ _ _ _ r h => by simp [least_Merge.j0] at h, fun _ _ _ _ _ _ r h => by simp [least_Merge.l0] at h, fun _ _ _ _ _ _ _ _ r h => by simp [least_Merge.l1] at h⟩
  | k + 1 => by
    obtain ⟨ih0, ih1, ih2⟩ := least_Merge.mono_l k
    refine ⟨?_, ?_, ?_⟩
    · intro y0 y1 y2 y3 y4
      unfold least_Merge.j0
      repeat' first
      | (with_reducible exact least_clone.mono _ _ _ _)
      | (with_reducible exact ih1 _ _ _ _ _ _)
      | (with_reducible exact ih2 _ _ _ _ _ _ _ _)
      | (with_reducible exact LeO.refl _)
      | (with_reducible exact LeO.none _)
      | (with_reducible refine LeO.ite ?_ ?_)
      | (with_reducible refine LeO.bind ?_ (fun _ => ?_))
      | exact least_clone.mono _ _ _ _
      | exact ih1 _ _ _ _ _ _
      | exact ih2 _ _ _ _ _ _ _ _
      | exact LeO.none _
      | refine LeO.ite ?_ ?_
      | refine LeO.bind ?_ (fun _ => ?_)
    · intro y0 y1 y2 y3 y4 y5
      unfold least_Merge.l0
      repeat' first
      | (with_reducible exact least_clone.mono _ _ _ _)
      | (with_reducible exact ih1 _ _ _ _ _ _)
      | (with_reducible exact ih2 _ _ _ _ _ _ _ _)
      | (with_reducible exact LeO.refl _)
      | (with_reducible exact LeO.none _)
      | (with_reducible refine LeO.ite ?_ ?_)
      | (with_reducible refine LeO.bind ?_ (fun _ => ?_))
      | exact least_clone.mono _ _ _ _
      | exact ih1 _ _ _ _ _ _
      | exact ih2 _ _ _ _ _ _ _ _
      | exact LeO.none _
      | refine LeO.ite ?_ ?_
      | refine LeO.bind ?_ (fun _ => ?_)
    · intro y0 y1 y2 y3 y4 y5 y6 y7
      unfold least_Merge.l1
      repeat' first
      | (with_reducible exact least_clone.mono _ _ _ _)
      | (with_reducible exact ih1 _ _ _ _ _ _)
      | (with_reducible exact ih2 _ _ _ _ _ _ _ _)
      | (with_reducible exact LeO.refl _)
      | (with_reducible exact LeO.none _)
      | (with_reducible refine LeO.ite ?_ ?_)
      | (with_reducible refine LeO.bind ?_ (fun _ => ?_))
      | exact least_clone.mono _ _ _ _
      | exact ih1 _ _ _ _ _ _
      | exact ih2 _ _ _ _ _ _ _ _
      | exact LeO.none _
      | refine LeO.ite ?_ ?_
      | refine LeO.bind ?_ (fun _ => ?_)
theorem least_Merge.mono : ∀ a0 a1 a2 a3 a4 a5 k, LeO (least_Merge.f k a0 a1 a2 a3 a4 a5) (least_Merge.f (k + 1) a0 a1 a2 a3 a4 a5) := by
  intro a0 a1 a2 a3 a4 a5 k
  obtain ⟨ih0, ih1, ih2⟩ := least_Merge.mono_l k
  unfold least_Merge.f
  repeat' first
      | (with_reducible exact ih0 _ _ _ _ _)
      | (with_reducible exact ih1 _ _ _ _ _ _)
      | (with_reducible exact ih2 _ _ _ _ _ _ _ _)
      | (with_reducible exact least_Right.mono _ _ _ _)
      | (with_reducible exact least_clone.mono _ _ _ _)
      | (with_reducible exact LeO.refl _)
      | (with_reducible exact LeO.none _)
      | (with_reducible refine LeO.ite ?_ ?_)
      | (with_reducible refine LeO.bind ?_ (fun _ => ?_))
      | exact ih0 _ _ _ _ _
      | exact ih1 _ _ _ _ _ _
      | exact ih2 _ _ _ _ _ _ _ _
      | exact least_Right.mono _ _ _ _
      | exact least_clone.mono _ _ _ _
      | exact LeO.none _
      | refine LeO.ite ?_ ?_
      | refine LeO.bind ?_ (fun _ => ?_)
def least_Merge.T1 : Bool × List (List Nat × List Nat) := (true, [([], []), ([0], [0]), ([1], [1]), ([2, 1], [2]), ([3], [3]), ([4, 3, 3], [3, 4]), ([5, 3], [3, 5]), ([3, 6], [3, 6]), ([7, 5], [7]), ([8], [8]), ([9, 8], [8, 9]), ([8], [8]), ([11, 8], [8, 11]), ([10, 12, 8], [8, 10, 12]), ([8, 13], [8, 13]), ([14, 8], [14]), ([15], [15]), ([16, 15], [15, 16]), ([15], [15]), ([18, 15], [15, 18]), ([17, 19, 15], [15, 17, 19]), ([15, 20], [15, 20]), ([21, 15], [21]), ([22], [22]), ([23, 22], [22, 23]), ([24, 22], [22, 24]), ([22], [22]), ([26, 22], [22, 26]), ([27, 22], [22, 27]), ([25, 28, 22], [22, 25, 28]), ([22, 29], [22, 29]), ([30, 22], [30]), ([31], [31]), ([32, 31], [31, 32]), ([33, 31], [31, 33]), ([34, 31], [31, 34]), ([35, 31], [31, 35]), ([31], [31]), ([37, 31], [31, 37]), ([38, 31], [31, 38]), ([39, 31], [31, 39]), ([40, 31], [31, 40]), ([36, 41, 31], [31, 36, 41]), ([31, 42], [31, 42])])
def least_Merge.B1 : List Nat := [0, 1, 3, 7, 15, 31, 63, 127, 255, 511, 1023, 511, 2559, 8191, 16383, 32767, 65535, 131071, 65535, 327679, 1048575, 2097151, 4194303, 8388607, 16777215, 33554431, 8388607, 75497471, 209715199, 536870911, 1073741823, 2147483647, 4294967295, 8589934591, 17179869183, 34359738367, 68719476735, 4294967295, 141733920767, 416611827711, 966367641599, 2065879269375, 4398046511103, 8796093022207]
theorem least_Merge.tab1 : rtab .any (opsOf Try.f23 1) = least_Merge.T1 := by kernel_rfl
theorem least_Merge.bits1 : waitsOk least_Merge.T1.2 least_Merge.B1 = true := by kernel_rfl

set_option maxHeartbeats 80000000 in
set_option maxRecDepth 100000 in
theorem least_Merge.calls (k : Nat) (a0_0 : Int) (a0_1 : Int) (A0_2 : Option Addr) (c0_2 : Nat) (l0_2 : List (List Int)) (a1_0 : Int) (a1_1 : Int) (A1_2 : Option Addr) (c1_2 : Nat) (l1_2 : List (List Int)) (r1 : Int) (r2 : Int) (r3 : List (List Int)) (r4 : Int) (w : World) (hr0_2 : Kd.C (Kd.slice 3 (Kd.int .i64)) w A0_2 l0_2.length l0_2) (hc0_2 : l0_2.length ≤ c0_2) (hr1_2 : Kd.C (Kd.slice 3 (Kd.int .i64)) w A1_2 l1_2.length l1_2) (hc1_2 : l1_2.length ≤ c1_2) (h : least_Merge.f k a0_0 a0_1 l0_2 a1_0 a1_1 l1_2 = some (r1, r2, r3, r4)) :
    Calls Try.prog 23 #[.agg #[.int .u64 a0_0, .int .i64 a0_1, .slice A0_2 l0_2.length c0_2], .agg #[.int .u64 a1_0, .int .i64 a1_1, .slice A1_2 l1_2.length c1_2]] w fun e w' => ∃ v2_ : Value, e = .returned (.tuple #[.agg #[.int .u64 r1, .int .i64 r2, v2_], .int .i64 r4]) ∧ Kd.S (Kd.slice 3 (Kd.int .i64)) 33 w' w.heap.size (fun _ => True) v2_ r3 ∧ Below w.heap.size w w' := by
 have hu25 := Try.underlying25; have HR0_2 := Aside0.mk hr0_2; have HC0_2 := Aside0.mk hc0_2; clear hr0_2 hc0_2; have HR1_2 := Aside0.mk hr1_2; have HC1_2 := Aside0.mk hc1_2; clear hr1_2 hc1_2; have HB := Aside0.mk (Below.refl w.heap.size w); have H : ((least_Right.f k a0_0 a0_1 l0_2).bind fun t222 => (if t222 = true then ((least_Right.f k a1_0 a1_1 l1_2).bind fun t223 => (if t223 = true then (if a0_0 = a1_0 then (if a0_1 = a1_1 then (if (l0_2.length : Int) = (l1_2.length : Int) then (if 0 < (l0_2.length : Int) then (if 0 < (l1_2.length : Int) then (least_Merge.j0 k (((rd_L1 l0_2 0).length : Int) != ((rd_L1 l1_2 0).length : Int)) a0_0 a0_1 l0_2 l1_2) else (none)) else (none)) else (least_Merge.j0 k true a0_0 a0_1 l0_2 l1_2)) else (least_Merge.j0 k true a0_0 a0_1 l0_2 l1_2)) else (least_Merge.j0 k true a0_0 a0_1 l0_2 l1_2)) else (least_Merge.j0 k true a0_0 a0_1 l0_2 l1_2))) else (least_Merge.j0 k true a0_0 a0_1 l0_2 l1_2))) = some (r1, r2, r3, r4) := h; clear h; have HC3 := Aside0.mk H; clear H
 go_enter Try.func23, Try.ntmps23
 go_upto_region 1 with (first | ((with_reducible refine gate_dst (N := 2) rfl ?_); (try (refine gate_guard (by rfl) ?_; dsimp only)); refine box_event ?hg (N := 2) ?hd (cs := #[.int .u64 a0_0, .int .i64 a0_1, .slice A0_2 l0_2.length c0_2]) (t := 25) ?hr ?_; (case hd => rfl); (case hg => rfl); (case hr => first | (go_simp; done) | (go_simp; rfl)); intro gb219 hg w4 hbox hb; have n0_ := Aside0.mk (below_step (bl_ HB) hb); have n1_ := Aside0.mk (hbox); have n2_ := Aside0.mk (gl_ hg HB); have n3_ := Aside0.mk (gl_ hg HB); clear HB; have HB := n0_; have BK219 := n1_; have GW219 := n2_; have GE219 := n3_; clear n0_ n1_ n2_ n3_; clear hb hbox hg) | ((with_reducible refine gate_dst (N := 3) rfl ?_); (try (refine gate_guard (by rfl) ?_; dsimp only)); refine box_event ?hg (N := 3) ?hd (cs := #[.int .u64 a1_0, .int .i64 a1_1, .slice A1_2 l1_2.length c1_2]) (t := 25) ?hr ?_; (case hd => rfl); (case hg => rfl); (case hr => first | (go_simp; done) | (go_simp; rfl)); intro gb220 hg w5 hbox hb; have n0_ := Aside0.mk (blk_below (bk_ BK219) hb); have n1_ := Aside0.mk (below_step (bl_ HB) hb); have n2_ := Aside0.mk (hbox); have n3_ := Aside0.mk (gl_ hg HB); have n4_ := Aside0.mk (gl_ hg HB); have n5_ := Aside0.mk (nl_ hg BK219); have n6_ := Aside0.mk (ng_ hg BK219); clear BK219; clear HB; have BK219 := n0_; have HB := n1_; have BK220 := n2_; have GW220 := n3_; have GE220 := n4_; have NB219_220 := n5_; have NB220_219 := n6_; clear n0_ n1_ n2_ n3_ n4_ n5_ n6_; clear hb hbox hg) | ((with_reducible refine gate_dst (N := 4) rfl ?_); (try (refine gate_guard (by rfl) ?_; dsimp only)); refine box_event ?hg (N := 4) ?hd (cs := #[.int .u64 0, .int .i64 0, .slice none 0 0]) (t := 25) ?hr ?_; (case hd => rfl); (case hg => rfl); (case hr => first | (go_simp; done) | (go_simp; rfl)); intro gb221 hg w6 hbox hb; have n0_ := Aside0.mk (blk_below (bk_ BK219) hb); have n1_ := Aside0.mk (blk_below (bk_ BK220) hb); have n2_ := Aside0.mk (below_step (bl_ HB) hb); have n3_ := Aside0.mk (hbox); have n4_ := Aside0.mk (gl_ hg HB); have n5_ := Aside0.mk (gl_ hg HB); have n6_ := Aside0.mk (nl_ hg BK219); have n7_ := Aside0.mk (ng_ hg BK219); have n8_ := Aside0.mk (nl_ hg BK220); have n9_ := Aside0.mk (ng_ hg BK220); clear BK219; clear BK220; clear HB; have BK219 := n0_; have BK220 := n1_; have HB := n2_; have BK221 := n3_; have GW221 := n4_; have GE221 := n5_; have NB219_221 := n6_; have NB221_219 := n7_; have NB220_221 := n8_; have NB221_220 := n9_; clear n0_ n1_ n2_ n3_ n4_ n5_ n6_ n7_ n8_ n9_; clear hb hbox hg))
 (try simp only [Act.put, sa_, sb_, sc_])
 go_cut [52] (fun v52 wc => ∃ (kq : Nat) (x52_2 : Bool), v52 = .bool x52_2 ∧ Aside0 (least_Merge.j0 kq x52_2 a0_0 a0_1 l0_2 l1_2 = some (r1, r2, r3, r4)) ∧ Aside0 (kq ≤ k) ∧ Aside0 (wc.heap[gb219]? = some (.cells #[.int .u64 a0_0, .int .i64 a0_1, (.slice A0_2 l0_2.length c0_2)] 25 (0, 0))) ∧ Aside0 (wc.heap[gb220]? = some (.cells #[.int .u64 a1_0, .int .i64 a1_1, (.slice A1_2 l1_2.length c1_2)] 25 (0, 0))) ∧ Aside0 (wc.heap[gb221]? = some (.cells #[.int .u64 0, .int .i64 0, (.slice none 0 0)] 25 (0, 0))) ∧ Aside0 (Below w.heap.size w wc))
 case first =>
  have H := HC3.out; clear HC3; replace H := Option.bind_eq_some_iff.mp H; obtain ⟨t222, A70, H⟩ := H; replace H : (if t222 = true then ((least_Right.f k a1_0 a1_1 l1_2).bind fun t223 => (if t223 = true then (if a0_0 = a1_0 then (if a0_1 = a1_1 then (if (l0_2.length : Int) = (l1_2.length : Int) then (if 0 < (l0_2.length : Int) then (if 0 < (l1_2.length : Int) then (least_Merge.j0 k (((rd_L1 l0_2 0).length : Int) != ((rd_L1 l1_2 0).length : Int)) a0_0 a0_1 l0_2 l1_2) else (none)) else (none)) else (least_Merge.j0 k true a0_0 a0_1 l0_2 l1_2)) else (least_Merge.j0 k true a0_0 a0_1 l0_2 l1_2)) else (least_Merge.j0 k true a0_0 a0_1 l0_2 l1_2)) else (least_Merge.j0 k true a0_0 a0_1 l0_2 l1_2))) else (least_Merge.j0 k true a0_0 a0_1 l0_2 l1_2)) = some (r1, r2, r3, r4) := H; have A7 := Aside0.mk A70; clear A70
  by_cases c8 : t222 = true
  ·subst c8
   have H1 : ((least_Right.f k a1_0 a1_1 l1_2).bind fun t223 => (if t223 = true then (if a0_0 = a1_0 then (if a0_1 = a1_1 then (if (l0_2.length : Int) = (l1_2.length : Int) then (if 0 < (l0_2.length : Int) then (if 0 < (l1_2.length : Int) then (least_Merge.j0 k (((rd_L1 l0_2 0).length : Int) != ((rd_L1 l1_2 0).length : Int)) a0_0 a0_1 l0_2 l1_2) else (none)) else (none)) else (least_Merge.j0 k true a0_0 a0_1 l0_2 l1_2)) else (least_Merge.j0 k true a0_0 a0_1 l0_2 l1_2)) else (least_Merge.j0 k true a0_0 a0_1 l0_2 l1_2)) else (least_Merge.j0 k true a0_0 a0_1 l0_2 l1_2))) = some (r1, r2, r3, r4) := by rw [if_pos rfl] at H; exact H
   clear H; have H := H1; clear H1; replace H := Option.bind_eq_some_iff.mp H; obtain ⟨t223, A90, H⟩ := H; replace H : (if t223 = true then (if a0_0 = a1_0 then (if a0_1 = a1_1 then (if (l0_2.length : Int) = (l1_2.length : Int) then (if 0 < (l0_2.length : Int) then (if 0 < (l1_2.length : Int) then (least_Merge.j0 k (((rd_L1 l0_2 0).length : Int) != ((rd_L1 l1_2 0).length : Int)) a0_0 a0_1 l0_2 l1_2) else (none)) else (none)) else (least_Merge.j0 k true a0_0 a0_1 l0_2 l1_2)) else (least_Merge.j0 k true a0_0 a0_1 l0_2 l1_2)) else (least_Merge.j0 k true a0_0 a0_1 l0_2 l1_2)) else (least_Merge.j0 k true a0_0 a0_1 l0_2 l1_2)) = some (r1, r2, r3, r4) := H; have A9 := Aside0.mk A90; clear A90
   by_cases c10 : t223 = true
   ·subst c10
    have H1 : (if a0_0 = a1_0 then (if a0_1 = a1_1 then (if (l0_2.length : Int) = (l1_2.length : Int) then (if 0 < (l0_2.length : Int) then (if 0 < (l1_2.length : Int) then (least_Merge.j0 k (((rd_L1 l0_2 0).length : Int) != ((rd_L1 l1_2 0).length : Int)) a0_0 a0_1 l0_2 l1_2) else (none)) else (none)) else (least_Merge.j0 k true a0_0 a0_1 l0_2 l1_2)) else (least_Merge.j0 k true a0_0 a0_1 l0_2 l1_2)) else (least_Merge.j0 k true a0_0 a0_1 l0_2 l1_2)) = some (r1, r2, r3, r4) := by rw [if_pos rfl] at H; exact H
    clear H; have H := H1; clear H1
    by_cases c11 : a0_0 = a1_0
    ·rw [if_pos c11] at H; have c11b0 : (a0_0 == a1_0) = true := beq_iff_eq.mpr c11; have c11b1 : (a0_0 != a1_0) = false := bne_eq_false_iff_eq.mpr c11; clear c11
     (first | rw [c11b0] | (simp only [i64_w, i32_w]; rw [c11b0]) | skip)
     by_cases c12 : a0_1 = a1_1
     ·rw [if_pos c12] at H; have c12b0 : (a0_1 == a1_1) = true := beq_iff_eq.mpr c12; have c12b1 : (a0_1 != a1_1) = false := bne_eq_false_iff_eq.mpr c12; clear c12
      by_cases c13 : (l0_2.length : Int) = (l1_2.length : Int)
      ·rw [if_pos c13] at H; have c13b0 : ((l0_2.length : Int) == (l1_2.length : Int)) = true := beq_iff_eq.mpr c13; have c13b1 : ((l0_2.length : Int) != (l1_2.length : Int)) = false := bne_eq_false_iff_eq.mpr c13
       have c13b2 : (l0_2.length == l1_2.length) = true := by first | simpa using c13 | (simp at c13 ⊢; omega)
       clear c13
       by_cases c14 : 0 < (l0_2.length : Int)
       ·rw [if_pos c14] at H; have c14b0 : decide (0 < (l0_2.length : Int)) = true := decide_eq_true c14; have c14b1 : decide (0 < l0_2.length) = true := decide_eq_true (by omega); clear c14
        by_cases c15 : 0 < (l1_2.length : Int)
        ·rw [if_pos c15] at H; have c15b0 : decide (0 < (l1_2.length : Int)) = true := decide_eq_true c15; have c15b1 : decide (0 < l1_2.length) = true := decide_eq_true (by omega); clear c15; have H' := Aside0.mk H; clear H
         try go_wp2
         replace BK219 := Aside0.mk (blk_drew BK219.out); replace BK220 := Aside0.mk (blk_drew BK220.out); replace BK221 := Aside0.mk (blk_drew BK221.out); replace HB := Aside0.mk (below_drew1 HB.out); have p224 : 0 ≤ (0 : Int) := (by omega); have q224 : 0 < (l0_2.length : Int) := of_decide_eq_true (by first | (with_reducible assumption) | assumption); obtain ⟨ad224, A224_0, c224_0, e224, hx224_0, hl224_0, hi224_0⟩ := at_L1 HR0_2.out 0 p224 q224; have hw224_0 := hx224_0; (try rw [show ((0 : Int)).toNat = 0 from rfl] at hw224_0); (try rw [show 0 * 1 = 0 from rfl] at hw224_0); (try rw [Addr.add_zero'] at hw224_0)
         cases e224; have qi224 : (0 < l0_2.length) = True := eq_true (by omega); (try rw [show ((0 : Int)).toNat = 0 from rfl] at hx224_0); (try rw [Addr.add_zero'] at hx224_0); (try replace hx224_0 := (HB.out.cell (World.block_lt_of_cell? w _ hx224_0)).trans hx224_0); have HR224_0 := Aside0.mk hi224_0; have HC224_0 := Aside0.mk hl224_0; clear hi224_0 hl224_0; replace p224 := eq_true p224; replace q224 := eq_true q224; have p225 : 0 ≤ (0 : Int) := (by omega); have q225 : 0 < (l1_2.length : Int) := of_decide_eq_true (by first | (with_reducible assumption) | assumption); obtain ⟨ad225, A225_0, c225_0, e225, hx225_0, hl225_0, hi225_0⟩ := at_L1 HR1_2.out 0 p225 q225; have hw225_0 := hx225_0; (try rw [show ((0 : Int)).toNat = 0 from rfl] at hw225_0); (try rw [show 0 * 1 = 0 from rfl] at hw225_0); (try rw [Addr.add_zero'] at hw225_0)
         cases e225; have qi225 : (0 < l1_2.length) = True := eq_true (by omega); (try rw [show ((0 : Int)).toNat = 0 from rfl] at hx225_0); (try rw [Addr.add_zero'] at hx225_0); (try replace hx225_0 := (HB.out.cell (World.block_lt_of_cell? w _ hx225_0)).trans hx225_0); have HR225_0 := Aside0.mk hi225_0; have HC225_0 := Aside0.mk hl225_0; clear hi225_0 hl225_0; replace p225 := eq_true p225; replace q225 := eq_true q225; refine start_ (n := 44) (S := fun w' => w'.cell? ⟨gb219, 0, none⟩ = some (.int .u64 a0_0) ∧ w'.cell? ⟨gb219, 1, none⟩ = some (.int .i64 a0_1) ∧ w'.cell? ⟨gb219, 2, none⟩ = some (.slice (some ad224) l0_2.length c0_2) ∧ w'.cell? ⟨gb220, 0, none⟩ = some (.int .u64 a1_0) ∧ w'.cell? ⟨gb220, 1, none⟩ = some (.int .i64 a1_1) ∧ w'.cell? ⟨gb220, 2, none⟩ = some (.slice (some ad225) l1_2.length c1_2) ∧ w'.cell? ad224 = some (.slice A224_0 (rd_L1 l0_2 0).length c224_0) ∧ w'.cell? ad225 = some (.slice A225_0 (rd_L1 l1_2 0).length c225_0)) (ds := []) (mB 44 0) (by kernel_rfl) rfl rfl ⟨(blk_cell BK219.out 0).trans rfl, (blk_cell BK219.out 1).trans rfl, (blk_cell BK219.out 2).trans rfl, (blk_cell BK220.out 0).trans rfl, (blk_cell BK220.out 1).trans rfl, (blk_cell BK220.out 2).trans rfl, ((HB.out.cell (World.block_lt_of_cell? w _ hw224_0)).trans hw224_0), ((HB.out.cell (World.block_lt_of_cell? w _ hw225_0)).trans hw225_0)⟩ (fun hHeld => ?_); refine with_tabW least_Merge.tab1 least_Merge.bits1 (fun HT_ HW_ => ?_)
         generalize w6.drew = w16 at BK219 BK220 BK221 HB HR224_0 HR225_0 hx224_0 hx225_0 hHeld ⊢; refine take_ (i := 0) (N := some 9) (v := ?_) (a' := ?_) (mB 44 1) rfl rfl (take_ofW HT_.out HW_.out (by kernel_rfl)) (fun _ _ _ h => h) (Or.inl ⟨by rfl, ?_⟩) hHeld ?_ ?_; rotate_left
         ·rintro w' ⟨s0, s1, s2, s3, s4, s5, s6, s7⟩; go_simp; with_reducible rfl
         rotate_left
         ·simp only [Act.put, sa_, sb_, sc_, i64_w, i32_w]; rfl
         refine one_ (i := 1) (N := some 10) (mB 44 3) rfl rfl (one_of HT_.out (by kernel_rfl)) (by decide) (fun K hK => ?_); refine goes_ Try.func17 (by kernel_rfl) rfl #[.agg #[.int .u64 a0_0, .int .i64 a0_1, .slice (some ad224) l0_2.length c0_2]] (by rfl) rfl rfl (by (try simp only [List.map_toArray, List.map_cons, List.map_nil]); first | done | rfl | (simp only [List.length_drop, List.length_take]; rfl)) ?_; with_reducible refine (least_Right.calls k a0_0 a0_1 _ _ l0_2 true _ ?side1 ?side2 A7.out).mono ?_
         (case side1 => repeat (first | exact (Kd.C_below HR0_2.out HB.out) | (with_reducible refine Kd.C_alloc ?_ _) | (with_reducible refine Kd.C_drewN ?_ _) | (with_reducible refine Kd.C_drew ?_))); (case side2 => exact HC0_2.out); rintro e w17 ⟨rfl, hb⟩; refine ⟨_, rfl, ?_⟩; replace BK219 := Aside0.mk (blk_below (bk_ BK219) hb); replace BK220 := Aside0.mk (blk_below (bk_ BK220) hb); replace BK221 := Aside0.mk (blk_below (bk_ BK221) hb); replace HB := Aside0.mk (below_step (bl_ HB) hb); (try clear hb); refine hK.out _ _ ⟨(blk_cell BK219.out 0).trans rfl, (blk_cell BK219.out 1).trans rfl, (blk_cell BK219.out 2).trans rfl, (blk_cell BK220.out 0).trans rfl, (blk_cell BK220.out 1).trans rfl, (blk_cell BK220.out 2).trans rfl, ((HB.out.cell (World.block_lt_of_cell? w _ hw224_0)).trans hw224_0), ((HB.out.cell (World.block_lt_of_cell? w _ hw225_0)).trans hw225_0)⟩ (fun hHeld => ?_); clear hK K; refine norm_ (a' := ?_) ?_ ?_; rotate_left
         ·show Act.put _ (some 10) _ = _
          simp only [Act.put, sa_, sb_, sc_, i64_w, i32_w]; rfl
         refine pw_ 2 11 (v := ?_) (a' := ?_) (mB 44 7) rfl rfl HT_ (by kernel_rfl) (fun _ _ _ h => h) ?_ ?_ ?_; rotate_left
         ·intro w'; go_simp; with_reducible rfl
         rotate_left
         ·simp only [Act.put, sa_, sb_, sc_, i64_w, i32_w]; rfl
         refine pw_ 3 12 (v := ?_) (a' := ?_) (mB 44 15) rfl rfl HT_ (by kernel_rfl) (fun _ _ _ h => h) ?_ ?_ ?_; rotate_left
         ·intro w'; go_simp; with_reducible rfl
         rotate_left
         ·simp only [Act.put, sa_, sb_, sc_, i64_w, i32_w]; rfl
         refine take_ (i := 4) (N := some 13) (v := ?_) (a' := ?_) (mB 44 31) rfl rfl (take_ofW HT_.out HW_.out (by kernel_rfl)) (fun _ _ _ h => h) (Or.inl ⟨by rfl, ?_⟩) hHeld ?_ ?_; rotate_left
         ·rintro w' ⟨s0, s1, s2, s3, s4, s5, s6, s7⟩; go_simp; with_reducible rfl
         rotate_left
         ·simp only [Act.put, sa_, sb_, sc_, i64_w, i32_w]; rfl
         refine one_ (i := 5) (N := some 14) (mB 44 63) rfl rfl (one_of HT_.out (by kernel_rfl)) (by decide) (fun K hK => ?_); refine goes_ Try.func17 (by kernel_rfl) rfl #[.agg #[.int .u64 a1_0, .int .i64 a1_1, .slice (some ad225) l1_2.length c1_2]] (by rfl) rfl rfl (by (try simp only [List.map_toArray, List.map_cons, List.map_nil]); first | done | rfl | (simp only [List.length_drop, List.length_take]; rfl)) ?_; with_reducible refine (least_Right.calls k a1_0 a1_1 _ _ l1_2 true _ ?side1 ?side2 A9.out).mono ?_
         (case side1 => repeat (first | exact (Kd.C_below HR1_2.out HB.out) | (with_reducible refine Kd.C_alloc ?_ _) | (with_reducible refine Kd.C_drewN ?_ _) | (with_reducible refine Kd.C_drew ?_))); (case side2 => exact HC1_2.out); rintro e w18 ⟨rfl, hb⟩; refine ⟨_, rfl, ?_⟩; replace BK219 := Aside0.mk (blk_below (bk_ BK219) hb); replace BK220 := Aside0.mk (blk_below (bk_ BK220) hb); replace BK221 := Aside0.mk (blk_below (bk_ BK221) hb); replace HB := Aside0.mk (below_step (bl_ HB) hb); (try clear hb); refine hK.out _ _ ⟨(blk_cell BK219.out 0).trans rfl, (blk_cell BK219.out 1).trans rfl, (blk_cell BK219.out 2).trans rfl, (blk_cell BK220.out 0).trans rfl, (blk_cell BK220.out 1).trans rfl, (blk_cell BK220.out 2).trans rfl, ((HB.out.cell (World.block_lt_of_cell? w _ hw224_0)).trans hw224_0), ((HB.out.cell (World.block_lt_of_cell? w _ hw225_0)).trans hw225_0)⟩ (fun hHeld => ?_); clear hK K; refine norm_ (a' := ?_) ?_ ?_; rotate_left
         ·show Act.put _ (some 14) _ = _
          simp only [Act.put, sa_, sb_, sc_, i64_w, i32_w]; rfl
         refine pw_ 6 15 (v := ?_) (a' := ?_) (mB 44 127) rfl rfl HT_ (by kernel_rfl) (fun _ _ _ h => h) ?_ ?_ ?_; rotate_left
         ·intro w'; go_simp; with_reducible rfl
         rotate_left
         ·simp only [Act.put, sa_, sb_, sc_, i64_w, i32_w]; rfl
         refine pw_ 7 16 (v := ?_) (a' := ?_) (mB 44 255) rfl rfl HT_ (by kernel_rfl) (fun _ _ _ h => h) ?_ ?_ ?_; rotate_left
         ·intro w'; go_simp; with_reducible rfl
         rotate_left
         ·simp only [Act.put, sa_, sb_, sc_, i64_w, i32_w]; rfl
         refine pw_ 8 17 (v := ?_) (a' := ?_) (mB 44 511) rfl rfl HT_ (by kernel_rfl) (fun _ _ _ h => h) ?_ ?_ ?_; rotate_left
         ·intro w'; go_simp; with_reducible rfl
         rotate_left
         ·simp only [Act.put, sa_, sb_, sc_, i64_w, i32_w]; rfl
         refine pw_ 9 18 (v := ?_) (a' := ?_) (mB 44 1023) rfl rfl HT_ (by kernel_rfl) (fun _ _ _ h => h) ?_ ?_ ?_; rotate_left
         ·intro w'; go_simp; with_reducible rfl
         rotate_left
         ·simp only [Act.put, sa_, sb_, sc_, i64_w, i32_w]; rfl
         refine pw_ 11 20 (v := ?_) (a' := ?_) (mB 44 3071) rfl rfl HT_ (by kernel_rfl) (fun _ _ _ h => h) ?_ ?_ ?_; rotate_left
         ·intro w'; go_simp; with_reducible rfl
         rotate_left
         ·simp only [Act.put, sa_, sb_, sc_, i64_w, i32_w]; rfl
         refine take_ (i := 10) (N := some 19) (v := ?_) (a' := ?_) (mB 44 4095) rfl rfl (take_ofW HT_.out HW_.out (by kernel_rfl)) (fun _ _ _ h => h) (Or.inl ⟨by rfl, ?_⟩) hHeld ?_ ?_; rotate_left
         ·rintro w' ⟨s0, s1, s2, s3, s4, s5, s6, s7⟩; go_simp; with_reducible rfl
         rotate_left
         ·simp only [Act.put, sa_, sb_, sc_, i64_w, i32_w]; rfl
         refine take_ (i := 12) (N := some 21) (v := ?_) (a' := ?_) (mB 44 8191) rfl rfl (take_ofW HT_.out HW_.out (by kernel_rfl)) (fun _ _ _ h => h) (Or.inl ⟨by rfl, ?_⟩) hHeld ?_ ?_; rotate_left
         ·rintro w' ⟨s0, s1, s2, s3, s4, s5, s6, s7⟩; go_simp; with_reducible rfl
         rotate_left
         ·simp only [Act.put, sa_, sb_, sc_, i64_w, i32_w]; rfl
         refine pw_ 13 22 (v := ?_) (a' := ?_) (mB 44 16383) rfl rfl HT_ (by kernel_rfl) (fun _ _ _ h => h) ?_ ?_ ?_; rotate_left
         ·intro w'; go_simp; with_reducible rfl
         rotate_left
         ·simp only [Act.put, sa_, sb_, sc_, i64_w, i32_w]; rfl
         refine pw_ 14 23 (v := ?_) (a' := ?_) (mB 44 32767) rfl rfl HT_ (by kernel_rfl) (fun _ _ _ h => h) ?_ ?_ ?_; rotate_left
         ·intro w'; go_simp; with_reducible rfl
         rotate_left
         ·simp only [Act.put, sa_, sb_, sc_, i64_w, i32_w]; rfl
         refine pw_ 15 24 (v := ?_) (a' := ?_) (mB 44 65535) rfl rfl HT_ (by kernel_rfl) (fun _ _ _ h => h) ?_ ?_ ?_; rotate_left
         ·intro w'; go_simp; with_reducible rfl
         rotate_left
         ·simp only [Act.put, sa_, sb_, sc_, i64_w, i32_w]; rfl
         refine pw_ 16 25 (v := ?_) (a' := ?_) (mB 44 131071) rfl rfl HT_ (by kernel_rfl) (fun _ _ _ h => h) ?_ ?_ ?_; rotate_left
         ·intro w'; go_simp; with_reducible rfl
         rotate_left
         ·simp only [Act.put, sa_, sb_, sc_, i64_w, i32_w]; rfl
         refine pw_ 18 27 (v := ?_) (a' := ?_) (mB 44 393215) rfl rfl HT_ (by kernel_rfl) (fun _ _ _ h => h) ?_ ?_ ?_; rotate_left
         ·intro w'; go_simp; with_reducible rfl
         rotate_left
         ·simp only [Act.put, sa_, sb_, sc_, i64_w, i32_w]; rfl
         refine take_ (i := 17) (N := some 26) (v := ?_) (a' := ?_) (mB 44 524287) rfl rfl (take_ofW HT_.out HW_.out (by kernel_rfl)) (fun _ _ _ h => h) (Or.inl ⟨by rfl, ?_⟩) hHeld ?_ ?_; rotate_left
         ·rintro w' ⟨s0, s1, s2, s3, s4, s5, s6, s7⟩; go_simp; with_reducible rfl
         rotate_left
         ·simp only [Act.put, sa_, sb_, sc_, i64_w, i32_w]; rfl
         refine take_ (i := 19) (N := some 28) (v := ?_) (a' := ?_) (mB 44 1048575) rfl rfl (take_ofW HT_.out HW_.out (by kernel_rfl)) (fun _ _ _ h => h) (Or.inl ⟨by rfl, ?_⟩) hHeld ?_ ?_; rotate_left
         ·rintro w' ⟨s0, s1, s2, s3, s4, s5, s6, s7⟩; go_simp; with_reducible rfl
         rotate_left
         ·simp only [Act.put, sa_, sb_, sc_, i64_w, i32_w]; rfl
         refine pw_ 20 29 (v := ?_) (a' := ?_) (mB 44 2097151) rfl rfl HT_ (by kernel_rfl) (fun _ _ _ h => h) ?_ ?_ ?_; rotate_left
         ·intro w'; go_simp; with_reducible rfl
         rotate_left
         ·simp only [Act.put, sa_, sb_, sc_, i64_w, i32_w]; rfl
         refine pw_ 21 30 (v := ?_) (a' := ?_) (mB 44 4194303) rfl rfl HT_ (by kernel_rfl) (fun _ _ _ h => h) ?_ ?_ ?_; rotate_left
         ·intro w'; go_simp; with_reducible rfl
         rotate_left
         ·simp only [Act.put, sa_, sb_, sc_, i64_w, i32_w]; rfl
         refine pw_ 22 31 (v := ?_) (a' := ?_) (mB 44 8388607) rfl rfl HT_ (by kernel_rfl) (fun _ _ _ h => h) ?_ ?_ ?_; rotate_left
         ·intro w'; go_simp; with_reducible rfl
         rotate_left
         ·simp only [Act.put, sa_, sb_, sc_, i64_w, i32_w]; rfl
         refine pw_ 23 32 (v := ?_) (a' := ?_) (mB 44 16777215) rfl rfl HT_ (by kernel_rfl) (fun _ _ _ h => h) ?_ ?_ ?_; rotate_left
         ·intro w'; go_simp; with_reducible rfl
         rotate_left
         ·simp only [Act.put, sa_, sb_, sc_, i64_w, i32_w]; rfl
         refine pw_ 26 35 (v := ?_) (a' := ?_) (mB 44 83886079) rfl rfl HT_ (by kernel_rfl) (fun _ _ _ h => h) ?_ ?_ ?_; rotate_left
         ·intro w'; go_simp; with_reducible rfl
         rotate_left
         ·simp only [Act.put, sa_, sb_, sc_, i64_w, i32_w]; rfl
         refine take_ (i := 24) (N := some 33) (v := ?_) (a' := ?_) (mB 44 100663295) rfl rfl (take_ofW HT_.out HW_.out (by kernel_rfl)) (fun _ _ _ h => h) (Or.inl ⟨by rfl, ?_⟩) hHeld ?_ ?_; rotate_left
         ·rintro w' ⟨s0, s1, s2, s3, s4, s5, s6, s7⟩; go_simp; with_reducible rfl
         rotate_left
         ·simp only [Act.put, sa_, sb_, sc_, i64_w, i32_w]; rfl
         refine pw_ 25 34 (v := ?_) (a' := ?_) (mB 44 134217727) rfl rfl HT_ (by kernel_rfl) (fun _ _ _ h => h) ?_ ?_ ?_; rotate_left
         ·intro w'; go_simp; with_reducible rfl
         rotate_left
         ·simp only [Act.put, sa_, sb_, sc_, i64_w, i32_w]; rfl
         refine take_ (i := 27) (N := some 36) (v := ?_) (a' := ?_) (mB 44 268435455) rfl rfl (take_ofW HT_.out HW_.out (by kernel_rfl)) (fun _ _ _ h => h) (Or.inl ⟨by rfl, ?_⟩) hHeld ?_ ?_; rotate_left
         ·rintro w' ⟨s0, s1, s2, s3, s4, s5, s6, s7⟩; go_simp; with_reducible rfl
         rotate_left
         ·simp only [Act.put, sa_, sb_, sc_, i64_w, i32_w]; rfl
         refine pw_ 28 37 (v := ?_) (a' := ?_) (mB 44 536870911) rfl rfl HT_ (by kernel_rfl) (fun _ _ _ h => h) ?_ ?_ ?_; rotate_left
         ·intro w'; go_simp; with_reducible rfl
         rotate_left
         ·simp only [Act.put, sa_, sb_, sc_, i64_w, i32_w]; rfl
         refine pw_ 29 38 (v := ?_) (a' := ?_) (mB 44 1073741823) rfl rfl HT_ (by kernel_rfl) (fun _ _ _ h => h) ?_ ?_ ?_; rotate_left
         ·intro w'; go_simp; with_reducible rfl
         rotate_left
         ·simp only [Act.put, sa_, sb_, sc_, i64_w, i32_w]; rfl
         refine pw_ 30 39 (v := ?_) (a' := ?_) (mB 44 2147483647) rfl rfl HT_ (by kernel_rfl) (fun _ _ _ h => h) ?_ ?_ ?_; rotate_left
         ·intro w'; go_simp; with_reducible rfl
         rotate_left
         ·simp only [Act.put, sa_, sb_, sc_, i64_w, i32_w]; rfl
         refine pw_ 31 40 (v := ?_) (a' := ?_) (mB 44 4294967295) rfl rfl HT_ (by kernel_rfl) (fun _ _ _ h => h) ?_ ?_ ?_; rotate_left
         ·intro w'; go_simp; with_reducible rfl
         rotate_left
         ·simp only [Act.put, sa_, sb_, sc_, i64_w, i32_w]; rfl
         refine pw_ 32 41 (v := ?_) (a' := ?_) (mB 44 8589934591) rfl rfl HT_ (by kernel_rfl) (fun _ _ _ h => h) ?_ ?_ ?_; rotate_left
         ·intro w'; go_simp; with_reducible rfl
         rotate_left
         ·simp only [Act.put, sa_, sb_, sc_, i64_w, i32_w]; rfl
         refine pw_ 37 46 (v := ?_) (a' := ?_) (mB 44 146028888063) rfl rfl HT_ (by kernel_rfl) (fun _ _ _ h => h) ?_ ?_ ?_; rotate_left
         ·intro w'; go_simp; with_reducible rfl
         rotate_left
         ·simp only [Act.put, sa_, sb_, sc_, i64_w, i32_w]; rfl
         refine take_ (i := 33) (N := some 42) (v := ?_) (a' := ?_) (mB 44 154618822655) rfl rfl (take_ofW HT_.out HW_.out (by kernel_rfl)) (fun _ _ _ h => h) (Or.inl ⟨by rfl, ?_⟩) hHeld ?_ ?_; rotate_left
         ·rintro w' ⟨s0, s1, s2, s3, s4, s5, s6, s7⟩; go_simp; with_reducible rfl
         rotate_left
         ·simp only [Act.put, sa_, sb_, sc_, i64_w, i32_w]; rfl
         refine pw_ 34 43 (v := ?_) (a' := ?_) (mB 44 171798691839) rfl rfl HT_ (by kernel_rfl) (fun _ _ _ h => h) ?_ ?_ ?_; rotate_left
         ·intro w'; go_simp; with_reducible rfl
         rotate_left
         ·simp only [Act.put, sa_, sb_, sc_, i64_w, i32_w]; rfl
         refine take_ (i := 35) (N := some 44) (v := ?_) (a' := ?_) (mB 44 206158430207) rfl rfl (take_ofW HT_.out HW_.out (by kernel_rfl)) (fun _ _ _ h => h) (Or.inl ⟨by rfl, ?_⟩) hHeld ?_ ?_; rotate_left
         ·rintro w' ⟨s0, s1, s2, s3, s4, s5, s6, s7⟩; go_simp; with_reducible rfl
         rotate_left
         ·simp only [Act.put, sa_, sb_, sc_, i64_w, i32_w]; rfl
         refine pw_ 36 45 (v := ?_) (a' := ?_) (mB 44 274877906943) rfl rfl HT_ (by kernel_rfl) (fun _ _ _ h => h) ?_ ?_ ?_; rotate_left
         ·intro w'; go_simp; with_reducible rfl
         rotate_left
         ·simp only [Act.put, sa_, sb_, sc_, i64_w, i32_w]; rfl
         refine take_ (i := 38) (N := some 47) (v := ?_) (a' := ?_) (mB 44 549755813887) rfl rfl (take_ofW HT_.out HW_.out (by kernel_rfl)) (fun _ _ _ h => h) (Or.inl ⟨by rfl, ?_⟩) hHeld ?_ ?_; rotate_left
         ·rintro w' ⟨s0, s1, s2, s3, s4, s5, s6, s7⟩; go_simp; with_reducible rfl
         rotate_left
         ·simp only [Act.put, sa_, sb_, sc_, i64_w, i32_w]; rfl
         refine pw_ 39 48 (v := ?_) (a' := ?_) (mB 44 1099511627775) rfl rfl HT_ (by kernel_rfl) (fun _ _ _ h => h) ?_ ?_ ?_; rotate_left
         ·intro w'; go_simp; with_reducible rfl
         rotate_left
         ·simp only [Act.put, sa_, sb_, sc_, i64_w, i32_w]; rfl
         refine take_ (i := 40) (N := some 49) (v := ?_) (a' := ?_) (mB 44 2199023255551) rfl rfl (take_ofW HT_.out HW_.out (by kernel_rfl)) (fun _ _ _ h => h) (Or.inl ⟨by rfl, ?_⟩) hHeld ?_ ?_; rotate_left
         ·rintro w' ⟨s0, s1, s2, s3, s4, s5, s6, s7⟩; go_simp; with_reducible rfl
         rotate_left
         ·simp only [Act.put, sa_, sb_, sc_, i64_w, i32_w]; rfl
         refine pw_ 41 50 (v := ?_) (a' := ?_) (mB 44 4398046511103) rfl rfl HT_ (by kernel_rfl) (fun _ _ _ h => h) ?_ ?_ ?_; rotate_left
         ·intro w'; go_simp; with_reducible rfl
         rotate_left
         ·simp only [Act.put, sa_, sb_, sc_, i64_w, i32_w]; rfl
         refine pw_ 42 51 (v := ?_) (a' := ?_) (mB 44 8796093022207) rfl rfl HT_ (by kernel_rfl) (fun _ _ _ h => h) ?_ ?_ ?_; rotate_left
         ·intro w'; go_simp; with_reducible rfl
         rotate_left
         ·simp only [Act.put, sa_, sb_, sc_, i64_w, i32_w]; rfl
         refine pw_ 43 52 (v := ?_) (a' := ?_) (mB 44 17592186044415) rfl rfl HT_ (by kernel_rfl) (fun _ _ _ h => h) ?_ ?_ ?_; rotate_left
         ·intro w'; go_simp; with_reducible rfl
         rotate_left
         ·simp only [Act.put, sa_, sb_, sc_, i64_w, i32_w]; rfl
         refine done_ (done_of HT_.out (by kernel_rfl)) ?_
         try go_wp2
         go_meet
         case rel => exact ⟨_, ((((rd_L1 l0_2 0).length : Int) != ((rd_L1 l1_2 0).length : Int))), (by first | rfl | (simp; done) | (simp [*]; done)), H', ⟨by first | omega | exact Nat.le_refl _⟩, ⟨bk_ BK219⟩, ⟨bk_ BK220⟩, ⟨bk_ BK221⟩, ⟨bl_ HB⟩⟩
        ·rw [if_neg c15] at H; exact absurd H (by simp)
       ·rw [if_neg c14] at H; exact absurd H (by simp)
      ·rw [if_neg c13] at H; have c13b0 : ((l0_2.length : Int) == (l1_2.length : Int)) = false := beq_eq_false_iff_ne.mpr c13; have c13b1 : ((l0_2.length : Int) != (l1_2.length : Int)) = true := bne_iff_ne.mpr c13
       have c13b2 : (l0_2.length == l1_2.length) = false := by first | simpa using c13 | (simp at c13 ⊢; omega)
       have H' := Aside0.mk H; clear H
       try go_wp2
       replace BK219 := Aside0.mk (blk_drew BK219.out); replace BK220 := Aside0.mk (blk_drew BK220.out); replace BK221 := Aside0.mk (blk_drew BK221.out); replace HB := Aside0.mk (below_drew1 HB.out); refine start_ (n := 44) (S := fun w' => w'.cell? ⟨gb219, 0, none⟩ = some (.int .u64 a0_0) ∧ w'.cell? ⟨gb219, 1, none⟩ = some (.int .i64 a0_1) ∧ w'.cell? ⟨gb219, 2, none⟩ = some (.slice A0_2 l0_2.length c0_2) ∧ w'.cell? ⟨gb220, 0, none⟩ = some (.int .u64 a1_0) ∧ w'.cell? ⟨gb220, 1, none⟩ = some (.int .i64 a1_1) ∧ w'.cell? ⟨gb220, 2, none⟩ = some (.slice A1_2 l1_2.length c1_2)) (ds := []) (mB 44 0) (by kernel_rfl) rfl rfl ⟨(blk_cell BK219.out 0).trans rfl, (blk_cell BK219.out 1).trans rfl, (blk_cell BK219.out 2).trans rfl, (blk_cell BK220.out 0).trans rfl, (blk_cell BK220.out 1).trans rfl, (blk_cell BK220.out 2).trans rfl⟩ (fun hHeld => ?_); refine with_tabW least_Merge.tab1 least_Merge.bits1 (fun HT_ HW_ => ?_); generalize w6.drew = w19 at BK219 BK220 BK221 HB hHeld ⊢; refine take_ (i := 0) (N := some 9) (v := ?_) (a' := ?_) (mB 44 1) rfl rfl (take_ofW HT_.out HW_.out (by kernel_rfl)) (fun _ _ _ h => h) (Or.inl ⟨by rfl, ?_⟩) hHeld ?_ ?_; rotate_left
       ·rintro w' ⟨s0, s1, s2, s3, s4, s5⟩; go_simp; with_reducible rfl
       rotate_left
       ·simp only [Act.put, sa_, sb_, sc_, i64_w, i32_w]; rfl
       refine one_ (i := 1) (N := some 10) (mB 44 3) rfl rfl (one_of HT_.out (by kernel_rfl)) (by decide) (fun K hK => ?_); refine goes_ Try.func17 (by kernel_rfl) rfl #[.agg #[.int .u64 a0_0, .int .i64 a0_1, .slice A0_2 l0_2.length c0_2]] (by rfl) rfl rfl (by (try simp only [List.map_toArray, List.map_cons, List.map_nil]); first | done | rfl | (simp only [List.length_drop, List.length_take]; rfl)) ?_; with_reducible refine (least_Right.calls k a0_0 a0_1 _ _ l0_2 true _ ?side1 ?side2 A7.out).mono ?_
       (case side1 => repeat (first | exact (Kd.C_below HR0_2.out HB.out) | (with_reducible refine Kd.C_alloc ?_ _) | (with_reducible refine Kd.C_drewN ?_ _) | (with_reducible refine Kd.C_drew ?_))); (case side2 => exact HC0_2.out); rintro e w20 ⟨rfl, hb⟩; refine ⟨_, rfl, ?_⟩; replace BK219 := Aside0.mk (blk_below (bk_ BK219) hb); replace BK220 := Aside0.mk (blk_below (bk_ BK220) hb); replace BK221 := Aside0.mk (blk_below (bk_ BK221) hb); replace HB := Aside0.mk (below_step (bl_ HB) hb); (try clear hb); refine hK.out _ _ ⟨(blk_cell BK219.out 0).trans rfl, (blk_cell BK219.out 1).trans rfl, (blk_cell BK219.out 2).trans rfl, (blk_cell BK220.out 0).trans rfl, (blk_cell BK220.out 1).trans rfl, (blk_cell BK220.out 2).trans rfl⟩ (fun hHeld => ?_); clear hK K; refine norm_ (a' := ?_) ?_ ?_; rotate_left
       ·show Act.put _ (some 10) _ = _
        simp only [Act.put, sa_, sb_, sc_, i64_w, i32_w]; rfl
       refine pw_ 2 11 (v := ?_) (a' := ?_) (mB 44 7) rfl rfl HT_ (by kernel_rfl) (fun _ _ _ h => h) ?_ ?_ ?_; rotate_left
       ·intro w'; go_simp; with_reducible rfl
       rotate_left
       ·simp only [Act.put, sa_, sb_, sc_, i64_w, i32_w]; rfl
       refine pw_ 3 12 (v := ?_) (a' := ?_) (mB 44 15) rfl rfl HT_ (by kernel_rfl) (fun _ _ _ h => h) ?_ ?_ ?_; rotate_left
       ·intro w'; go_simp; with_reducible rfl
       rotate_left
       ·simp only [Act.put, sa_, sb_, sc_, i64_w, i32_w]; rfl
       refine take_ (i := 4) (N := some 13) (v := ?_) (a' := ?_) (mB 44 31) rfl rfl (take_ofW HT_.out HW_.out (by kernel_rfl)) (fun _ _ _ h => h) (Or.inl ⟨by rfl, ?_⟩) hHeld ?_ ?_; rotate_left
       ·rintro w' ⟨s0, s1, s2, s3, s4, s5⟩; go_simp; with_reducible rfl
       rotate_left
       ·simp only [Act.put, sa_, sb_, sc_, i64_w, i32_w]; rfl
       refine one_ (i := 5) (N := some 14) (mB 44 63) rfl rfl (one_of HT_.out (by kernel_rfl)) (by decide) (fun K hK => ?_); refine goes_ Try.func17 (by kernel_rfl) rfl #[.agg #[.int .u64 a1_0, .int .i64 a1_1, .slice A1_2 l1_2.length c1_2]] (by rfl) rfl rfl (by (try simp only [List.map_toArray, List.map_cons, List.map_nil]); first | done | rfl | (simp only [List.length_drop, List.length_take]; rfl)) ?_; with_reducible refine (least_Right.calls k a1_0 a1_1 _ _ l1_2 true _ ?side1 ?side2 A9.out).mono ?_
       (case side1 => repeat (first | exact (Kd.C_below HR1_2.out HB.out) | (with_reducible refine Kd.C_alloc ?_ _) | (with_reducible refine Kd.C_drewN ?_ _) | (with_reducible refine Kd.C_drew ?_))); (case side2 => exact HC1_2.out); rintro e w21 ⟨rfl, hb⟩; refine ⟨_, rfl, ?_⟩; replace BK219 := Aside0.mk (blk_below (bk_ BK219) hb); replace BK220 := Aside0.mk (blk_below (bk_ BK220) hb); replace BK221 := Aside0.mk (blk_below (bk_ BK221) hb); replace HB := Aside0.mk (below_step (bl_ HB) hb); (try clear hb); refine hK.out _ _ ⟨(blk_cell BK219.out 0).trans rfl, (blk_cell BK219.out 1).trans rfl, (blk_cell BK219.out 2).trans rfl, (blk_cell BK220.out 0).trans rfl, (blk_cell BK220.out 1).trans rfl, (blk_cell BK220.out 2).trans rfl⟩ (fun hHeld => ?_); clear hK K; refine norm_ (a' := ?_) ?_ ?_; rotate_left
       ·show Act.put _ (some 14) _ = _
        simp only [Act.put, sa_, sb_, sc_, i64_w, i32_w]; rfl
       refine pw_ 6 15 (v := ?_) (a' := ?_) (mB 44 127) rfl rfl HT_ (by kernel_rfl) (fun _ _ _ h => h) ?_ ?_ ?_; rotate_left
       ·intro w'; go_simp; with_reducible rfl
       rotate_left
       ·simp only [Act.put, sa_, sb_, sc_, i64_w, i32_w]; rfl
       refine pw_ 7 16 (v := ?_) (a' := ?_) (mB 44 255) rfl rfl HT_ (by kernel_rfl) (fun _ _ _ h => h) ?_ ?_ ?_; rotate_left
       ·intro w'; go_simp; with_reducible rfl
       rotate_left
       ·simp only [Act.put, sa_, sb_, sc_, i64_w, i32_w]; rfl
       refine pw_ 8 17 (v := ?_) (a' := ?_) (mB 44 511) rfl rfl HT_ (by kernel_rfl) (fun _ _ _ h => h) ?_ ?_ ?_; rotate_left
       ·intro w'; go_simp; with_reducible rfl
       rotate_left
       ·simp only [Act.put, sa_, sb_, sc_, i64_w, i32_w]; rfl
       refine pw_ 9 18 (v := ?_) (a' := ?_) (mB 44 1023) rfl rfl HT_ (by kernel_rfl) (fun _ _ _ h => h) ?_ ?_ ?_; rotate_left
       ·intro w'; go_simp; with_reducible rfl
       rotate_left
       ·simp only [Act.put, sa_, sb_, sc_, i64_w, i32_w]; rfl
       refine pw_ 11 20 (v := ?_) (a' := ?_) (mB 44 3071) rfl rfl HT_ (by kernel_rfl) (fun _ _ _ h => h) ?_ ?_ ?_; rotate_left
       ·intro w'; go_simp; with_reducible rfl
       rotate_left
       ·simp only [Act.put, sa_, sb_, sc_, i64_w, i32_w]; rfl
       refine take_ (i := 10) (N := some 19) (v := ?_) (a' := ?_) (mB 44 4095) rfl rfl (take_ofW HT_.out HW_.out (by kernel_rfl)) (fun _ _ _ h => h) (Or.inl ⟨by rfl, ?_⟩) hHeld ?_ ?_; rotate_left
       ·rintro w' ⟨s0, s1, s2, s3, s4, s5⟩; go_simp; with_reducible rfl
       rotate_left
       ·simp only [Act.put, sa_, sb_, sc_, i64_w, i32_w]; rfl
       refine take_ (i := 12) (N := some 21) (v := ?_) (a' := ?_) (mB 44 8191) rfl rfl (take_ofW HT_.out HW_.out (by kernel_rfl)) (fun _ _ _ h => h) (Or.inl ⟨by rfl, ?_⟩) hHeld ?_ ?_; rotate_left
       ·rintro w' ⟨s0, s1, s2, s3, s4, s5⟩; go_simp; with_reducible rfl
       rotate_left
       ·simp only [Act.put, sa_, sb_, sc_, i64_w, i32_w]; rfl
       refine pw_ 13 22 (v := ?_) (a' := ?_) (mB 44 16383) rfl rfl HT_ (by kernel_rfl) (fun _ _ _ h => h) ?_ ?_ ?_; rotate_left
       ·intro w'; go_simp; with_reducible rfl
       rotate_left
       ·simp only [Act.put, sa_, sb_, sc_, i64_w, i32_w]; rfl
       refine pw_ 14 23 (v := ?_) (a' := ?_) (mB 44 32767) rfl rfl HT_ (by kernel_rfl) (fun _ _ _ h => h) ?_ ?_ ?_; rotate_left
       ·intro w'; go_simp; with_reducible rfl
       rotate_left
       ·simp only [Act.put, sa_, sb_, sc_, i64_w, i32_w]; rfl
       refine pw_ 15 24 (v := ?_) (a' := ?_) (mB 44 65535) rfl rfl HT_ (by kernel_rfl) (fun _ _ _ h => h) ?_ ?_ ?_; rotate_left
       ·intro w'; go_simp; with_reducible rfl
       rotate_left
       ·simp only [Act.put, sa_, sb_, sc_, i64_w, i32_w]; rfl
       refine pw_ 16 25 (v := ?_) (a' := ?_) (mB 44 131071) rfl rfl HT_ (by kernel_rfl) (fun _ _ _ h => h) ?_ ?_ ?_; rotate_left
       ·intro w'; go_simp; with_reducible rfl
       rotate_left
       ·simp only [Act.put, sa_, sb_, sc_, i64_w, i32_w]; rfl
       refine pw_ 18 27 (v := ?_) (a' := ?_) (mB 44 393215) rfl rfl HT_ (by kernel_rfl) (fun _ _ _ h => h) ?_ ?_ ?_; rotate_left
       ·intro w'; go_simp; with_reducible rfl
       rotate_left
       ·simp only [Act.put, sa_, sb_, sc_, i64_w, i32_w]; rfl
       refine take_ (i := 17) (N := some 26) (v := ?_) (a' := ?_) (mB 44 524287) rfl rfl (take_ofW HT_.out HW_.out (by kernel_rfl)) (fun _ _ _ h => h) (Or.inl ⟨by rfl, ?_⟩) hHeld ?_ ?_; rotate_left
       ·rintro w' ⟨s0, s1, s2, s3, s4, s5⟩; go_simp; with_reducible rfl
       rotate_left
       ·simp only [Act.put, sa_, sb_, sc_, i64_w, i32_w]; rfl
       refine take_ (i := 19) (N := some 28) (v := ?_) (a' := ?_) (mB 44 1048575) rfl rfl (take_ofW HT_.out HW_.out (by kernel_rfl)) (fun _ _ _ h => h) (Or.inl ⟨by rfl, ?_⟩) hHeld ?_ ?_; rotate_left
       ·rintro w' ⟨s0, s1, s2, s3, s4, s5⟩; go_simp; with_reducible rfl
       rotate_left
       ·simp only [Act.put, sa_, sb_, sc_, i64_w, i32_w]; rfl
       refine pw_ 20 29 (v := ?_) (a' := ?_) (mB 44 2097151) rfl rfl HT_ (by kernel_rfl) (fun _ _ _ h => h) ?_ ?_ ?_; rotate_left
       ·intro w'; go_simp; with_reducible rfl
       rotate_left
       ·simp only [Act.put, sa_, sb_, sc_, i64_w, i32_w]; rfl
       refine pw_ 21 30 (v := ?_) (a' := ?_) (mB 44 4194303) rfl rfl HT_ (by kernel_rfl) (fun _ _ _ h => h) ?_ ?_ ?_; rotate_left
       ·intro w'; go_simp; with_reducible rfl
       rotate_left
       ·simp only [Act.put, sa_, sb_, sc_, i64_w, i32_w]; rfl
       refine pw_ 22 31 (v := ?_) (a' := ?_) (mB 44 8388607) rfl rfl HT_ (by kernel_rfl) (fun _ _ _ h => h) ?_ ?_ ?_; rotate_left
       ·intro w'; go_simp; with_reducible rfl
       rotate_left
       ·simp only [Act.put, sa_, sb_, sc_, i64_w, i32_w]; rfl
       refine pw_ 23 32 (v := ?_) (a' := ?_) (mB 44 16777215) rfl rfl HT_ (by kernel_rfl) (fun _ _ _ h => h) ?_ ?_ ?_; rotate_left
       ·intro w'; go_simp; with_reducible rfl
       rotate_left
       ·simp only [Act.put, sa_, sb_, sc_, i64_w, i32_w]; rfl
       refine pw_ 26 35 (v := ?_) (a' := ?_) (mB 44 83886079) rfl rfl HT_ (by kernel_rfl) (fun _ _ _ h => h) ?_ ?_ ?_; rotate_left
       ·intro w'; go_simp; with_reducible rfl
       rotate_left
       ·simp only [Act.put, sa_, sb_, sc_, i64_w, i32_w]; rfl
       refine take_ (i := 24) (N := some 33) (v := ?_) (a' := ?_) (mB 44 100663295) rfl rfl (take_ofW HT_.out HW_.out (by kernel_rfl)) (fun _ _ _ h => h) (Or.inl ⟨by rfl, ?_⟩) hHeld ?_ ?_; rotate_left
       ·rintro w' ⟨s0, s1, s2, s3, s4, s5⟩; go_simp; with_reducible rfl
       rotate_left
       ·simp only [Act.put, sa_, sb_, sc_, i64_w, i32_w]; rfl
       refine pw_ 25 34 (v := ?_) (a' := ?_) (mB 44 134217727) rfl rfl HT_ (by kernel_rfl) (fun _ _ _ h => h) ?_ ?_ ?_; rotate_left
       ·intro w'; go_simp; with_reducible rfl
       rotate_left
       ·simp only [Act.put, sa_, sb_, sc_, i64_w, i32_w]; rfl
       refine take_ (i := 27) (N := some 36) (v := ?_) (a' := ?_) (mB 44 268435455) rfl rfl (take_ofW HT_.out HW_.out (by kernel_rfl)) (fun _ _ _ h => h) (Or.inl ⟨by rfl, ?_⟩) hHeld ?_ ?_; rotate_left
       ·rintro w' ⟨s0, s1, s2, s3, s4, s5⟩; go_simp; with_reducible rfl
       rotate_left
       ·simp only [Act.put, sa_, sb_, sc_, i64_w, i32_w]; rfl
       refine pw_ 28 37 (v := ?_) (a' := ?_) (mB 44 536870911) rfl rfl HT_ (by kernel_rfl) (fun _ _ _ h => h) ?_ ?_ ?_; rotate_left
       ·intro w'; go_simp; with_reducible rfl
       rotate_left
       ·simp only [Act.put, sa_, sb_, sc_, i64_w, i32_w]; rfl
       refine pw_ 29 38 (v := ?_) (a' := ?_) (mB 44 1073741823) rfl rfl HT_ (by kernel_rfl) (fun _ _ _ h => h) ?_ ?_ ?_; rotate_left
       ·intro w'; go_simp; with_reducible rfl
       rotate_left
       ·simp only [Act.put, sa_, sb_, sc_, i64_w, i32_w]; rfl
       refine pw_ 30 39 (v := ?_) (a' := ?_) (mB 44 2147483647) rfl rfl HT_ (by kernel_rfl) (fun _ _ _ h => h) ?_ ?_ ?_; rotate_left
       ·intro w'; go_simp; with_reducible rfl
       rotate_left
       ·simp only [Act.put, sa_, sb_, sc_, i64_w, i32_w]; rfl
       refine pw_ 31 40 (v := ?_) (a' := ?_) (mB 44 4294967295) rfl rfl HT_ (by kernel_rfl) (fun _ _ _ h => h) ?_ ?_ ?_; rotate_left
       ·intro w'; go_simp; with_reducible rfl
       rotate_left
       ·simp only [Act.put, sa_, sb_, sc_, i64_w, i32_w]; rfl
       refine un_ [(32, 41), (33, 42), (34, 43), (35, 44), (36, 45), (37, 46), (38, 47), (39, 48), (40, 49), (41, 50), (42, 51)] (fuel := 1) (a' := ?_) (mB 44 8796093022207) rfl HT_ (by kernel_rfl) (by kernel_rfl) (fun _ _ _ _ h => h) ?_ ?_; rotate_left
       ·simp only [unwA, Act.put, sa_, sb_, sc_, i64_w, i32_w]; rfl
       refine pw_ 43 52 (v := ?_) (a' := ?_) (mB 44 17592186044415) rfl rfl HT_ (by kernel_rfl) (fun _ _ _ h => h) ?_ ?_ ?_; rotate_left
       ·intro w'; go_simp; with_reducible rfl
       rotate_left
       ·simp only [Act.put, sa_, sb_, sc_, i64_w, i32_w]; rfl
       refine done_ (done_of HT_.out (by kernel_rfl)) ?_
       try go_wp2
       go_meet
       case rel => exact ⟨_, (true), (by first | rfl | (simp; done) | (simp [*]; done)), H', ⟨by first | omega | exact Nat.le_refl _⟩, ⟨bk_ BK219⟩, ⟨bk_ BK220⟩, ⟨bk_ BK221⟩, ⟨bl_ HB⟩⟩
     ·rw [if_neg c12] at H; have c12b0 : (a0_1 == a1_1) = false := beq_eq_false_iff_ne.mpr c12; have c12b1 : (a0_1 != a1_1) = true := bne_iff_ne.mpr c12; have H' := Aside0.mk H; clear H
      try go_wp2
      replace BK219 := Aside0.mk (blk_drew BK219.out); replace BK220 := Aside0.mk (blk_drew BK220.out); replace BK221 := Aside0.mk (blk_drew BK221.out); replace HB := Aside0.mk (below_drew1 HB.out); refine start_ (n := 44) (S := fun w' => w'.cell? ⟨gb219, 0, none⟩ = some (.int .u64 a0_0) ∧ w'.cell? ⟨gb219, 1, none⟩ = some (.int .i64 a0_1) ∧ w'.cell? ⟨gb219, 2, none⟩ = some (.slice A0_2 l0_2.length c0_2) ∧ w'.cell? ⟨gb220, 0, none⟩ = some (.int .u64 a1_0) ∧ w'.cell? ⟨gb220, 1, none⟩ = some (.int .i64 a1_1) ∧ w'.cell? ⟨gb220, 2, none⟩ = some (.slice A1_2 l1_2.length c1_2)) (ds := []) (mB 44 0) (by kernel_rfl) rfl rfl ⟨(blk_cell BK219.out 0).trans rfl, (blk_cell BK219.out 1).trans rfl, (blk_cell BK219.out 2).trans rfl, (blk_cell BK220.out 0).trans rfl, (blk_cell BK220.out 1).trans rfl, (blk_cell BK220.out 2).trans rfl⟩ (fun hHeld => ?_); refine with_tabW least_Merge.tab1 least_Merge.bits1 (fun HT_ HW_ => ?_); generalize w6.drew = w22 at BK219 BK220 BK221 HB hHeld ⊢; refine take_ (i := 0) (N := some 9) (v := ?_) (a' := ?_) (mB 44 1) rfl rfl (take_ofW HT_.out HW_.out (by kernel_rfl)) (fun _ _ _ h => h) (Or.inl ⟨by rfl, ?_⟩) hHeld ?_ ?_; rotate_left
      ·rintro w' ⟨s0, s1, s2, s3, s4, s5⟩; go_simp; with_reducible rfl
      rotate_left
      ·simp only [Act.put, sa_, sb_, sc_, i64_w, i32_w]; rfl
      refine one_ (i := 1) (N := some 10) (mB 44 3) rfl rfl (one_of HT_.out (by kernel_rfl)) (by decide) (fun K hK => ?_); refine goes_ Try.func17 (by kernel_rfl) rfl #[.agg #[.int .u64 a0_0, .int .i64 a0_1, .slice A0_2 l0_2.length c0_2]] (by rfl) rfl rfl (by (try simp only [List.map_toArray, List.map_cons, List.map_nil]); first | done | rfl | (simp only [List.length_drop, List.length_take]; rfl)) ?_; with_reducible refine (least_Right.calls k a0_0 a0_1 _ _ l0_2 true _ ?side1 ?side2 A7.out).mono ?_
      (case side1 => repeat (first | exact (Kd.C_below HR0_2.out HB.out) | (with_reducible refine Kd.C_alloc ?_ _) | (with_reducible refine Kd.C_drewN ?_ _) | (with_reducible refine Kd.C_drew ?_))); (case side2 => exact HC0_2.out); rintro e w23 ⟨rfl, hb⟩; refine ⟨_, rfl, ?_⟩; replace BK219 := Aside0.mk (blk_below (bk_ BK219) hb); replace BK220 := Aside0.mk (blk_below (bk_ BK220) hb); replace BK221 := Aside0.mk (blk_below (bk_ BK221) hb); replace HB := Aside0.mk (below_step (bl_ HB) hb); (try clear hb); refine hK.out _ _ ⟨(blk_cell BK219.out 0).trans rfl, (blk_cell BK219.out 1).trans rfl, (blk_cell BK219.out 2).trans rfl, (blk_cell BK220.out 0).trans rfl, (blk_cell BK220.out 1).trans rfl, (blk_cell BK220.out 2).trans rfl⟩ (fun hHeld => ?_); clear hK K; refine norm_ (a' := ?_) ?_ ?_; rotate_left
      ·show Act.put _ (some 10) _ = _
       simp only [Act.put, sa_, sb_, sc_, i64_w, i32_w]; rfl
      refine pw_ 2 11 (v := ?_) (a' := ?_) (mB 44 7) rfl rfl HT_ (by kernel_rfl) (fun _ _ _ h => h) ?_ ?_ ?_; rotate_left
      ·intro w'; go_simp; with_reducible rfl
      rotate_left
      ·simp only [Act.put, sa_, sb_, sc_, i64_w, i32_w]; rfl
      refine pw_ 3 12 (v := ?_) (a' := ?_) (mB 44 15) rfl rfl HT_ (by kernel_rfl) (fun _ _ _ h => h) ?_ ?_ ?_; rotate_left
      ·intro w'; go_simp; with_reducible rfl
      rotate_left
      ·simp only [Act.put, sa_, sb_, sc_, i64_w, i32_w]; rfl
      refine take_ (i := 4) (N := some 13) (v := ?_) (a' := ?_) (mB 44 31) rfl rfl (take_ofW HT_.out HW_.out (by kernel_rfl)) (fun _ _ _ h => h) (Or.inl ⟨by rfl, ?_⟩) hHeld ?_ ?_; rotate_left
      ·rintro w' ⟨s0, s1, s2, s3, s4, s5⟩; go_simp; with_reducible rfl
      rotate_left
      ·simp only [Act.put, sa_, sb_, sc_, i64_w, i32_w]; rfl
      refine one_ (i := 5) (N := some 14) (mB 44 63) rfl rfl (one_of HT_.out (by kernel_rfl)) (by decide) (fun K hK => ?_); refine goes_ Try.func17 (by kernel_rfl) rfl #[.agg #[.int .u64 a1_0, .int .i64 a1_1, .slice A1_2 l1_2.length c1_2]] (by rfl) rfl rfl (by (try simp only [List.map_toArray, List.map_cons, List.map_nil]); first | done | rfl | (simp only [List.length_drop, List.length_take]; rfl)) ?_; with_reducible refine (least_Right.calls k a1_0 a1_1 _ _ l1_2 true _ ?side1 ?side2 A9.out).mono ?_
      (case side1 => repeat (first | exact (Kd.C_below HR1_2.out HB.out) | (with_reducible refine Kd.C_alloc ?_ _) | (with_reducible refine Kd.C_drewN ?_ _) | (with_reducible refine Kd.C_drew ?_))); (case side2 => exact HC1_2.out); rintro e w24 ⟨rfl, hb⟩; refine ⟨_, rfl, ?_⟩; replace BK219 := Aside0.mk (blk_below (bk_ BK219) hb); replace BK220 := Aside0.mk (blk_below (bk_ BK220) hb); replace BK221 := Aside0.mk (blk_below (bk_ BK221) hb); replace HB := Aside0.mk (below_step (bl_ HB) hb); (try clear hb); refine hK.out _ _ ⟨(blk_cell BK219.out 0).trans rfl, (blk_cell BK219.out 1).trans rfl, (blk_cell BK219.out 2).trans rfl, (blk_cell BK220.out 0).trans rfl, (blk_cell BK220.out 1).trans rfl, (blk_cell BK220.out 2).trans rfl⟩ (fun hHeld => ?_); clear hK K; refine norm_ (a' := ?_) ?_ ?_; rotate_left
      ·show Act.put _ (some 14) _ = _
       simp only [Act.put, sa_, sb_, sc_, i64_w, i32_w]; rfl
      refine pw_ 6 15 (v := ?_) (a' := ?_) (mB 44 127) rfl rfl HT_ (by kernel_rfl) (fun _ _ _ h => h) ?_ ?_ ?_; rotate_left
      ·intro w'; go_simp; with_reducible rfl
      rotate_left
      ·simp only [Act.put, sa_, sb_, sc_, i64_w, i32_w]; rfl
      refine pw_ 7 16 (v := ?_) (a' := ?_) (mB 44 255) rfl rfl HT_ (by kernel_rfl) (fun _ _ _ h => h) ?_ ?_ ?_; rotate_left
      ·intro w'; go_simp; with_reducible rfl
      rotate_left
      ·simp only [Act.put, sa_, sb_, sc_, i64_w, i32_w]; rfl
      refine pw_ 8 17 (v := ?_) (a' := ?_) (mB 44 511) rfl rfl HT_ (by kernel_rfl) (fun _ _ _ h => h) ?_ ?_ ?_; rotate_left
      ·intro w'; go_simp; with_reducible rfl
      rotate_left
      ·simp only [Act.put, sa_, sb_, sc_, i64_w, i32_w]; rfl
      refine pw_ 9 18 (v := ?_) (a' := ?_) (mB 44 1023) rfl rfl HT_ (by kernel_rfl) (fun _ _ _ h => h) ?_ ?_ ?_; rotate_left
      ·intro w'; go_simp; with_reducible rfl
      rotate_left
      ·simp only [Act.put, sa_, sb_, sc_, i64_w, i32_w]; rfl
      refine pw_ 11 20 (v := ?_) (a' := ?_) (mB 44 3071) rfl rfl HT_ (by kernel_rfl) (fun _ _ _ h => h) ?_ ?_ ?_; rotate_left
      ·intro w'; go_simp; with_reducible rfl
      rotate_left
      ·simp only [Act.put, sa_, sb_, sc_, i64_w, i32_w]; rfl
      refine take_ (i := 10) (N := some 19) (v := ?_) (a' := ?_) (mB 44 4095) rfl rfl (take_ofW HT_.out HW_.out (by kernel_rfl)) (fun _ _ _ h => h) (Or.inl ⟨by rfl, ?_⟩) hHeld ?_ ?_; rotate_left
      ·rintro w' ⟨s0, s1, s2, s3, s4, s5⟩; go_simp; with_reducible rfl
      rotate_left
      ·simp only [Act.put, sa_, sb_, sc_, i64_w, i32_w]; rfl
      refine take_ (i := 12) (N := some 21) (v := ?_) (a' := ?_) (mB 44 8191) rfl rfl (take_ofW HT_.out HW_.out (by kernel_rfl)) (fun _ _ _ h => h) (Or.inl ⟨by rfl, ?_⟩) hHeld ?_ ?_; rotate_left
      ·rintro w' ⟨s0, s1, s2, s3, s4, s5⟩; go_simp; with_reducible rfl
      rotate_left
      ·simp only [Act.put, sa_, sb_, sc_, i64_w, i32_w]; rfl
      refine pw_ 13 22 (v := ?_) (a' := ?_) (mB 44 16383) rfl rfl HT_ (by kernel_rfl) (fun _ _ _ h => h) ?_ ?_ ?_; rotate_left
      ·intro w'; go_simp; with_reducible rfl
      rotate_left
      ·simp only [Act.put, sa_, sb_, sc_, i64_w, i32_w]; rfl
      refine pw_ 14 23 (v := ?_) (a' := ?_) (mB 44 32767) rfl rfl HT_ (by kernel_rfl) (fun _ _ _ h => h) ?_ ?_ ?_; rotate_left
      ·intro w'; go_simp; with_reducible rfl
      rotate_left
      ·simp only [Act.put, sa_, sb_, sc_, i64_w, i32_w]; rfl
      refine pw_ 15 24 (v := ?_) (a' := ?_) (mB 44 65535) rfl rfl HT_ (by kernel_rfl) (fun _ _ _ h => h) ?_ ?_ ?_; rotate_left
      ·intro w'; go_simp; with_reducible rfl
      rotate_left
      ·simp only [Act.put, sa_, sb_, sc_, i64_w, i32_w]; rfl
      refine pw_ 16 25 (v := ?_) (a' := ?_) (mB 44 131071) rfl rfl HT_ (by kernel_rfl) (fun _ _ _ h => h) ?_ ?_ ?_; rotate_left
      ·intro w'; go_simp; with_reducible rfl
      rotate_left
      ·simp only [Act.put, sa_, sb_, sc_, i64_w, i32_w]; rfl
      refine pw_ 18 27 (v := ?_) (a' := ?_) (mB 44 393215) rfl rfl HT_ (by kernel_rfl) (fun _ _ _ h => h) ?_ ?_ ?_; rotate_left
      ·intro w'; go_simp; with_reducible rfl
      rotate_left
      ·simp only [Act.put, sa_, sb_, sc_, i64_w, i32_w]; rfl
      refine take_ (i := 17) (N := some 26) (v := ?_) (a' := ?_) (mB 44 524287) rfl rfl (take_ofW HT_.out HW_.out (by kernel_rfl)) (fun _ _ _ h => h) (Or.inl ⟨by rfl, ?_⟩) hHeld ?_ ?_; rotate_left
      ·rintro w' ⟨s0, s1, s2, s3, s4, s5⟩; go_simp; with_reducible rfl
      rotate_left
      ·simp only [Act.put, sa_, sb_, sc_, i64_w, i32_w]; rfl
      refine take_ (i := 19) (N := some 28) (v := ?_) (a' := ?_) (mB 44 1048575) rfl rfl (take_ofW HT_.out HW_.out (by kernel_rfl)) (fun _ _ _ h => h) (Or.inl ⟨by rfl, ?_⟩) hHeld ?_ ?_; rotate_left
      ·rintro w' ⟨s0, s1, s2, s3, s4, s5⟩; go_simp; with_reducible rfl
      rotate_left
      ·simp only [Act.put, sa_, sb_, sc_, i64_w, i32_w]; rfl
      refine pw_ 20 29 (v := ?_) (a' := ?_) (mB 44 2097151) rfl rfl HT_ (by kernel_rfl) (fun _ _ _ h => h) ?_ ?_ ?_; rotate_left
      ·intro w'; go_simp; with_reducible rfl
      rotate_left
      ·simp only [Act.put, sa_, sb_, sc_, i64_w, i32_w]; rfl
      refine pw_ 21 30 (v := ?_) (a' := ?_) (mB 44 4194303) rfl rfl HT_ (by kernel_rfl) (fun _ _ _ h => h) ?_ ?_ ?_; rotate_left
      ·intro w'; go_simp; with_reducible rfl
      rotate_left
      ·simp only [Act.put, sa_, sb_, sc_, i64_w, i32_w]; rfl
      refine pw_ 22 31 (v := ?_) (a' := ?_) (mB 44 8388607) rfl rfl HT_ (by kernel_rfl) (fun _ _ _ h => h) ?_ ?_ ?_; rotate_left
      ·intro w'; go_simp; with_reducible rfl
      rotate_left
      ·simp only [Act.put, sa_, sb_, sc_, i64_w, i32_w]; rfl
      refine un_ [(23, 32), (24, 33), (25, 34), (26, 35), (27, 36), (28, 37), (29, 38)] (fuel := 14) (a' := ?_) (mB 44 1073741823) rfl HT_ (by kernel_rfl) (by kernel_rfl) (fun _ _ _ _ h => h) ?_ ?_; rotate_left
      ·simp only [unwA, Act.put, sa_, sb_, sc_, i64_w, i32_w]; rfl
      refine pw_ 30 39 (v := ?_) (a' := ?_) (mB 44 2147483647) rfl rfl HT_ (by kernel_rfl) (fun _ _ _ h => h) ?_ ?_ ?_; rotate_left
      ·intro w'; go_simp; with_reducible rfl
      rotate_left
      ·simp only [Act.put, sa_, sb_, sc_, i64_w, i32_w]; rfl
      refine pw_ 31 40 (v := ?_) (a' := ?_) (mB 44 4294967295) rfl rfl HT_ (by kernel_rfl) (fun _ _ _ h => h) ?_ ?_ ?_; rotate_left
      ·intro w'; go_simp; with_reducible rfl
      rotate_left
      ·simp only [Act.put, sa_, sb_, sc_, i64_w, i32_w]; rfl
      refine un_ [(32, 41), (33, 42), (34, 43), (35, 44), (36, 45), (37, 46), (38, 47), (39, 48), (40, 49), (41, 50), (42, 51)] (fuel := 1) (a' := ?_) (mB 44 8796093022207) rfl HT_ (by kernel_rfl) (by kernel_rfl) (fun _ _ _ _ h => h) ?_ ?_; rotate_left
      ·simp only [unwA, Act.put, sa_, sb_, sc_, i64_w, i32_w]; rfl
      refine pw_ 43 52 (v := ?_) (a' := ?_) (mB 44 17592186044415) rfl rfl HT_ (by kernel_rfl) (fun _ _ _ h => h) ?_ ?_ ?_; rotate_left
      ·intro w'; go_simp; with_reducible rfl
      rotate_left
      ·simp only [Act.put, sa_, sb_, sc_, i64_w, i32_w]; rfl
      refine done_ (done_of HT_.out (by kernel_rfl)) ?_
      try go_wp2
      go_meet
      case rel => exact ⟨_, (true), (by first | rfl | (simp; done) | (simp [*]; done)), H', ⟨by first | omega | exact Nat.le_refl _⟩, ⟨bk_ BK219⟩, ⟨bk_ BK220⟩, ⟨bk_ BK221⟩, ⟨bl_ HB⟩⟩
    ·rw [if_neg c11] at H; have c11b0 : (a0_0 == a1_0) = false := beq_eq_false_iff_ne.mpr c11; have c11b1 : (a0_0 != a1_0) = true := bne_iff_ne.mpr c11
     (first | rw [c11b0] | (simp only [i64_w, i32_w]; rw [c11b0]) | skip)
     have H' := Aside0.mk H; clear H
     try go_wp2
     replace BK219 := Aside0.mk (blk_drew BK219.out); replace BK220 := Aside0.mk (blk_drew BK220.out); replace BK221 := Aside0.mk (blk_drew BK221.out); replace HB := Aside0.mk (below_drew1 HB.out); refine start_ (n := 44) (S := fun w' => w'.cell? ⟨gb219, 0, none⟩ = some (.int .u64 a0_0) ∧ w'.cell? ⟨gb219, 1, none⟩ = some (.int .i64 a0_1) ∧ w'.cell? ⟨gb219, 2, none⟩ = some (.slice A0_2 l0_2.length c0_2) ∧ w'.cell? ⟨gb220, 0, none⟩ = some (.int .u64 a1_0) ∧ w'.cell? ⟨gb220, 1, none⟩ = some (.int .i64 a1_1) ∧ w'.cell? ⟨gb220, 2, none⟩ = some (.slice A1_2 l1_2.length c1_2)) (ds := []) (mB 44 0) (by kernel_rfl) rfl rfl ⟨(blk_cell BK219.out 0).trans rfl, (blk_cell BK219.out 1).trans rfl, (blk_cell BK219.out 2).trans rfl, (blk_cell BK220.out 0).trans rfl, (blk_cell BK220.out 1).trans rfl, (blk_cell BK220.out 2).trans rfl⟩ (fun hHeld => ?_); refine with_tabW least_Merge.tab1 least_Merge.bits1 (fun HT_ HW_ => ?_); generalize w6.drew = w25 at BK219 BK220 BK221 HB hHeld ⊢; refine take_ (i := 0) (N := some 9) (v := ?_) (a' := ?_) (mB 44 1) rfl rfl (take_ofW HT_.out HW_.out (by kernel_rfl)) (fun _ _ _ h => h) (Or.inl ⟨by rfl, ?_⟩) hHeld ?_ ?_; rotate_left
     ·rintro w' ⟨s0, s1, s2, s3, s4, s5⟩; go_simp; with_reducible rfl
     rotate_left
     ·simp only [Act.put, sa_, sb_, sc_, i64_w, i32_w]; rfl
     refine one_ (i := 1) (N := some 10) (mB 44 3) rfl rfl (one_of HT_.out (by kernel_rfl)) (by decide) (fun K hK => ?_); refine goes_ Try.func17 (by kernel_rfl) rfl #[.agg #[.int .u64 a0_0, .int .i64 a0_1, .slice A0_2 l0_2.length c0_2]] (by rfl) rfl rfl (by (try simp only [List.map_toArray, List.map_cons, List.map_nil]); first | done | rfl | (simp only [List.length_drop, List.length_take]; rfl)) ?_; with_reducible refine (least_Right.calls k a0_0 a0_1 _ _ l0_2 true _ ?side1 ?side2 A7.out).mono ?_
     (case side1 => repeat (first | exact (Kd.C_below HR0_2.out HB.out) | (with_reducible refine Kd.C_alloc ?_ _) | (with_reducible refine Kd.C_drewN ?_ _) | (with_reducible refine Kd.C_drew ?_))); (case side2 => exact HC0_2.out); rintro e w26 ⟨rfl, hb⟩; refine ⟨_, rfl, ?_⟩; replace BK219 := Aside0.mk (blk_below (bk_ BK219) hb); replace BK220 := Aside0.mk (blk_below (bk_ BK220) hb); replace BK221 := Aside0.mk (blk_below (bk_ BK221) hb); replace HB := Aside0.mk (below_step (bl_ HB) hb); (try clear hb); refine hK.out _ _ ⟨(blk_cell BK219.out 0).trans rfl, (blk_cell BK219.out 1).trans rfl, (blk_cell BK219.out 2).trans rfl, (blk_cell BK220.out 0).trans rfl, (blk_cell BK220.out 1).trans rfl, (blk_cell BK220.out 2).trans rfl⟩ (fun hHeld => ?_); clear hK K; refine norm_ (a' := ?_) ?_ ?_; rotate_left
     ·show Act.put _ (some 10) _ = _
      simp only [Act.put, sa_, sb_, sc_, i64_w, i32_w]; rfl
     refine pw_ 2 11 (v := ?_) (a' := ?_) (mB 44 7) rfl rfl HT_ (by kernel_rfl) (fun _ _ _ h => h) ?_ ?_ ?_; rotate_left
     ·intro w'; go_simp; with_reducible rfl
     rotate_left
     ·simp only [Act.put, sa_, sb_, sc_, i64_w, i32_w]; rfl
     refine pw_ 3 12 (v := ?_) (a' := ?_) (mB 44 15) rfl rfl HT_ (by kernel_rfl) (fun _ _ _ h => h) ?_ ?_ ?_; rotate_left
     ·intro w'; go_simp; with_reducible rfl
     rotate_left
     ·simp only [Act.put, sa_, sb_, sc_, i64_w, i32_w]; rfl
     refine take_ (i := 4) (N := some 13) (v := ?_) (a' := ?_) (mB 44 31) rfl rfl (take_ofW HT_.out HW_.out (by kernel_rfl)) (fun _ _ _ h => h) (Or.inl ⟨by rfl, ?_⟩) hHeld ?_ ?_; rotate_left
     ·rintro w' ⟨s0, s1, s2, s3, s4, s5⟩; go_simp; with_reducible rfl
     rotate_left
     ·simp only [Act.put, sa_, sb_, sc_, i64_w, i32_w]; rfl
     refine one_ (i := 5) (N := some 14) (mB 44 63) rfl rfl (one_of HT_.out (by kernel_rfl)) (by decide) (fun K hK => ?_); refine goes_ Try.func17 (by kernel_rfl) rfl #[.agg #[.int .u64 a1_0, .int .i64 a1_1, .slice A1_2 l1_2.length c1_2]] (by rfl) rfl rfl (by (try simp only [List.map_toArray, List.map_cons, List.map_nil]); first | done | rfl | (simp only [List.length_drop, List.length_take]; rfl)) ?_; with_reducible refine (least_Right.calls k a1_0 a1_1 _ _ l1_2 true _ ?side1 ?side2 A9.out).mono ?_
     (case side1 => repeat (first | exact (Kd.C_below HR1_2.out HB.out) | (with_reducible refine Kd.C_alloc ?_ _) | (with_reducible refine Kd.C_drewN ?_ _) | (with_reducible refine Kd.C_drew ?_))); (case side2 => exact HC1_2.out); rintro e w27 ⟨rfl, hb⟩; refine ⟨_, rfl, ?_⟩; replace BK219 := Aside0.mk (blk_below (bk_ BK219) hb); replace BK220 := Aside0.mk (blk_below (bk_ BK220) hb); replace BK221 := Aside0.mk (blk_below (bk_ BK221) hb); replace HB := Aside0.mk (below_step (bl_ HB) hb); (try clear hb); refine hK.out _ _ ⟨(blk_cell BK219.out 0).trans rfl, (blk_cell BK219.out 1).trans rfl, (blk_cell BK219.out 2).trans rfl, (blk_cell BK220.out 0).trans rfl, (blk_cell BK220.out 1).trans rfl, (blk_cell BK220.out 2).trans rfl⟩ (fun hHeld => ?_); clear hK K; refine norm_ (a' := ?_) ?_ ?_; rotate_left
     ·show Act.put _ (some 14) _ = _
      simp only [Act.put, sa_, sb_, sc_, i64_w, i32_w]; rfl
     refine pw_ 6 15 (v := ?_) (a' := ?_) (mB 44 127) rfl rfl HT_ (by kernel_rfl) (fun _ _ _ h => h) ?_ ?_ ?_; rotate_left
     ·intro w'; go_simp; with_reducible rfl
     rotate_left
     ·simp only [Act.put, sa_, sb_, sc_, i64_w, i32_w]; rfl
     refine pw_ 7 16 (v := ?_) (a' := ?_) (mB 44 255) rfl rfl HT_ (by kernel_rfl) (fun _ _ _ h => h) ?_ ?_ ?_; rotate_left
     ·intro w'; go_simp; with_reducible rfl
     rotate_left
     ·simp only [Act.put, sa_, sb_, sc_, i64_w, i32_w]; rfl
     refine pw_ 8 17 (v := ?_) (a' := ?_) (mB 44 511) rfl rfl HT_ (by kernel_rfl) (fun _ _ _ h => h) ?_ ?_ ?_; rotate_left
     ·intro w'; go_simp; with_reducible rfl
     rotate_left
     ·simp only [Act.put, sa_, sb_, sc_, i64_w, i32_w]; rfl
     refine pw_ 9 18 (v := ?_) (a' := ?_) (mB 44 1023) rfl rfl HT_ (by kernel_rfl) (fun _ _ _ h => h) ?_ ?_ ?_; rotate_left
     ·intro w'; go_simp; with_reducible rfl
     rotate_left
     ·simp only [Act.put, sa_, sb_, sc_, i64_w, i32_w]; rfl
     refine pw_ 11 20 (v := ?_) (a' := ?_) (mB 44 3071) rfl rfl HT_ (by kernel_rfl) (fun _ _ _ h => h) ?_ ?_ ?_; rotate_left
     ·intro w'; go_simp; with_reducible rfl
     rotate_left
     ·simp only [Act.put, sa_, sb_, sc_, i64_w, i32_w]; rfl
     refine take_ (i := 10) (N := some 19) (v := ?_) (a' := ?_) (mB 44 4095) rfl rfl (take_ofW HT_.out HW_.out (by kernel_rfl)) (fun _ _ _ h => h) (Or.inl ⟨by rfl, ?_⟩) hHeld ?_ ?_; rotate_left
     ·rintro w' ⟨s0, s1, s2, s3, s4, s5⟩; go_simp; with_reducible rfl
     rotate_left
     ·simp only [Act.put, sa_, sb_, sc_, i64_w, i32_w]; rfl
     refine take_ (i := 12) (N := some 21) (v := ?_) (a' := ?_) (mB 44 8191) rfl rfl (take_ofW HT_.out HW_.out (by kernel_rfl)) (fun _ _ _ h => h) (Or.inl ⟨by rfl, ?_⟩) hHeld ?_ ?_; rotate_left
     ·rintro w' ⟨s0, s1, s2, s3, s4, s5⟩; go_simp; with_reducible rfl
     rotate_left
     ·simp only [Act.put, sa_, sb_, sc_, i64_w, i32_w]; rfl
     refine pw_ 13 22 (v := ?_) (a' := ?_) (mB 44 16383) rfl rfl HT_ (by kernel_rfl) (fun _ _ _ h => h) ?_ ?_ ?_; rotate_left
     ·intro w'; go_simp; with_reducible rfl
     rotate_left
     ·simp only [Act.put, sa_, sb_, sc_, i64_w, i32_w]; rfl
     refine pw_ 14 23 (v := ?_) (a' := ?_) (mB 44 32767) rfl rfl HT_ (by kernel_rfl) (fun _ _ _ h => h) ?_ ?_ ?_; rotate_left
     ·intro w'; go_simp; with_reducible rfl
     rotate_left
     ·simp only [Act.put, sa_, sb_, sc_, i64_w, i32_w]; rfl
     refine pw_ 15 24 (v := ?_) (a' := ?_) (mB 44 65535) rfl rfl HT_ (by kernel_rfl) (fun _ _ _ h => h) ?_ ?_ ?_; rotate_left
     ·intro w'; go_simp; with_reducible rfl
     rotate_left
     ·simp only [Act.put, sa_, sb_, sc_, i64_w, i32_w]; rfl
     refine un_ [(16, 25), (17, 26), (18, 27), (19, 28), (20, 29)] (fuel := 23) (a' := ?_) (mB 44 2097151) rfl HT_ (by kernel_rfl) (by kernel_rfl) (fun _ _ _ _ h => h) ?_ ?_; rotate_left
     ·simp only [unwA, Act.put, sa_, sb_, sc_, i64_w, i32_w]; rfl
     refine pw_ 21 30 (v := ?_) (a' := ?_) (mB 44 4194303) rfl rfl HT_ (by kernel_rfl) (fun _ _ _ h => h) ?_ ?_ ?_; rotate_left
     ·intro w'; go_simp; with_reducible rfl
     rotate_left
     ·simp only [Act.put, sa_, sb_, sc_, i64_w, i32_w]; rfl
     refine pw_ 22 31 (v := ?_) (a' := ?_) (mB 44 8388607) rfl rfl HT_ (by kernel_rfl) (fun _ _ _ h => h) ?_ ?_ ?_; rotate_left
     ·intro w'; go_simp; with_reducible rfl
     rotate_left
     ·simp only [Act.put, sa_, sb_, sc_, i64_w, i32_w]; rfl
     refine un_ [(23, 32), (24, 33), (25, 34), (26, 35), (27, 36), (28, 37), (29, 38)] (fuel := 14) (a' := ?_) (mB 44 1073741823) rfl HT_ (by kernel_rfl) (by kernel_rfl) (fun _ _ _ _ h => h) ?_ ?_; rotate_left
     ·simp only [unwA, Act.put, sa_, sb_, sc_, i64_w, i32_w]; rfl
     refine pw_ 30 39 (v := ?_) (a' := ?_) (mB 44 2147483647) rfl rfl HT_ (by kernel_rfl) (fun _ _ _ h => h) ?_ ?_ ?_; rotate_left
     ·intro w'; go_simp; with_reducible rfl
     rotate_left
     ·simp only [Act.put, sa_, sb_, sc_, i64_w, i32_w]; rfl
     refine pw_ 31 40 (v := ?_) (a' := ?_) (mB 44 4294967295) rfl rfl HT_ (by kernel_rfl) (fun _ _ _ h => h) ?_ ?_ ?_; rotate_left
     ·intro w'; go_simp; with_reducible rfl
     rotate_left
     ·simp only [Act.put, sa_, sb_, sc_, i64_w, i32_w]; rfl
     refine un_ [(32, 41), (33, 42), (34, 43), (35, 44), (36, 45), (37, 46), (38, 47), (39, 48), (40, 49), (41, 50), (42, 51)] (fuel := 1) (a' := ?_) (mB 44 8796093022207) rfl HT_ (by kernel_rfl) (by kernel_rfl) (fun _ _ _ _ h => h) ?_ ?_; rotate_left
     ·simp only [unwA, Act.put, sa_, sb_, sc_, i64_w, i32_w]; rfl
     refine pw_ 43 52 (v := ?_) (a' := ?_) (mB 44 17592186044415) rfl rfl HT_ (by kernel_rfl) (fun _ _ _ h => h) ?_ ?_ ?_; rotate_left
     ·intro w'; go_simp; with_reducible rfl
     rotate_left
     ·simp only [Act.put, sa_, sb_, sc_, i64_w, i32_w]; rfl
     refine done_ (done_of HT_.out (by kernel_rfl)) ?_
     try go_wp2
     go_meet
     case rel => exact ⟨_, (true), (by first | rfl | (simp; done) | (simp [*]; done)), H', ⟨by first | omega | exact Nat.le_refl _⟩, ⟨bk_ BK219⟩, ⟨bk_ BK220⟩, ⟨bk_ BK221⟩, ⟨bl_ HB⟩⟩
   ·replace c10 := Bool.eq_false_iff.mpr c10; subst c10
    have H1 : (least_Merge.j0 k true a0_0 a0_1 l0_2 l1_2) = some (r1, r2, r3, r4) := by rw [if_neg (show ¬ (false = true) by decide)] at H; exact H
    clear H; have H := H1; clear H1; have H' := Aside0.mk H; clear H
    try go_wp2
    replace BK219 := Aside0.mk (blk_drew BK219.out); replace BK220 := Aside0.mk (blk_drew BK220.out); replace BK221 := Aside0.mk (blk_drew BK221.out); replace HB := Aside0.mk (below_drew1 HB.out); refine start_ (n := 44) (S := fun w' => w'.cell? ⟨gb219, 0, none⟩ = some (.int .u64 a0_0) ∧ w'.cell? ⟨gb219, 1, none⟩ = some (.int .i64 a0_1) ∧ w'.cell? ⟨gb219, 2, none⟩ = some (.slice A0_2 l0_2.length c0_2) ∧ w'.cell? ⟨gb220, 0, none⟩ = some (.int .u64 a1_0) ∧ w'.cell? ⟨gb220, 1, none⟩ = some (.int .i64 a1_1) ∧ w'.cell? ⟨gb220, 2, none⟩ = some (.slice A1_2 l1_2.length c1_2)) (ds := []) (mB 44 0) (by kernel_rfl) rfl rfl ⟨(blk_cell BK219.out 0).trans rfl, (blk_cell BK219.out 1).trans rfl, (blk_cell BK219.out 2).trans rfl, (blk_cell BK220.out 0).trans rfl, (blk_cell BK220.out 1).trans rfl, (blk_cell BK220.out 2).trans rfl⟩ (fun hHeld => ?_); refine with_tabW least_Merge.tab1 least_Merge.bits1 (fun HT_ HW_ => ?_); generalize w6.drew = w28 at BK219 BK220 BK221 HB hHeld ⊢; refine take_ (i := 0) (N := some 9) (v := ?_) (a' := ?_) (mB 44 1) rfl rfl (take_ofW HT_.out HW_.out (by kernel_rfl)) (fun _ _ _ h => h) (Or.inl ⟨by rfl, ?_⟩) hHeld ?_ ?_; rotate_left
    ·rintro w' ⟨s0, s1, s2, s3, s4, s5⟩; go_simp; with_reducible rfl
    rotate_left
    ·simp only [Act.put, sa_, sb_, sc_, i64_w, i32_w]; rfl
    refine one_ (i := 1) (N := some 10) (mB 44 3) rfl rfl (one_of HT_.out (by kernel_rfl)) (by decide) (fun K hK => ?_); refine goes_ Try.func17 (by kernel_rfl) rfl #[.agg #[.int .u64 a0_0, .int .i64 a0_1, .slice A0_2 l0_2.length c0_2]] (by rfl) rfl rfl (by (try simp only [List.map_toArray, List.map_cons, List.map_nil]); first | done | rfl | (simp only [List.length_drop, List.length_take]; rfl)) ?_; with_reducible refine (least_Right.calls k a0_0 a0_1 _ _ l0_2 true _ ?side1 ?side2 A7.out).mono ?_
    (case side1 => repeat (first | exact (Kd.C_below HR0_2.out HB.out) | (with_reducible refine Kd.C_alloc ?_ _) | (with_reducible refine Kd.C_drewN ?_ _) | (with_reducible refine Kd.C_drew ?_))); (case side2 => exact HC0_2.out); rintro e w29 ⟨rfl, hb⟩; refine ⟨_, rfl, ?_⟩; replace BK219 := Aside0.mk (blk_below (bk_ BK219) hb); replace BK220 := Aside0.mk (blk_below (bk_ BK220) hb); replace BK221 := Aside0.mk (blk_below (bk_ BK221) hb); replace HB := Aside0.mk (below_step (bl_ HB) hb); (try clear hb); refine hK.out _ _ ⟨(blk_cell BK219.out 0).trans rfl, (blk_cell BK219.out 1).trans rfl, (blk_cell BK219.out 2).trans rfl, (blk_cell BK220.out 0).trans rfl, (blk_cell BK220.out 1).trans rfl, (blk_cell BK220.out 2).trans rfl⟩ (fun hHeld => ?_); clear hK K; refine norm_ (a' := ?_) ?_ ?_; rotate_left
    ·show Act.put _ (some 10) _ = _
     simp only [Act.put, sa_, sb_, sc_, i64_w, i32_w]; rfl
    refine pw_ 2 11 (v := ?_) (a' := ?_) (mB 44 7) rfl rfl HT_ (by kernel_rfl) (fun _ _ _ h => h) ?_ ?_ ?_; rotate_left
    ·intro w'; go_simp; with_reducible rfl
    rotate_left
    ·simp only [Act.put, sa_, sb_, sc_, i64_w, i32_w]; rfl
    refine pw_ 3 12 (v := ?_) (a' := ?_) (mB 44 15) rfl rfl HT_ (by kernel_rfl) (fun _ _ _ h => h) ?_ ?_ ?_; rotate_left
    ·intro w'; go_simp; with_reducible rfl
    rotate_left
    ·simp only [Act.put, sa_, sb_, sc_, i64_w, i32_w]; rfl
    refine take_ (i := 4) (N := some 13) (v := ?_) (a' := ?_) (mB 44 31) rfl rfl (take_ofW HT_.out HW_.out (by kernel_rfl)) (fun _ _ _ h => h) (Or.inl ⟨by rfl, ?_⟩) hHeld ?_ ?_; rotate_left
    ·rintro w' ⟨s0, s1, s2, s3, s4, s5⟩; go_simp; with_reducible rfl
    rotate_left
    ·simp only [Act.put, sa_, sb_, sc_, i64_w, i32_w]; rfl
    refine one_ (i := 5) (N := some 14) (mB 44 63) rfl rfl (one_of HT_.out (by kernel_rfl)) (by decide) (fun K hK => ?_); refine goes_ Try.func17 (by kernel_rfl) rfl #[.agg #[.int .u64 a1_0, .int .i64 a1_1, .slice A1_2 l1_2.length c1_2]] (by rfl) rfl rfl (by (try simp only [List.map_toArray, List.map_cons, List.map_nil]); first | done | rfl | (simp only [List.length_drop, List.length_take]; rfl)) ?_; with_reducible refine (least_Right.calls k a1_0 a1_1 _ _ l1_2 false _ ?side1 ?side2 A9.out).mono ?_
    (case side1 => repeat (first | exact (Kd.C_below HR1_2.out HB.out) | (with_reducible refine Kd.C_alloc ?_ _) | (with_reducible refine Kd.C_drewN ?_ _) | (with_reducible refine Kd.C_drew ?_))); (case side2 => exact HC1_2.out); rintro e w30 ⟨rfl, hb⟩; refine ⟨_, rfl, ?_⟩; replace BK219 := Aside0.mk (blk_below (bk_ BK219) hb); replace BK220 := Aside0.mk (blk_below (bk_ BK220) hb); replace BK221 := Aside0.mk (blk_below (bk_ BK221) hb); replace HB := Aside0.mk (below_step (bl_ HB) hb); (try clear hb); refine hK.out _ _ ⟨(blk_cell BK219.out 0).trans rfl, (blk_cell BK219.out 1).trans rfl, (blk_cell BK219.out 2).trans rfl, (blk_cell BK220.out 0).trans rfl, (blk_cell BK220.out 1).trans rfl, (blk_cell BK220.out 2).trans rfl⟩ (fun hHeld => ?_); clear hK K; refine norm_ (a' := ?_) ?_ ?_; rotate_left
    ·show Act.put _ (some 14) _ = _
     simp only [Act.put, sa_, sb_, sc_, i64_w, i32_w]; rfl
    refine pw_ 6 15 (v := ?_) (a' := ?_) (mB 44 127) rfl rfl HT_ (by kernel_rfl) (fun _ _ _ h => h) ?_ ?_ ?_; rotate_left
    ·intro w'; go_simp; with_reducible rfl
    rotate_left
    ·simp only [Act.put, sa_, sb_, sc_, i64_w, i32_w]; rfl
    refine pw_ 7 16 (v := ?_) (a' := ?_) (mB 44 255) rfl rfl HT_ (by kernel_rfl) (fun _ _ _ h => h) ?_ ?_ ?_; rotate_left
    ·intro w'; go_simp; with_reducible rfl
    rotate_left
    ·simp only [Act.put, sa_, sb_, sc_, i64_w, i32_w]; rfl
    refine pw_ 8 17 (v := ?_) (a' := ?_) (mB 44 511) rfl rfl HT_ (by kernel_rfl) (fun _ _ _ h => h) ?_ ?_ ?_; rotate_left
    ·intro w'; go_simp; with_reducible rfl
    rotate_left
    ·simp only [Act.put, sa_, sb_, sc_, i64_w, i32_w]; rfl
    refine un_ [(9, 18), (10, 19), (11, 20), (12, 21), (13, 22)] (fuel := 30) (a' := ?_) (mB 44 16383) rfl HT_ (by kernel_rfl) (by kernel_rfl) (fun _ _ _ _ h => h) ?_ ?_; rotate_left
    ·simp only [unwA, Act.put, sa_, sb_, sc_, i64_w, i32_w]; rfl
    refine pw_ 14 23 (v := ?_) (a' := ?_) (mB 44 32767) rfl rfl HT_ (by kernel_rfl) (fun _ _ _ h => h) ?_ ?_ ?_; rotate_left
    ·intro w'; go_simp; with_reducible rfl
    rotate_left
    ·simp only [Act.put, sa_, sb_, sc_, i64_w, i32_w]; rfl
    refine pw_ 15 24 (v := ?_) (a' := ?_) (mB 44 65535) rfl rfl HT_ (by kernel_rfl) (fun _ _ _ h => h) ?_ ?_ ?_; rotate_left
    ·intro w'; go_simp; with_reducible rfl
    rotate_left
    ·simp only [Act.put, sa_, sb_, sc_, i64_w, i32_w]; rfl
    refine un_ [(16, 25), (17, 26), (18, 27), (19, 28), (20, 29)] (fuel := 23) (a' := ?_) (mB 44 2097151) rfl HT_ (by kernel_rfl) (by kernel_rfl) (fun _ _ _ _ h => h) ?_ ?_; rotate_left
    ·simp only [unwA, Act.put, sa_, sb_, sc_, i64_w, i32_w]; rfl
    refine pw_ 21 30 (v := ?_) (a' := ?_) (mB 44 4194303) rfl rfl HT_ (by kernel_rfl) (fun _ _ _ h => h) ?_ ?_ ?_; rotate_left
    ·intro w'; go_simp; with_reducible rfl
    rotate_left
    ·simp only [Act.put, sa_, sb_, sc_, i64_w, i32_w]; rfl
    refine pw_ 22 31 (v := ?_) (a' := ?_) (mB 44 8388607) rfl rfl HT_ (by kernel_rfl) (fun _ _ _ h => h) ?_ ?_ ?_; rotate_left
    ·intro w'; go_simp; with_reducible rfl
    rotate_left
    ·simp only [Act.put, sa_, sb_, sc_, i64_w, i32_w]; rfl
    refine un_ [(23, 32), (24, 33), (25, 34), (26, 35), (27, 36), (28, 37), (29, 38)] (fuel := 14) (a' := ?_) (mB 44 1073741823) rfl HT_ (by kernel_rfl) (by kernel_rfl) (fun _ _ _ _ h => h) ?_ ?_; rotate_left
    ·simp only [unwA, Act.put, sa_, sb_, sc_, i64_w, i32_w]; rfl
    refine pw_ 30 39 (v := ?_) (a' := ?_) (mB 44 2147483647) rfl rfl HT_ (by kernel_rfl) (fun _ _ _ h => h) ?_ ?_ ?_; rotate_left
    ·intro w'; go_simp; with_reducible rfl
    rotate_left
    ·simp only [Act.put, sa_, sb_, sc_, i64_w, i32_w]; rfl
    refine pw_ 31 40 (v := ?_) (a' := ?_) (mB 44 4294967295) rfl rfl HT_ (by kernel_rfl) (fun _ _ _ h => h) ?_ ?_ ?_; rotate_left
    ·intro w'; go_simp; with_reducible rfl
    rotate_left
    ·simp only [Act.put, sa_, sb_, sc_, i64_w, i32_w]; rfl
    refine un_ [(32, 41), (33, 42), (34, 43), (35, 44), (36, 45), (37, 46), (38, 47), (39, 48), (40, 49), (41, 50), (42, 51)] (fuel := 1) (a' := ?_) (mB 44 8796093022207) rfl HT_ (by kernel_rfl) (by kernel_rfl) (fun _ _ _ _ h => h) ?_ ?_; rotate_left
    ·simp only [unwA, Act.put, sa_, sb_, sc_, i64_w, i32_w]; rfl
    refine pw_ 43 52 (v := ?_) (a' := ?_) (mB 44 17592186044415) rfl rfl HT_ (by kernel_rfl) (fun _ _ _ h => h) ?_ ?_ ?_; rotate_left
    ·intro w'; go_simp; with_reducible rfl
    rotate_left
    ·simp only [Act.put, sa_, sb_, sc_, i64_w, i32_w]; rfl
    refine done_ (done_of HT_.out (by kernel_rfl)) ?_
    try go_wp2
    go_meet
    case rel => exact ⟨_, (true), (by first | rfl | (simp; done) | (simp [*]; done)), H', ⟨by first | omega | exact Nat.le_refl _⟩, ⟨bk_ BK219⟩, ⟨bk_ BK220⟩, ⟨bk_ BK221⟩, ⟨bl_ HB⟩⟩
  ·replace c8 := Bool.eq_false_iff.mpr c8; subst c8
   have H1 : (least_Merge.j0 k true a0_0 a0_1 l0_2 l1_2) = some (r1, r2, r3, r4) := by rw [if_neg (show ¬ (false = true) by decide)] at H; exact H
   clear H; have H := H1; clear H1; have H' := Aside0.mk H; clear H
   try go_wp2
   replace BK219 := Aside0.mk (blk_drew BK219.out); replace BK220 := Aside0.mk (blk_drew BK220.out); replace BK221 := Aside0.mk (blk_drew BK221.out); replace HB := Aside0.mk (below_drew1 HB.out); refine start_ (n := 44) (S := fun w' => w'.cell? ⟨gb219, 0, none⟩ = some (.int .u64 a0_0) ∧ w'.cell? ⟨gb219, 1, none⟩ = some (.int .i64 a0_1) ∧ w'.cell? ⟨gb219, 2, none⟩ = some (.slice A0_2 l0_2.length c0_2)) (ds := []) (mB 44 0) (by kernel_rfl) rfl rfl ⟨(blk_cell BK219.out 0).trans rfl, (blk_cell BK219.out 1).trans rfl, (blk_cell BK219.out 2).trans rfl⟩ (fun hHeld => ?_); refine with_tabW least_Merge.tab1 least_Merge.bits1 (fun HT_ HW_ => ?_); generalize w6.drew = w31 at BK219 BK220 BK221 HB hHeld ⊢; refine take_ (i := 0) (N := some 9) (v := ?_) (a' := ?_) (mB 44 1) rfl rfl (take_ofW HT_.out HW_.out (by kernel_rfl)) (fun _ _ _ h => h) (Or.inl ⟨by rfl, ?_⟩) hHeld ?_ ?_; rotate_left
   ·rintro w' ⟨s0, s1, s2⟩; go_simp; with_reducible rfl
   rotate_left
   ·simp only [Act.put, sa_, sb_, sc_, i64_w, i32_w]; rfl
   refine one_ (i := 1) (N := some 10) (mB 44 3) rfl rfl (one_of HT_.out (by kernel_rfl)) (by decide) (fun K hK => ?_); refine goes_ Try.func17 (by kernel_rfl) rfl #[.agg #[.int .u64 a0_0, .int .i64 a0_1, .slice A0_2 l0_2.length c0_2]] (by rfl) rfl rfl (by (try simp only [List.map_toArray, List.map_cons, List.map_nil]); first | done | rfl | (simp only [List.length_drop, List.length_take]; rfl)) ?_; with_reducible refine (least_Right.calls k a0_0 a0_1 _ _ l0_2 false _ ?side1 ?side2 A7.out).mono ?_
   (case side1 => repeat (first | exact (Kd.C_below HR0_2.out HB.out) | (with_reducible refine Kd.C_alloc ?_ _) | (with_reducible refine Kd.C_drewN ?_ _) | (with_reducible refine Kd.C_drew ?_))); (case side2 => exact HC0_2.out); rintro e w32 ⟨rfl, hb⟩; refine ⟨_, rfl, ?_⟩; replace BK219 := Aside0.mk (blk_below (bk_ BK219) hb); replace BK220 := Aside0.mk (blk_below (bk_ BK220) hb); replace BK221 := Aside0.mk (blk_below (bk_ BK221) hb); replace HB := Aside0.mk (below_step (bl_ HB) hb); (try clear hb); refine hK.out _ _ ⟨(blk_cell BK219.out 0).trans rfl, (blk_cell BK219.out 1).trans rfl, (blk_cell BK219.out 2).trans rfl⟩ (fun hHeld => ?_); clear hK K; refine norm_ (a' := ?_) ?_ ?_; rotate_left
   ·show Act.put _ (some 10) _ = _
    simp only [Act.put, sa_, sb_, sc_, i64_w, i32_w]; rfl
   refine pw_ 2 11 (v := ?_) (a' := ?_) (mB 44 7) rfl rfl HT_ (by kernel_rfl) (fun _ _ _ h => h) ?_ ?_ ?_; rotate_left
   ·intro w'; go_simp; with_reducible rfl
   rotate_left
   ·simp only [Act.put, sa_, sb_, sc_, i64_w, i32_w]; rfl
   refine pw_ 3 12 (v := ?_) (a' := ?_) (mB 44 15) rfl rfl HT_ (by kernel_rfl) (fun _ _ _ h => h) ?_ ?_ ?_; rotate_left
   ·intro w'; go_simp; with_reducible rfl
   rotate_left
   ·simp only [Act.put, sa_, sb_, sc_, i64_w, i32_w]; rfl
   refine un_ [(4, 13), (5, 14), (6, 15)] (fuel := 37) (a' := ?_) (mB 44 127) rfl HT_ (by kernel_rfl) (by kernel_rfl) (fun _ _ _ _ h => h) ?_ ?_; rotate_left
   ·simp only [unwA, Act.put, sa_, sb_, sc_, i64_w, i32_w]; rfl
   refine pw_ 7 16 (v := ?_) (a' := ?_) (mB 44 255) rfl rfl HT_ (by kernel_rfl) (fun _ _ _ h => h) ?_ ?_ ?_; rotate_left
   ·intro w'; go_simp; with_reducible rfl
   rotate_left
   ·simp only [Act.put, sa_, sb_, sc_, i64_w, i32_w]; rfl
   refine pw_ 8 17 (v := ?_) (a' := ?_) (mB 44 511) rfl rfl HT_ (by kernel_rfl) (fun _ _ _ h => h) ?_ ?_ ?_; rotate_left
   ·intro w'; go_simp; with_reducible rfl
   rotate_left
   ·simp only [Act.put, sa_, sb_, sc_, i64_w, i32_w]; rfl
   refine un_ [(9, 18), (10, 19), (11, 20), (12, 21), (13, 22)] (fuel := 30) (a' := ?_) (mB 44 16383) rfl HT_ (by kernel_rfl) (by kernel_rfl) (fun _ _ _ _ h => h) ?_ ?_; rotate_left
   ·simp only [unwA, Act.put, sa_, sb_, sc_, i64_w, i32_w]; rfl
   refine pw_ 14 23 (v := ?_) (a' := ?_) (mB 44 32767) rfl rfl HT_ (by kernel_rfl) (fun _ _ _ h => h) ?_ ?_ ?_; rotate_left
   ·intro w'; go_simp; with_reducible rfl
   rotate_left
   ·simp only [Act.put, sa_, sb_, sc_, i64_w, i32_w]; rfl
   refine pw_ 15 24 (v := ?_) (a' := ?_) (mB 44 65535) rfl rfl HT_ (by kernel_rfl) (fun _ _ _ h => h) ?_ ?_ ?_; rotate_left
   ·intro w'; go_simp; with_reducible rfl
   rotate_left
   ·simp only [Act.put, sa_, sb_, sc_, i64_w, i32_w]; rfl
   refine un_ [(16, 25), (17, 26), (18, 27), (19, 28), (20, 29)] (fuel := 23) (a' := ?_) (mB 44 2097151) rfl HT_ (by kernel_rfl) (by kernel_rfl) (fun _ _ _ _ h => h) ?_ ?_; rotate_left
   ·simp only [unwA, Act.put, sa_, sb_, sc_, i64_w, i32_w]; rfl
   refine pw_ 21 30 (v := ?_) (a' := ?_) (mB 44 4194303) rfl rfl HT_ (by kernel_rfl) (fun _ _ _ h => h) ?_ ?_ ?_; rotate_left
   ·intro w'; go_simp; with_reducible rfl
   rotate_left
   ·simp only [Act.put, sa_, sb_, sc_, i64_w, i32_w]; rfl
   refine pw_ 22 31 (v := ?_) (a' := ?_) (mB 44 8388607) rfl rfl HT_ (by kernel_rfl) (fun _ _ _ h => h) ?_ ?_ ?_; rotate_left
   ·intro w'; go_simp; with_reducible rfl
   rotate_left
   ·simp only [Act.put, sa_, sb_, sc_, i64_w, i32_w]; rfl
   refine un_ [(23, 32), (24, 33), (25, 34), (26, 35), (27, 36), (28, 37), (29, 38)] (fuel := 14) (a' := ?_) (mB 44 1073741823) rfl HT_ (by kernel_rfl) (by kernel_rfl) (fun _ _ _ _ h => h) ?_ ?_; rotate_left
   ·simp only [unwA, Act.put, sa_, sb_, sc_, i64_w, i32_w]; rfl
   refine pw_ 30 39 (v := ?_) (a' := ?_) (mB 44 2147483647) rfl rfl HT_ (by kernel_rfl) (fun _ _ _ h => h) ?_ ?_ ?_; rotate_left
   ·intro w'; go_simp; with_reducible rfl
   rotate_left
   ·simp only [Act.put, sa_, sb_, sc_, i64_w, i32_w]; rfl
   refine pw_ 31 40 (v := ?_) (a' := ?_) (mB 44 4294967295) rfl rfl HT_ (by kernel_rfl) (fun _ _ _ h => h) ?_ ?_ ?_; rotate_left
   ·intro w'; go_simp; with_reducible rfl
   rotate_left
   ·simp only [Act.put, sa_, sb_, sc_, i64_w, i32_w]; rfl
   refine un_ [(32, 41), (33, 42), (34, 43), (35, 44), (36, 45), (37, 46), (38, 47), (39, 48), (40, 49), (41, 50), (42, 51)] (fuel := 1) (a' := ?_) (mB 44 8796093022207) rfl HT_ (by kernel_rfl) (by kernel_rfl) (fun _ _ _ _ h => h) ?_ ?_; rotate_left
   ·simp only [unwA, Act.put, sa_, sb_, sc_, i64_w, i32_w]; rfl
   refine pw_ 43 52 (v := ?_) (a' := ?_) (mB 44 17592186044415) rfl rfl HT_ (by kernel_rfl) (fun _ _ _ h => h) ?_ ?_ ?_; rotate_left
   ·intro w'; go_simp; with_reducible rfl
   rotate_left
   ·simp only [Act.put, sa_, sb_, sc_, i64_w, i32_w]; rfl
   refine done_ (done_of HT_.out (by kernel_rfl)) ?_
   try go_wp2
   go_meet
   case rel => exact ⟨_, (true), (by first | rfl | (simp; done) | (simp [*]; done)), H', ⟨by first | omega | exact Nat.le_refl _⟩, ⟨bk_ BK219⟩, ⟨bk_ BK220⟩, ⟨bk_ BK221⟩, ⟨bl_ HB⟩⟩
 case rest =>
  clear HC3; (try clear c1); (try clear p2); (try clear c8); (try clear c10); (try clear c17); obtain ⟨kq, x52_2, rfl, HA, HJ2, BK219, BK220, BK221, HB⟩ := hcut
  cases kq with
  | zero => exact absurd HA.out (by simp [least_Merge.j0])
  | succ kj2 =>
   have H := HA.out; clear HA; simp only [least_Merge.j0] at H
   by_cases c33 : x52_2 = true
   ·subst c33
    have H1 : (some (0, 0, ([] : List (List Int)), 1)) = some (r1, r2, r3, r4) := by rw [if_pos rfl] at H; exact H
    clear H; have H := H1; clear H1; simp only [Option.some.injEq, Prod.mk.injEq] at H; obtain ⟨rfl, rfl, rfl, rfl⟩ := H; have hnb34 := NB221_219.out; have hnc34 := NB219_221.out; have hnb35 := NB221_220.out; have hnc35 := NB220_221.out; have hcz36_0 : wc.cell? ⟨gb221, 0, none⟩ = some (.int .u64 0) := (blk_cell BK221.out 0).trans rfl; have hcz36_1 : wc.cell? ⟨gb221, 1, none⟩ = some (.int .i64 0) := (blk_cell BK221.out 1).trans rfl; have hcz36_2 : wc.cell? ⟨gb221, 2, none⟩ = some (.slice none 0 0) := (blk_cell BK221.out 2).trans rfl; have hfz36_0 := blk_frozen BK221.out 0; have hfz36_1 := blk_frozen BK221.out 1; have hfz36_2 := blk_frozen BK221.out 2
    go_wp2
    refine bodyPost_ret (results_ct rfl _ _ gb221 25 #[.int .u64 0, .int .i64 0, .slice none 0 0] (0, 0) _ rfl (by (with_reducible repeat (first | refine blk_drewN ?_ _ | refine blk_drew ?_ | refine blk_alloc ?_ _)); refine blk_put (cs := #[.int .u64 0, .int .i64 0, .slice none 0 0]) ?_ 2 _ rfl; (with_reducible repeat (first | refine blk_drewN ?_ _ | refine blk_drew ?_ | refine blk_alloc ?_ _)); refine blk_put (cs := #[.int .u64 0, .int .i64 0, .slice none 0 0]) ?_ 1 _ rfl; (with_reducible repeat (first | refine blk_drewN ?_ _ | refine blk_drew ?_ | refine blk_alloc ?_ _)); refine blk_put (cs := #[.int .u64 0, .int .i64 0, .slice none 0 0]) ?_ 0 _ rfl; (with_reducible repeat (first | refine blk_drewN ?_ _ | refine blk_drew ?_ | refine blk_alloc ?_ _)); exact BK221.out) Try.underlying25 rfl (by kernel_rfl)) rfl ?_; exact ⟨_, by first | rfl | (simp [errW_none, errW_some] <;> rfl) | (simp [*, errW_none, errW_some] <;> rfl), by first | exact Kd.S_nil _ _ _ _ _ | exact Kd.N_nil _ _ _ _ _ | exact Kd.V_nil _ _ _ _ _ | exact Kd.Q_nil _ _ _ _ _ | exact Kd.R_nil _ _ _ _ _, bl_ HB⟩
   ·replace c33 := Bool.eq_false_iff.mpr c33; subst c33
    have H1 : ((least_clone.f kj2 a0_0 a0_1 l0_2).bind fun bt226 => (least_Merge.l0 kj2 l1_2 bt226.2.2 (bt226.2.2.length : Int) 0 bt226.1 bt226.2.1)) = some (r1, r2, r3, r4) := by rw [if_neg (show ¬ (false = true) by decide)] at H; exact H
    clear H; have H := H1; clear H1; replace H := Option.bind_eq_some_iff.mp H; obtain ⟨⟨t226, t227, t228⟩, A370, H⟩ := H; replace H : (least_Merge.l0 kj2 l1_2 t228 (t228.length : Int) 0 t226 t227) = some (r1, r2, r3, r4) := H; have A37 := Aside0.mk A370; clear A370; have H' := Aside0.mk H; clear H; have hnb38 := NB219_220.out; have hnc38 := NB220_219.out; have hnb39 := NB219_221.out; have hnc39 := NB221_219.out; have hcz40_0 : wc.cell? ⟨gb219, 0, none⟩ = some (.int .u64 a0_0) := (blk_cell BK219.out 0).trans rfl; have hcz40_1 : wc.cell? ⟨gb219, 1, none⟩ = some (.int .i64 a0_1) := (blk_cell BK219.out 1).trans rfl; have hcz40_2 : wc.cell? ⟨gb219, 2, none⟩ = some (.slice A0_2 l0_2.length c0_2) := (blk_cell BK219.out 2).trans rfl; have hfz40_0 := blk_frozen BK219.out 0; have hfz40_1 := blk_frozen BK219.out 1; have hfz40_2 := blk_frozen BK219.out 2
    go_wp2_with (first | ((with_reducible refine gate_callee (f := 26) rfl ?_); refine goesL_ (some 55) rfl rfl Try.func26 (by kernel_rfl) rfl #[.agg #[.int .u64 a0_0, .int .i64 a0_1, .slice A0_2 l0_2.length c0_2]] rfl (by (try simp only [List.map_toArray, List.map_cons, List.map_nil]); first | done | rfl | (simp only [List.length_drop, List.length_take]; rfl)) ?_; (with_reducible refine (least_clone.calls kj2 a0_0 a0_1 _ _ l0_2 t226 t227 t228 _ ?side1 ?side2 A37.out).mono ?_); (case side1 => repeat (first | exact (Kd.C_below HR0_2.out HB.out) | (with_reducible refine Kd.C_alloc ?_ _) | (with_reducible refine Kd.C_drewN ?_ _) | (with_reducible refine Kd.C_drew ?_))); (case side2 => exact HC0_2.out); rintro e w41 ⟨v229, rfl, ho0, hb⟩; refine ⟨_, rfl, ?_⟩; have n0_ := Aside0.mk (Kd.S_lower ho0 (below_size (bl_ HB))); have n1_ := Aside0.mk (blk_below (bk_ BK219) hb); have n2_ := Aside0.mk (blk_below (bk_ BK220) hb); have n3_ := Aside0.mk (blk_below (bk_ BK221) hb); have n4_ := Aside0.mk (below_step (bl_ HB) hb); clear BK219; clear BK220; clear BK221; clear HB; have HO230 := n0_; have BK219 := n1_; have BK220 := n2_; have BK221 := n3_; have HB := n4_; clear n0_ n1_ n2_ n3_ n4_; (try clear hb); (try clear hb2); (try clear hk); (try clear hi); (try clear ho0); have hcz42_0 : w41.cell? ⟨gb219, 0, none⟩ = some (.int .u64 a0_0) := (blk_cell BK219.out 0).trans rfl; have hcz42_1 : w41.cell? ⟨gb219, 1, none⟩ = some (.int .i64 a0_1) := (blk_cell BK219.out 1).trans rfl; have hcz42_2 : w41.cell? ⟨gb219, 2, none⟩ = some (.slice A0_2 l0_2.length c0_2) := (blk_cell BK219.out 2).trans rfl; have hfz42_0 := blk_frozen BK219.out 0; have hfz42_1 := blk_frozen BK219.out 1; have hfz42_2 := blk_frozen BK219.out 2; obtain ⟨Ao43, co43, eo43⟩ := Kd.S_slice HO230.out; subst eo43))
    go_loopg [59] kj2 (fun kq v59 w' => ∃ (x59_2 : Int) (cur : List (List Int)), v59 = .int .i64 x59_2 ∧ Aside0 (cur.length = t228.length) ∧ Aside0 (least_Merge.l0 kq l1_2 cur (t228.length : Int) x59_2 t226 t227 = some (r1, r2, r3, r4)) ∧ Aside0 (kq ≤ kj2) ∧ Aside0 (Kd.S (Kd.slice 3 (Kd.int .i64)) 33 w' w.heap.size (fun _ => True) (.slice Ao43 t228.length co43) cur) ∧ Aside0 (w'.heap[gb219]? = some (.cells #[.int .u64 t226, .int .i64 t227, (.slice Ao43 t228.length co43)] 25 (0, 0))) ∧ Aside0 (w'.heap[gb220]? = some (.cells #[.int .u64 a1_0, .int .i64 a1_1, (.slice A1_2 l1_2.length c1_2)] 25 (0, 0))) ∧ Aside0 (w'.heap[gb221]? = some (.cells #[.int .u64 0, .int .i64 0, (.slice none 0 0)] 25 (0, 0))) ∧ Aside0 (Below w.heap.size w w'))
    case atStart => exact ⟨(0), t228, (by first | rfl | (simp; done) | (simp [*]; done)), ⟨rfl⟩, H', ⟨Nat.le_refl _⟩, ⟨by (with_reducible repeat (first | apply Kd.S_alloc | apply Kd.S_drewN | apply Kd.S_drew)); exact Kd.S_mono (Kd.S_far (p := ⟨gb219, 2, none⟩) (Kd.S_far (p := ⟨gb219, 1, none⟩) (Kd.S_far (p := ⟨gb219, 0, none⟩) (Kd.S_types HO230.out BK219.out (by decide)) (fun _ hk => hk.2) (.int .u64 t226)) (fun _ hk => hk.2) (.int .i64 t227)) (fun _ hk => hk.2) (.slice Ao43 t228.length co43)) (fun _ hk => trivial)⟩, ⟨by (with_reducible repeat (first | refine blk_drewN ?_ _ | refine blk_drew ?_ | refine blk_alloc ?_ _)); refine blk_put (cs := #[.int .u64 t226, .int .i64 t227, .slice A0_2 l0_2.length c0_2]) ?_ 2 _ rfl; (with_reducible repeat (first | refine blk_drewN ?_ _ | refine blk_drew ?_ | refine blk_alloc ?_ _)); refine blk_put (cs := #[.int .u64 t226, .int .i64 a0_1, .slice A0_2 l0_2.length c0_2]) ?_ 1 _ rfl; (with_reducible repeat (first | refine blk_drewN ?_ _ | refine blk_drew ?_ | refine blk_alloc ?_ _)); refine blk_put (cs := #[.int .u64 a0_0, .int .i64 a0_1, .slice A0_2 l0_2.length c0_2]) ?_ 0 _ rfl; (with_reducible repeat (first | refine blk_drewN ?_ _ | refine blk_drew ?_ | refine blk_alloc ?_ _)); exact BK219.out⟩, ⟨by (with_reducible repeat (first | refine blk_drewN ?_ _ | refine blk_drew ?_ | refine blk_alloc ?_ _)); refine blk_far ?_ NB220_219.out _; (with_reducible repeat (first | refine blk_drewN ?_ _ | refine blk_drew ?_ | refine blk_alloc ?_ _)); refine blk_far ?_ NB220_219.out _; (with_reducible repeat (first | refine blk_drewN ?_ _ | refine blk_drew ?_ | refine blk_alloc ?_ _)); refine blk_far ?_ NB220_219.out _; (with_reducible repeat (first | refine blk_drewN ?_ _ | refine blk_drew ?_ | refine blk_alloc ?_ _)); exact BK220.out⟩, ⟨by (with_reducible repeat (first | refine blk_drewN ?_ _ | refine blk_drew ?_ | refine blk_alloc ?_ _)); refine blk_far ?_ NB221_219.out _; (with_reducible repeat (first | refine blk_drewN ?_ _ | refine blk_drew ?_ | refine blk_alloc ?_ _)); refine blk_far ?_ NB221_219.out _; (with_reducible repeat (first | refine blk_drewN ?_ _ | refine blk_drew ?_ | refine blk_alloc ?_ _)); refine blk_far ?_ NB221_219.out _; (with_reducible repeat (first | refine blk_drewN ?_ _ | refine blk_drew ?_ | refine blk_alloc ?_ _)); exact BK221.out⟩, ⟨bl_ HB⟩⟩
    case round =>
     clear H'; (try clear c1); (try clear c2); (try clear p2); (try clear c3); (try clear c8); (try clear c10); (try clear c17); (try clear c26); (try clear c33); (try clear c34); (try clear c35); (try clear c38); (try clear c39); (try clear hcz36_0); (try clear hcz36_1); (try clear hcz36_2); (try clear hcz40_0); (try clear hcz40_1); (try clear hcz40_2); (try clear hcz42_0); (try clear hcz42_1); (try clear hcz42_2); (try clear hfz36_0); (try clear hfz36_1); (try clear hfz36_2); (try clear hfz40_0); (try clear hfz40_1); (try clear hfz40_2); (try clear hfz42_0); (try clear hfz42_1); (try clear hfz42_2); (try clear p2); obtain ⟨x59_2, cur, rfl, HLEN, HA, HK2, HO_57, BK219, BK220, BK221, HB⟩ := hrel
     cases gk with
     | zero => exact absurd HA.out (by simp [least_Merge.l0])
     | succ k2 =>
      have H := HA.out; clear HA; simp only [least_Merge.l0] at H
      by_cases c44 : x59_2 < (t228.length : Int)
      ·rw [if_pos c44] at H; have c44b0 : decide (x59_2 < (t228.length : Int)) = true := decide_eq_true c44
       by_cases c45 : 0 ≤ x59_2
       ·rw [if_pos c45] at H; have c45b0 : decide (0 ≤ x59_2) = true := decide_eq_true c45
        by_cases c46 : x59_2 < (cur.length : Int)
        ·rw [if_pos c46] at H; have H' := Aside0.mk H; clear H; obtain ⟨ad, A1, c1, e1, hx1, hl1, hi1⟩ := at_L1 (Kd.S_reads' HO_57.out).2.2 x59_2 c45 c46
         cases e1; have HX1 := Aside0.mk hx1; clear hl1 hi1; have P0 := Aside0.mk c45; have P1 := Aside0.mk c46; have P2 := Aside0.mk c44; replace c45 := eq_true c45; replace c44 := eq_true c44; clear c46
         go_wp2
         go_loopg [66] k2 (fun kq v66 w' => ∃ (x66_3 : Int) (cu : List (List Int)), v66 = .int .i64 x66_3 ∧ Aside0 (cu.length = t228.length) ∧ Aside0 ((rd_L1 cu x59_2).length = (rd_L1 cur x59_2).length) ∧ Aside0 (least_Merge.l1 kq l1_2 cu (t228.length : Int) x59_2 ((rd_L1 cur x59_2).length : Int) x66_3 t226 t227 = some (r1, r2, r3, r4)) ∧ Aside0 (kq ≤ k2) ∧ Aside0 (Kd.S (Kd.slice 3 (Kd.int .i64)) 33 w' w.heap.size (fun _ => True) (.slice (some ad) t228.length co43) cu) ∧ Aside0 (w'.cell? (ad.add x59_2.toNat) = some (.slice A1 (rd_L1 cur x59_2).length c1)) ∧ Aside0 (w'.heap[gb219]? = some (.cells #[.int .u64 t226, .int .i64 t227, (.slice (some ad) t228.length co43)] 25 (0, 0))) ∧ Aside0 (w'.heap[gb220]? = some (.cells #[.int .u64 a1_0, .int .i64 a1_1, (.slice A1_2 l1_2.length c1_2)] 25 (0, 0))) ∧ Aside0 (w'.heap[gb221]? = some (.cells #[.int .u64 0, .int .i64 0, (.slice none 0 0)] 25 (0, 0))) ∧ Aside0 (Below w.heap.size w w'))
         case atStart => exact ⟨(0), cur, (by first | rfl | (simp; done) | (simp [*]; done)), HLEN, ⟨rfl⟩, H', ⟨Nat.le_refl _⟩, HO_57, HX1, BK219, BK220, BK221, HB⟩
         case round =>
          clear H' HX1 HO_57 BK219 BK220 BK221 HB; obtain ⟨x66_3, cu, rfl, HLEN2, HROW, HA, HK3, HO_57, HX1, BK219, BK220, BK221, HB⟩ := hrel
          cases gk with
          | zero => exact absurd HA.out (by simp [least_Merge.l1])
          | succ k3 =>
           have H := HA.out; clear HA; simp only [least_Merge.l1] at H
           by_cases c47 : x66_3 < ((rd_L1 cur x59_2).length : Int)
           ·rw [if_pos c47] at H; have c47b0 : decide (x66_3 < ((rd_L1 cur x59_2).length : Int)) = true := decide_eq_true c47
            by_cases c48 : 0 ≤ x66_3
            ·rw [if_pos c48] at H
             by_cases c49 : x59_2 < (l1_2.length : Int)
             ·rw [if_pos c49] at H
              by_cases c50 : x66_3 < ((rd_L1 l1_2 x59_2).length : Int)
              ·rw [if_pos c50] at H; have H' := Aside0.mk H; clear H; have HO4 := Aside0.mk (Kd.S_drew HO_57.out); have BK4 := Aside0.mk (blk_drew BK219.out); have BB4 := Aside0.mk (blk_drew BK220.out); have BL4 := Aside0.mk (blk_drew BK221.out); have HB4 := Aside0.mk (below_drew1 HB.out); have HX4 : Aside0 (wr.drew.cell? (ad.add x59_2.toNat) = some (.slice A1 (rd_L1 cu x59_2).length c1)) := ⟨by rw [HROW.out]; exact HX1.out⟩; have P3 := Aside0.mk c48; have P4 := Aside0.mk c49; have P5 := Aside0.mk c50; have P6 : Aside0 (x66_3 < ((rd_L1 cu x59_2).length : Int)) := ⟨by rw [HROW.out]; exact c47⟩; clear c48 c49 c50; replace c47 := eq_true c47
               go_wp2_with fail
               refine wp_region_still_tail 19 (by kernel_rfl) (by kernel_rfl) ?_
               change wpStill _ _ wr.drew (fun a' => wpList _ _ _ _ a' wr.drew) _ _
               generalize wr.drew = w4 at *; obtain ⟨adb, Ab, cb, eb, hxb, hlb, hib⟩ := at_L1 (Kd.C_below HR1_2.out HB4.out) x59_2 P0.out P4.out
               cases eb; obtain ⟨adc, ec, hxc⟩ := Kd.at_int hib x66_3 P3.out P5.out
               cases ec; clear hlb hib; obtain ⟨oki, cc, hcl, hM, hcc, hoki, hback⟩ := Kd.S_borrow HO4.out [] x59_2 P0.out (by first | exact P2.out | (rw [HLEN2.out]; exact P2.out)); obtain ⟨v4, rfl, hR⟩ := hM; have hv := hcc 0 _ rfl; rw [Nat.add_zero, show ((Kd.slice 3 (Kd.int .i64))).sz = 1 from rfl, Nat.mul_one] at hv; replace hv := Option.some.inj (hv.symm.trans HX4.out); subst hv; clear hcc hcl; have hR2 : (Kd.int .i64).R 3 w4 w.heap.size oki (.slice A1 (rd_L1 cu x59_2).length c1) (rd_L1 cu x59_2) := hR; clear hR; obtain ⟨g1, cap1, eg, hg1, hg2, cells, hcells⟩ := Kd.R_form hR2 (by have := P3.out; have := P6.out; omega)
               cases eg; have hfr := blk_frozen hcells x66_3.toNat; obtain ⟨A5, c5, e5, hl5, hC5⟩ := Kd.R_reads hR2
               cases e5; obtain ⟨ad5, e5, hx5⟩ := Kd.at_int hC5 x66_3 P3.out P6.out
               cases e5; have HBACK := Aside0.mk (@hback); clear hback; have HRR := Aside0.mk hR2; have HCE := Aside0.mk hcells; have HG1 := Aside0.mk hg1; have HOK := Aside0.mk hoki; clear hR2 hC5 hl5 hoki hg2 hcells hg1; rw [Addr.add_lit, Nat.zero_add] at hx5; have hz1 : w4.cell? ⟨gb219, 1, none⟩ = some (.int .i64 t227) := (blk_cell BK4.out 1).trans rfl; have hz2 : w4.cell? ⟨gb220, 2, none⟩ = some (.slice (some adb) l1_2.length c1_2) := (blk_cell BB4.out 2).trans rfl; have q0 := eq_true P3.out; have q1 := eq_true P6.out; have q2 := eq_true P4.out; have q3 := eq_true P5.out; simp only [List.take_succ_cons, List.take_zero, List.drop_succ_cons, List.drop_zero]
               repeat still_step
               try refine wpStill_nil ?_
               have hmn : (if t227 < IntKind.i64.wrap ((rd (rd_L1 cu x59_2) x66_3) + (rd (rd_L1 l1_2 x59_2) x66_3)) then t227 else IntKind.i64.wrap ((rd (rd_L1 cu x59_2) x66_3) + (rd (rd_L1 l1_2 x59_2) x66_3))) = mn (wrap64 ((rd (rd_L1 cu x59_2) x66_3) + (rd (rd_L1 l1_2 x59_2) x66_3))) t227 := by rw [i64_w]; rfl
               rw [hmn]; clear hmn; generalize mn (wrap64 ((rd (rd_L1 cu x59_2) x66_3) + (rd (rd_L1 l1_2 x59_2) x66_3))) t227 = nv at *; have RP := Kd.R_put HRR.out x66_3 nv; have HS5 := Aside0.mk (show Kd.S (Kd.slice 3 (Kd.int .i64)) 33 (w4.setCell ⟨g1, (x66_3 : Int).toNat, none⟩ (.int .i64 nv)) w.heap.size (fun _ => True) (.slice (some ad) t228.length co43) (cu.set (x59_2 : Int).toNat ((rd_L1 cu x59_2).set (x66_3 : Int).toNat nv)) from HBACK.out RP.2 (fun k_ hk_ => HRR.out.1 k_ (by rw [← hk_]; rfl)) ⟨_, rfl, RP.1⟩)
               have hne : ad.block ≠ g1 := fun e_ => (HOK.out g1 (HRR.out.1 g1 rfl)).2 (by rw [← e_]; simp [Value.ownBlock])
               have HX5 : Aside0 ((w4.setCell ⟨g1, (x66_3 : Int).toNat, none⟩ (.int .i64 nv)).cell? (ad.add x59_2.toNat) = some (.slice (some ⟨g1, 0, none⟩) (rd_L1 cur x59_2).length c1)) := ⟨by have h_ := HX4.out; rw [HROW.out] at h_; rw [← h_]; unfold World.cell?; rw [Below.heap_setCell _ _ _ _ (by have hb_ : (ad.add x59_2.toNat).block = ad.block := (by unfold Addr.add; split <;> rfl); rw [hb_]; first | exact hne | exact hne.symm)]⟩; have BK5 : Aside0 ((w4.setCell ⟨g1, (x66_3 : Int).toNat, none⟩ (.int .i64 nv)).heap[gb219]? = some (.cells #[.int .u64 t226, .int .i64 t227, (.slice (some ad) t228.length co43)] 25 (0, 0))) := ⟨blk_far BK4.out (blk_ne BK4.out HCE.out (by decide)) _⟩; have BB5 : Aside0 ((w4.setCell ⟨g1, (x66_3 : Int).toNat, none⟩ (.int .i64 nv)).heap[gb220]? = some (.cells #[.int .u64 a1_0, .int .i64 a1_1, (.slice (some adb) l1_2.length c1_2)] 25 (0, 0))) := ⟨blk_far BB4.out (blk_ne BB4.out HCE.out (by decide)) _⟩; have BL5 : Aside0 ((w4.setCell ⟨g1, (x66_3 : Int).toNat, none⟩ (.int .i64 nv)).heap[gb221]? = some (.cells #[.int .u64 0, .int .i64 0, (.slice none 0 0)] 25 (0, 0))) := ⟨blk_far BL4.out (blk_ne BL4.out HCE.out (by decide)) _⟩; have HB5 : Aside0 (Below w.heap.size w (w4.setCell ⟨g1, (x66_3 : Int).toNat, none⟩ (.int .i64 nv))) := ⟨below_set HB4.out HG1.out⟩
               have HROW5 : Aside0 ((rd_L1 (cu.set (x59_2 : Int).toNat ((rd_L1 cu x59_2).set (x66_3 : Int).toNat nv)) x59_2).length = (rd_L1 cur x59_2).length) := ⟨by rw [← HROW.out]; unfold rd_L1; by_cases h_ : x59_2.toNat < cu.length <;> simp [List.getD_eq_getElem?_getD, h_]⟩; clear RP
               go_wp2
               go_roundg k3
               case measure => have := HJ2.out; have := HK2.out; have := HK3.out; omega
               case rel => exact ⟨(wrap64 (x66_3 + 1)), _, (by first | rfl | (simp; done) | (simp [*]; done)), ⟨by rw [List.length_set]; exact HLEN2.out⟩, HROW5, H', ⟨by have := HJ2.out; have := HK2.out; have := HK3.out; omega⟩, HS5, HX5, BK5, BB5, BL5, HB5⟩
              ·rw [if_neg c50] at H; exact absurd H (by simp)
             ·rw [if_neg c49] at H; exact absurd H (by simp)
            ·rw [if_neg c48] at H; exact absurd H (by simp)
           ·rw [if_neg c47] at H; have c47b0 : decide (x66_3 < ((rd_L1 cur x59_2).length : Int)) = false := decide_eq_false c47; clear c47; have H' := Aside0.mk H; clear H
            go_wp2
            go_roundg k3
            case measure => have := HJ2.out; have := HK2.out; have := HK3.out; omega
            case rel => exact ⟨(wrap64 (x59_2 + 1)), cu, (by first | rfl | (simp; done) | (simp [*]; done)), HLEN2, H', ⟨by have := HJ2.out; have := HK2.out; have := HK3.out; omega⟩, HO_57, BK219, BK220, BK221, HB⟩
        ·rw [if_neg c46] at H; exact absurd H (by simp)
       ·rw [if_neg c45] at H; exact absurd H (by simp)
      ·rw [if_neg c44] at H; have c44b0 : decide (x59_2 < (t228.length : Int)) = false := decide_eq_false c44; clear c44; simp only [Option.some.injEq, Prod.mk.injEq] at H; obtain ⟨rfl, rfl, rfl, rfl⟩ := H; have hnb48 := NB219_220.out; have hnc48 := NB220_219.out; have hnb49 := NB219_221.out; have hnc49 := NB221_219.out; have hcz50_0 : wr.cell? ⟨gb219, 0, none⟩ = some (.int .u64 t226) := (blk_cell BK219.out 0).trans rfl; have hcz50_1 : wr.cell? ⟨gb219, 1, none⟩ = some (.int .i64 t227) := (blk_cell BK219.out 1).trans rfl; have hcz50_2 : wr.cell? ⟨gb219, 2, none⟩ = some (.slice Ao43 t228.length co43) := (blk_cell BK219.out 2).trans rfl; have hfz50_0 := blk_frozen BK219.out 0; have hfz50_1 := blk_frozen BK219.out 1; have hfz50_2 := blk_frozen BK219.out 2; have hnb51 := NB221_220.out; have hnc51 := NB220_221.out; have hcz52_0 : wr.cell? ⟨gb221, 0, none⟩ = some (.int .u64 0) := (blk_cell BK221.out 0).trans rfl; have hcz52_1 : wr.cell? ⟨gb221, 1, none⟩ = some (.int .i64 0) := (blk_cell BK221.out 1).trans rfl; have hcz52_2 : wr.cell? ⟨gb221, 2, none⟩ = some (.slice none 0 0) := (blk_cell BK221.out 2).trans rfl; have hfz52_0 := blk_frozen BK221.out 0; have hfz52_1 := blk_frozen BK221.out 1; have hfz52_2 := blk_frozen BK221.out 2
       go_wp2
       refine bodyPost_ret (results_ct rfl _ _ gb221 25 #[.int .u64 t226, .int .i64 t227, .slice Ao43 t228.length co43] (0, 0) _ rfl (by (with_reducible repeat (first | refine blk_drewN ?_ _ | refine blk_drew ?_ | refine blk_alloc ?_ _)); refine blk_put (cs := #[.int .u64 t226, .int .i64 t227, .slice none 0 0]) ?_ 2 _ rfl; (with_reducible repeat (first | refine blk_drewN ?_ _ | refine blk_drew ?_ | refine blk_alloc ?_ _)); refine blk_put (cs := #[.int .u64 t226, .int .i64 0, .slice none 0 0]) ?_ 1 _ rfl; (with_reducible repeat (first | refine blk_drewN ?_ _ | refine blk_drew ?_ | refine blk_alloc ?_ _)); refine blk_put (cs := #[.int .u64 0, .int .i64 0, .slice none 0 0]) ?_ 0 _ rfl; (with_reducible repeat (first | refine blk_drewN ?_ _ | refine blk_drew ?_ | refine blk_alloc ?_ _)); exact BK221.out) Try.underlying25 rfl (by kernel_rfl)) rfl ?_; exact ⟨_, by first | rfl | (simp [errW_none, errW_some] <;> rfl) | (simp [*, errW_none, errW_some] <;> rfl), by (with_reducible repeat (first | apply Kd.S_alloc | apply Kd.S_drewN | apply Kd.S_drew)); exact Kd.S_mono (Kd.S_far (p := ⟨gb221, 2, none⟩) (Kd.S_far (p := ⟨gb221, 1, none⟩) (Kd.S_far (p := ⟨gb221, 0, none⟩) (Kd.S_types HO_57.out BK221.out (by decide)) (fun _ hk => hk.2) (.int .u64 t226)) (fun _ hk => hk.2) (.int .i64 t227)) (fun _ hk => hk.2) (.slice Ao43 t228.length co43)) (fun _ hk => trivial), bl_ HB⟩

