/- The functions that a law uses, each as a plain function, with the proof that a call of the Go function comes to its answer. Condition of each: the arguments read as the data that it names, and the plain function has an answer. Written by a program of this session (standin.py). -/
import Derived.Test.YteakbghjhckoeaaDoorPBitmapMergesx0
import Derived.Test.YteakbghjhckoeaaDoorShort
import Derived.Laws.Bits64b
import Derived.Lib.SliceRun
import Derived.Shelf.Abstract
import Derived.Test.YteakbghjhckoeaaDoorTabs
import Derived.WalkKit
import Derived.Test.YteakbghjhckoeaaDoorTabs
import Derived.Test.YteakbghjhckoeaaDoorPress
namespace Go.Proofs.YteakbghjhckoeaaDoor.PBitmapMerges
open Go.RowKit Go.Proofs.YteakbghjhckoeaaDoorW.PrintWords Go.Proofs.YteakbghjhckoeaaDoorW.PrintLast Go.Proofs.YteakbghjhckoeaaDoorW.PrintMore Go.Proofs.YteakbghjhckoeaaDoor.Short Go.Proofs.YteakbghjhckoeaaDoor.Tabs Go.Proofs.YteakbghjhckoeaaDoor.Short Go.Proofs.YteakbghjhckoeaaDoor.Press
attribute [local go_sem] max2_int min2_int max_two min_two max_three min_three max_four min_four   -- for this text's walks alone
set_option linter.unusedVariables false
set_option linter.unusedSimpArgs false

/-! ### rillmeterlaw13_ref: function 10 -/
def rillmeterlaw13_ref.f (a0_0 : Int) (l0_1 : List (List Bool)) : Option (Int × (List (List Bool))) := some (a0_0, l0_1)
set_option maxHeartbeats 80000000 in
set_option maxRecDepth 100000 in
theorem rillmeterlaw13_ref.calls (a0_0 : Int) (P0_1_ : Nat → Prop) (A0_1 : Option Addr) (c0_1 : Nat) (l0_1 : List (List Bool)) (r1 : Int) (r2 : List (List Bool)) (w : World) (hs0_1 : Kd.V (Kd.slice 4 Kd.bool) 33 w w.heap.size (fun k_ => P0_1_ k_) (.slice A0_1 l0_1.length c0_1) l0_1) (h : rillmeterlaw13_ref.f a0_0 l0_1 = some (r1, r2)) :
    Calls Tryd.prog 10 #[.agg #[.int .u64 a0_0, .slice A0_1 l0_1.length c0_1]] w fun e w' => ∃ v1_ : Value, e = .returned (.agg #[.int .u64 r1, v1_]) ∧ Kd.V (Kd.slice 4 Kd.bool) 33 w' w.heap.size (fun k_ => (P0_1_ k_ ∨ w.heap.size ≤ k_)) v1_ r2 ∧ Below w.heap.size w w' := by
 have hu25 := Tryd.underlying25; have hu30 := Tryd.underlying30; have HO0_1 := Aside0.mk (show Kd.V (Kd.slice 4 Kd.bool) 33 w w.heap.size (fun k_ => (P0_1_ k_ ∨ w.heap.size ≤ k_)) (.slice A0_1 l0_1.length c0_1) l0_1 from Kd.V_mono hs0_1 (fun k_ hk => .inl hk)); have HB := Aside0.mk (Below.refl w.heap.size w); have H : (some (a0_0, l0_1)) = some (r1, r2) := h; clear h; simp only [Option.some.injEq, Prod.mk.injEq] at H; obtain ⟨rfl, rfl⟩ := H
 go_enter Tryd.func10, Tryd.ntmps10
 go_wp2_with (first | ((with_reducible refine gate_dst (N := 1) rfl ?_); refine box_event ?hg (N := 1) ?hd (cs := #[.int .u64 a0_0, .slice A0_1 l0_1.length c0_1]) (t := 25) ?hr ?_; (case hd => rfl); (case hg => rfl); (case hr => first | (go_simp; done) | (go_simp; rfl)); intro gb101 hg w2 hbox hb; have n0_ := Aside0.mk (Kd.V_below (Kd.V_elderB (vk_ HO0_1) gb101 (Nat.le_of_eq hg.symm)) hb); have n1_ := Aside0.mk (below_step (bl_ HB) hb); have n2_ := Aside0.mk (hbox); have n3_ := Aside0.mk (gl_ hg HB); have n4_ := Aside0.mk (gl_ hg HB); clear HO0_1; clear HB; have HO0_1 := n0_; have HB := n1_; have BK101 := n2_; have GW101 := n3_; have GE101 := n4_; clear n0_ n1_ n2_ n3_ n4_; clear hb hbox hg) | ((with_reducible refine gate_dst (N := 2) rfl ?_); refine box_event ?hg (N := 2) ?hd (cs := #[.int .u64 0, .slice none 0 0]) (t := 30) ?hr ?_; (case hd => rfl); (case hg => rfl); (case hr => first | (go_simp; done) | (go_simp; rfl)); intro gb102 hg w3 hbox hb; have n0_ := Aside0.mk (Kd.V_below (Kd.V_elderB (vk_ HO0_1) gb102 (Nat.le_of_eq hg.symm)) hb); have n1_ := Aside0.mk (blk_below (bk_ BK101) hb); have n2_ := Aside0.mk (below_step (bl_ HB) hb); have n3_ := Aside0.mk (hbox); have n4_ := Aside0.mk (gl_ hg HB); have n5_ := Aside0.mk (gl_ hg HB); have n6_ := Aside0.mk (nl_ hg BK101); have n7_ := Aside0.mk (ng_ hg BK101); clear HO0_1; clear BK101; clear HB; have HO0_1 := n0_; have BK101 := n1_; have HB := n2_; have BK102 := n3_; have GW102 := n4_; have GE102 := n5_; have NB101_102 := n6_; have NB102_101 := n7_; clear n0_ n1_ n2_ n3_ n4_ n5_ n6_ n7_; clear hb hbox hg; have hnb4 := NB101_102.out; have hnc4 := NB102_101.out; have hcz5_0 : w3.cell? ⟨gb101, 0, none⟩ = some (.int .u64 a0_0) := (blk_cell BK101.out 0).trans rfl; have hcz5_1 : w3.cell? ⟨gb101, 1, none⟩ = some (.slice A0_1 l0_1.length c0_1) := (blk_cell BK101.out 1).trans rfl; have hfz5_0 := blk_frozen BK101.out 0; have hfz5_1 := blk_frozen BK101.out 1; have hcz6_0 : w3.cell? ⟨gb102, 0, none⟩ = some (.int .u64 0) := (blk_cell BK102.out 0).trans rfl; have hcz6_1 : w3.cell? ⟨gb102, 1, none⟩ = some (.slice none 0 0) := (blk_cell BK102.out 1).trans rfl; have hfz6_0 := blk_frozen BK102.out 0; have hfz6_1 := blk_frozen BK102.out 1))
 refine bodyPost_ret (results_cell_row rfl _ _ gb102 30 #[.int .u64 a0_0, .slice A0_1 l0_1.length c0_1] (0, 0) _ rfl (by (with_reducible repeat (first | refine blk_drewN ?_ _ | refine blk_drew ?_ | refine blk_alloc ?_ _)); refine blk_put (cs := #[.int .u64 a0_0, .slice none 0 0]) ?_ 1 _ rfl; (with_reducible repeat (first | refine blk_drewN ?_ _ | refine blk_drew ?_ | refine blk_alloc ?_ _)); refine blk_put (cs := #[.int .u64 0, .slice none 0 0]) ?_ 0 _ rfl; (with_reducible repeat (first | refine blk_drewN ?_ _ | refine blk_drew ?_ | refine blk_alloc ?_ _)); exact BK102.out) Tryd.underlying30 rfl (by kernel_rfl)) rfl ?_; exact ⟨_, by first | rfl | (simp [errW_none, errW_some] <;> rfl) | (simp [*, errW_none, errW_some] <;> rfl), by (with_reducible repeat (first | apply Kd.V_alloc | apply Kd.V_drewN | apply Kd.V_drew)); exact Kd.V_mono (Kd.V_far (p := ⟨gb102, 1, none⟩) (Kd.V_far (p := ⟨gb102, 0, none⟩) (Kd.V_mono HO0_1.out (fun k_ hk => (⟨hk, hk.2⟩ : _ ∧ k_ ≠ gb102))) (fun _ hk => hk.2) (.int .u64 a0_0)) (fun _ hk => hk.2) (.slice A0_1 l0_1.length c0_1)) (fun _ hk => hk.1.1.1), bl_ HB⟩

/-! ### bitmap_New: function 8 -/
mutual
def bitmap_New.j0 : Nat → Int → Int → Int → Bool → Option (Int × (List (List Bool)) × Int)
  | 0, _, _, _, _ => none
  | k + 1, x0, x1, x2, x22 => if x22 = true then (some (0, ([] : List (List Bool)), 1)) else (bitmap_New.l0 k x2 x1 0 x0 ([] : List (List Bool)))
def bitmap_New.l0 : Nat → Int → Int → Int → Int → List (List Bool) → Option (Int × (List (List Bool)) × Int)
  | 0, _, _, _, _, _ => none
  | k + 1, x2, x26, x27, x105000, x105001 => if x27 < x26 then (if 0 ≤ x2 then (if (x2 : Int).toNat ≤ 281474976710656 then (if x105001.length < 5864062014805 then (bitmap_New.l0 k x2 x26 (wrap64 (x27 + 1)) x105000 (x105001 ++ [(List.replicate (x2 : Int).toNat false)])) else (none)) else (none)) else (none)) else (some (x105000, x105001, 0))
end
def bitmap_New.f (k : Nat) (a0 : Int) (a1 : Int) (a2 : Int) : Option (Int × (List (List Bool)) × Int) := if a1 < 1 then (bitmap_New.j0 k a0 a1 a2 true) else (if a1 > 16 then (bitmap_New.j0 k a0 a1 a2 true) else (if a2 < 1 then (bitmap_New.j0 k a0 a1 a2 true) else (bitmap_New.j0 k a0 a1 a2 (decide (a2 > 256)))))
theorem bitmap_New.mono_l : ∀ k, (∀ y0 y1 y2 y3, LeO (bitmap_New.j0 k y0 y1 y2 y3) (bitmap_New.j0 (k + 1) y0 y1 y2 y3)) ∧ (∀ y0 y1 y2 y3 y4, LeO (bitmap_New.l0 k y0 y1 y2 y3 y4) (bitmap_New.l0 (k + 1) y0 y1 y2 y3 y4))
  | 0 => ⟨fun _ _ _ _ r h => by simp [bitmap_New.j0] at h, fun _ _ _ _ _ r h => by simp [bitmap_New.l0] at h⟩
  | k + 1 => by
    obtain ⟨ih0, ih1⟩ := bitmap_New.mono_l k
    refine ⟨?_, ?_⟩
    · intro y0 y1 y2 y3
      unfold bitmap_New.j0
      repeat' first
      | (with_reducible exact ih0 _ _ _ _)
      | (with_reducible exact ih1 _ _ _ _ _)
      | (with_reducible exact LeO.refl _)
      | (with_reducible exact LeO.none _)
      | (with_reducible refine LeO.ite ?_ ?_)
      | (with_reducible refine LeO.bind ?_ (fun _ => ?_))
      | exact ih0 _ _ _ _
      | exact ih1 _ _ _ _ _
      | exact LeO.none _
      | refine LeO.ite ?_ ?_
      | refine LeO.bind ?_ (fun _ => ?_)
    · intro y0 y1 y2 y3 y4
      unfold bitmap_New.l0
      repeat' first
      | (with_reducible exact ih0 _ _ _ _)
      | (with_reducible exact ih1 _ _ _ _ _)
      | (with_reducible exact LeO.refl _)
      | (with_reducible exact LeO.none _)
      | (with_reducible refine LeO.ite ?_ ?_)
      | (with_reducible refine LeO.bind ?_ (fun _ => ?_))
      | exact ih0 _ _ _ _
      | exact ih1 _ _ _ _ _
      | exact LeO.none _
      | refine LeO.ite ?_ ?_
      | refine LeO.bind ?_ (fun _ => ?_)
theorem bitmap_New.mono : ∀ a0 a1 a2 k, LeO (bitmap_New.f k a0 a1 a2) (bitmap_New.f (k + 1) a0 a1 a2) := by
  intro a0 a1 a2 k
  obtain ⟨ih0, ih1⟩ := bitmap_New.mono_l k
  unfold bitmap_New.f
  repeat' first
      | (with_reducible exact ih0 _ _ _ _)
      | (with_reducible exact ih1 _ _ _ _ _)
      | (with_reducible exact LeO.refl _)
      | (with_reducible exact LeO.none _)
      | (with_reducible refine LeO.ite ?_ ?_)
      | (with_reducible refine LeO.bind ?_ (fun _ => ?_))
      | exact ih0 _ _ _ _
      | exact ih1 _ _ _ _ _
      | exact LeO.none _
      | refine LeO.ite ?_ ?_
      | refine LeO.bind ?_ (fun _ => ?_)
def bitmap_New.T6 : Bool × List (List Nat × List Nat) := (true, [([], []), ([0], [0]), ([], []), ([2, 2], [2]), ([3], [3]), ([1, 4], [1, 4]), ([0, 1, 2, 3, 4, 5], []), ([6, 5, 5, 0, 1, 2, 3, 4, 5], [5, 6])])
def bitmap_New.B6 : List Nat := [0, 1, 0, 4, 12, 31, 63, 127]
theorem bitmap_New.tab6 : rtab .any (opsOf Tryd.f8 6) = bitmap_New.T6 := by kernel_rfl
theorem bitmap_New.bits6 : waitsOk bitmap_New.T6.2 bitmap_New.B6 = true := by kernel_rfl
set_option maxHeartbeats 80000000 in
set_option maxRecDepth 100000 in
theorem bitmap_New.calls (k : Nat) (a0 : Int) (a1 : Int) (a2 : Int) (r1 : Int) (r2 : List (List Bool)) (r3 : Int) (w : World) (h : bitmap_New.f k a0 a1 a2 = some (r1, r2, r3)) :
    Calls Tryd.prog 8 #[.int .u64 a0, .int .i64 a1, .int .i64 a2] w fun e w' => ∃ v1_ : Value, e = .returned (.tuple #[.agg #[.int .u64 r1, v1_], .int .i64 r3]) ∧ Kd.S (Kd.slice 4 Kd.bool) 33 w' w.heap.size (fun _ => True) v1_ r2 ∧ Below w.heap.size w w' := by
 have hu25 := Tryd.underlying25; have HB := Aside0.mk (Below.refl w.heap.size w); have H : (if a1 < 1 then (bitmap_New.j0 k a0 a1 a2 true) else (if a1 > 16 then (bitmap_New.j0 k a0 a1 a2 true) else (if a2 < 1 then (bitmap_New.j0 k a0 a1 a2 true) else (bitmap_New.j0 k a0 a1 a2 (decide (a2 > 256)))))) = some (r1, r2, r3) := h; clear h; have HC4 := Aside0.mk H; clear H
 go_enter Tryd.func8, Tryd.ntmps8
 go_upto_region 1 with (first | ((with_reducible refine gate_dst (N := 6) rfl ?_); refine box_event ?hg (N := 6) ?hd (cs := #[.int .u64 0, .slice none 0 0]) (t := 25) ?hr ?_; (case hd => rfl); (case hg => rfl); (case hr => first | (go_simp; done) | (go_simp; rfl)); intro gb103 hg w5 hbox hb; have n0_ := Aside0.mk (below_step (bl_ HB) hb); have n1_ := Aside0.mk (hbox); have n2_ := Aside0.mk (gl_ hg HB); have n3_ := Aside0.mk (gl_ hg HB); clear HB; have HB := n0_; have BK103 := n1_; have GW103 := n2_; have GE103 := n3_; clear n0_ n1_ n2_ n3_; clear hb hbox hg))
 (try simp only [Act.put, sa_, sb_, sc_])
 go_cut [22] (fun v22 wc => ∃ (kq : Nat) (x22_3 : Bool), v22 = .bool x22_3 ∧ Aside0 (bitmap_New.j0 kq a0 a1 a2 x22_3 = some (r1, r2, r3)) ∧ Aside0 (kq ≤ k) ∧ Aside0 (wc.heap[gb103]? = some (.cells #[.int .u64 0, (.slice none 0 0)] 25 (0, 0))) ∧ Aside0 (Below w.heap.size w wc))
 case first =>
  have H := HC4.out; clear HC4
  by_cases c6 : a1 < 1
  ·rw [if_pos c6] at H; have c6b0 : decide (a1 < 1) = true := decide_eq_true c6; clear c6
   (first | rw [c6b0] | (simp only [i64_w, i32_w]; rw [c6b0]) | skip)
   have H' := Aside0.mk H; clear H
   go_wp2
   go_meet
   case rel => exact ⟨_, (true), (by first | rfl | (simp; done) | (simp [*]; done)), H', ⟨by first | omega | exact Nat.le_refl _⟩, ⟨bk_ BK103⟩, ⟨bl_ HB⟩⟩
  ·rw [if_neg c6] at H; have c6b0 : decide (a1 < 1) = false := decide_eq_false c6; clear c6
   (first | rw [c6b0] | (simp only [i64_w, i32_w]; rw [c6b0]) | skip)
   by_cases c7 : a1 > 16
   ·rw [if_pos c7] at H; have c7b0 : decide (16 < a1) = true := decide_eq_true c7; clear c7; have H' := Aside0.mk H; clear H
    go_wp2
    go_meet
    case rel => exact ⟨_, (true), (by first | rfl | (simp; done) | (simp [*]; done)), H', ⟨by first | omega | exact Nat.le_refl _⟩, ⟨bk_ BK103⟩, ⟨bl_ HB⟩⟩
   ·rw [if_neg c7] at H; have c7b0 : decide (16 < a1) = false := decide_eq_false c7; clear c7
    by_cases c8 : a2 < 1
    ·rw [if_pos c8] at H; have c8b0 : decide (a2 < 1) = true := decide_eq_true c8; clear c8; have H' := Aside0.mk H; clear H
     go_wp2
     go_meet
     case rel => exact ⟨_, (true), (by first | rfl | (simp; done) | (simp [*]; done)), H', ⟨by first | omega | exact Nat.le_refl _⟩, ⟨bk_ BK103⟩, ⟨bl_ HB⟩⟩
    ·rw [if_neg c8] at H; have c8b0 : decide (a2 < 1) = false := decide_eq_false c8; clear c8; have H' := Aside0.mk H; clear H
     go_wp2
     go_meet
     case rel => exact ⟨_, (decide (a2 > 256)), (by first | rfl | (simp; done) | (simp [*]; done)), H', ⟨by first | omega | exact Nat.le_refl _⟩, ⟨bk_ BK103⟩, ⟨bl_ HB⟩⟩
 case rest =>
  clear HC4; (try clear p2); (try clear c6); (try clear c6b0); (try clear c7); (try clear c7b0); (try clear c8); (try clear c8b0); obtain ⟨kq, x22_3, rfl, HA, HJ3, BK103, HB⟩ := hcut
  cases kq with
  | zero => exact absurd HA.out (by simp [bitmap_New.j0])
  | succ kj3 =>
   have H := HA.out; clear HA; simp only [bitmap_New.j0] at H
   by_cases c9 : x22_3 = true
   ·subst c9
    have H1 : (some (0, ([] : List (List Bool)), 1)) = some (r1, r2, r3) := by rw [if_pos rfl] at H; exact H
    clear H; have H := H1; clear H1; simp only [Option.some.injEq, Prod.mk.injEq] at H; obtain ⟨rfl, rfl, rfl⟩ := H; have hcz10_0 : wc.cell? ⟨gb103, 0, none⟩ = some (.int .u64 0) := (blk_cell BK103.out 0).trans rfl; have hcz10_1 : wc.cell? ⟨gb103, 1, none⟩ = some (.slice none 0 0) := (blk_cell BK103.out 1).trans rfl; have hfz10_0 := blk_frozen BK103.out 0; have hfz10_1 := blk_frozen BK103.out 1
    go_wp2
    refine bodyPost_ret (results_ct rfl _ _ gb103 25 #[.int .u64 0, .slice none 0 0] (0, 0) _ rfl (by (with_reducible repeat (first | refine blk_drewN ?_ _ | refine blk_drew ?_ | refine blk_alloc ?_ _)); refine blk_put (cs := #[.int .u64 0, .slice none 0 0]) ?_ 1 _ rfl; (with_reducible repeat (first | refine blk_drewN ?_ _ | refine blk_drew ?_ | refine blk_alloc ?_ _)); refine blk_put (cs := #[.int .u64 0, .slice none 0 0]) ?_ 0 _ rfl; (with_reducible repeat (first | refine blk_drewN ?_ _ | refine blk_drew ?_ | refine blk_alloc ?_ _)); exact BK103.out) Tryd.underlying25 rfl (by kernel_rfl)) rfl ?_; exact ⟨_, by first | rfl | (simp [errW_none, errW_some] <;> rfl) | (simp [*, errW_none, errW_some] <;> rfl), by first | exact Kd.S_nil _ _ _ _ _ | exact Kd.N_nil _ _ _ _ _ | exact Kd.V_nil _ _ _ _ _ | exact Kd.Q_nil _ _ _ _ _ | exact Kd.R_nil _ _ _ _ _, bl_ HB⟩
   ·replace c9 := Bool.eq_false_iff.mpr c9; subst c9
    have H1 : (bitmap_New.l0 kj3 a2 a1 0 a0 ([] : List (List Bool))) = some (r1, r2, r3) := by rw [if_neg (show ¬ (false = true) by decide)] at H; exact H
    clear H; have H := H1; clear H1; have H' := Aside0.mk H; clear H
    go_wp2_with (first | ((with_reducible refine gate_dst (N := 8) rfl ?_); refine box_event ?hg (N := 8) ?hd (cs := #[.int .u64 0, .slice none 0 0]) (t := 25) ?hr ?_; (case hd => rfl); (case hg => rfl); (case hr => first | (go_simp; done) | (go_simp; rfl)); intro gb104 hg w11 hbox hb; have n0_ := Aside0.mk (blk_below (bk_ BK103) hb); have n1_ := Aside0.mk (below_step (bl_ HB) hb); have n2_ := Aside0.mk (hbox); have n3_ := Aside0.mk (gl_ hg HB); have n4_ := Aside0.mk (gl_ hg HB); have n5_ := Aside0.mk (nl_ hg BK103); have n6_ := Aside0.mk (ng_ hg BK103); clear BK103; clear HB; have BK103 := n0_; have HB := n1_; have BK104 := n2_; have GW104 := n3_; have GE104 := n4_; have NB103_104 := n5_; have NB104_103 := n6_; clear n0_ n1_ n2_ n3_ n4_ n5_ n6_; clear hb hbox hg; have hnb12 := NB104_103.out; have hnc12 := NB103_104.out; have hcz13_0 : w11.cell? ⟨gb104, 0, none⟩ = some (.int .u64 0) := (blk_cell BK104.out 0).trans rfl; have hcz13_1 : w11.cell? ⟨gb104, 1, none⟩ = some (.slice none 0 0) := (blk_cell BK104.out 1).trans rfl; have hfz13_0 := blk_frozen BK104.out 0; have hfz13_1 := blk_frozen BK104.out 1))
    go_loopg [27] kj3 (fun kq v27 w' => ∃ (x27_2 : Int) (x105001_2 : List (List Bool)) (u105001 : Value), v27 = .int .i64 x27_2 ∧ Aside0 (bitmap_New.l0 kq a2 a1 x27_2 a0 x105001_2 = some (r1, r2, r3)) ∧ Aside0 (kq ≤ kj3) ∧ Aside0 (Kd.S (Kd.slice 4 Kd.bool) 33 w' w.heap.size (fun _ => True) u105001 x105001_2) ∧ Aside0 (w'.heap[gb103]? = some (.cells #[.int .u64 0, (.slice none 0 0)] 25 (0, 0))) ∧ Aside0 (w'.heap[gb104]? = some (.cells #[.int .u64 a0, u105001] 25 (0, 0))) ∧ Aside0 (Below w.heap.size w w'))
    case atStart => exact ⟨(0), (([] : List (List Bool))), (.slice none 0 0), (by first | rfl | (simp; done) | (simp [*]; done)), H', ⟨Nat.le_refl _⟩, ⟨by first | exact Kd.S_nil _ _ _ _ _ | exact Kd.N_nil _ _ _ _ _ | exact Kd.V_nil _ _ _ _ _ | exact Kd.Q_nil _ _ _ _ _ | exact Kd.R_nil _ _ _ _ _⟩, ⟨by (with_reducible repeat (first | refine blk_drewN ?_ _ | refine blk_drew ?_ | refine blk_alloc ?_ _)); refine blk_far ?_ NB103_104.out _; (with_reducible repeat (first | refine blk_drewN ?_ _ | refine blk_drew ?_ | refine blk_alloc ?_ _)); refine blk_far ?_ NB103_104.out _; (with_reducible repeat (first | refine blk_drewN ?_ _ | refine blk_drew ?_ | refine blk_alloc ?_ _)); exact BK103.out⟩, ⟨by (with_reducible repeat (first | refine blk_drewN ?_ _ | refine blk_drew ?_ | refine blk_alloc ?_ _)); refine blk_put (cs := #[.int .u64 a0, .slice none 0 0]) ?_ 1 _ rfl; (with_reducible repeat (first | refine blk_drewN ?_ _ | refine blk_drew ?_ | refine blk_alloc ?_ _)); refine blk_put (cs := #[.int .u64 0, .slice none 0 0]) ?_ 0 _ rfl; (with_reducible repeat (first | refine blk_drewN ?_ _ | refine blk_drew ?_ | refine blk_alloc ?_ _)); exact BK104.out⟩, ⟨bl_ HB⟩⟩
    case round =>
     clear H'; (try clear c1); (try clear p2); (try clear c6); (try clear c6b0); (try clear c7); (try clear c7b0); (try clear c8); (try clear c8b0); (try clear c9); (try clear c12); (try clear hcz10_0); (try clear hcz10_1); (try clear hcz13_0); (try clear hcz13_1); (try clear hfz10_0); (try clear hfz10_1); (try clear hfz13_0); (try clear hfz13_1); (try clear p2); obtain ⟨x27_2, x105001_2, u105001, rfl, HA, HK2, HO_105001, BK103, BK104, HB⟩ := hrel
     cases gk with
     | zero => exact absurd HA.out (by simp [bitmap_New.l0])
     | succ k2 =>
      have H := HA.out; clear HA; simp only [bitmap_New.l0] at H
      by_cases c14 : x27_2 < a1
      ·rw [if_pos c14] at H; have c14b0 : decide (x27_2 < a1) = true := decide_eq_true c14; clear c14
       by_cases c15 : 0 ≤ a2
       ·rw [if_pos c15] at H; have c15b0 := eq_true c15; have c15b1 : decide (0 ≤ a2) = true := decide_eq_true c15; clear c15
        by_cases c16 : (a2 : Int).toNat ≤ 281474976710656
        ·rw [if_pos c16] at H; have c16b0 := eq_true c16; have c16b1 : decide ((a2 : Int).toNat ≤ 281474976710656) = true := decide_eq_true c16; clear c16; obtain ⟨y105, hy105⟩ : ∃ y_ : List Bool, y_ = (List.replicate (a2 : Int).toNat false) := ⟨_, rfl⟩
         replace H : (if x105001_2.length < 5864062014805 then (bitmap_New.l0 k2 a2 a1 (wrap64 (x27_2 + 1)) a0 (x105001_2 ++ [y105])) else (none)) = some (r1, r2, r3) := by first | (rw [hy105]; with_reducible exact H) | (have H2_ := (Option.bind_some _ _).symm.trans H; rw [hy105]; with_reducible exact H2_) | (have H2_ := (Option.bind_some _ _).symm.trans H; with_reducible exact H2_) | with_reducible exact H | (rw [hy105]; exact H) | exact H
         have Ny105 := Aside0.mk hy105; clear hy105
         by_cases c17 : x105001_2.length < 5864062014805
         ·rw [if_pos c17] at H; have LMc17 := Aside0.mk c17; clear c17; obtain ⟨y108, hy108⟩ : ∃ y_ : List (List Bool), y_ = (x105001_2 ++ [y105]) := ⟨_, rfl⟩
          replace H : (bitmap_New.l0 k2 a2 a1 (wrap64 (x27_2 + 1)) a0 y108) = some (r1, r2, r3) := by first | (rw [hy108]; with_reducible exact H) | (have H2_ := (Option.bind_some _ _).symm.trans H; rw [hy108]; with_reducible exact H2_) | (have H2_ := (Option.bind_some _ _).symm.trans H; with_reducible exact H2_) | with_reducible exact H | (rw [hy108]; exact H) | exact H
          have Ny108 := Aside0.mk hy108; clear hy108; have H' := Aside0.mk H; clear H
          try go_wp2
          replace HO_105001 := Aside0.mk (Kd.S_drew HO_105001.out); replace BK103 := Aside0.mk (blk_drew BK103.out); replace BK104 := Aside0.mk (blk_drew BK104.out); replace HB := Aside0.mk (below_drew1 HB.out); refine start_ (n := 8) (S := fun w' => w'.cell? ⟨gb104, 0, none⟩ = some (.int .u64 a0) ∧ w'.cell? ⟨gb104, 1, none⟩ = some (u105001)) (ds := [7]) (mB 8 0) (by kernel_rfl) rfl rfl ⟨(blk_cell BK104.out 0).trans rfl, (blk_cell BK104.out 1).trans rfl⟩ (fun hHeld => ?_); refine with_tabW bitmap_New.tab6 bitmap_New.bits6 (fun HT_ HW_ => ?_); generalize wr.drew = w18 at HO_105001 BK103 BK104 HB hHeld ⊢; refine pw_ 0 29 (v := ?_) (a' := ?_) (mB 8 1) rfl rfl HT_ (by kernel_rfl) (fun _ _ _ h => h) ?_ ?_ ?_; rotate_left
          ·intro w'; go_simp; with_reducible rfl
          rotate_left
          ·simp only [Act.put, sa_, sb_, sc_, i64_w, i32_w]; rfl
          refine pw_ 2 31 (v := ?_) (a' := ?_) (mB 8 5) rfl rfl HT_ (by kernel_rfl) (fun _ _ _ h => h) ?_ ?_ ?_; rotate_left
          ·intro w'; go_simp; with_reducible rfl
          rotate_left
          ·simp only [Act.put, sa_, sb_, sc_, i64_w, i32_w]; rfl
          refine take_ (i := 1) (N := some 30) (v := ?_) (a' := ?_) (mB 8 7) rfl rfl (take_ofW HT_.out HW_.out (by kernel_rfl)) (fun _ _ _ h => h) (Or.inl ⟨by rfl, ?_⟩) hHeld ?_ ?_; rotate_left
          ·rintro w' ⟨s0, s1⟩; go_simp; with_reducible rfl
          rotate_left
          ·simp only [Act.put, sa_, sb_, sc_, i64_w, i32_w]; rfl
          refine one_ (i := 3) (N := some 32) (mB 8 15) rfl rfl (one_of HT_.out (by kernel_rfl)) (by decide) (fun K hK => ?_); refine Kd.R_make_step Kd.bool _ 4 (by rfl) (N := 32) rfl 33 _ _ rfl a2 rfl rfl Tryd.underlying33 (.bool false) 1 info4 rfl (by decide) (by omega) false (ok := fun _ => True) (okp := fun _ => True) rfl (fun _ hk => hk) trivial (of_decide_eq_true (by first | (with_reducible assumption) | assumption)) (Nat.le_trans (Nat.mul_le_mul_right _ (of_decide_eq_true (by first | (with_reducible assumption) | assumption) : a2.toNat ≤ 281474976710656)) (by omega)) (Below.refl _ _) (Nat.le_refl _) ?_; intro v106 w19 ho20 hb hg_ hnew_; clear hg_ hnew_
          (first | rw [← Ny105.out] at ho20 | (simp only [Int.reduceToNat] at ho20; rw [← Ny105.out] at ho20))
          replace HO_105001 := Aside0.mk (Kd.S_elder' (sk_ HO_105001) (Kd.R_base ho20) hb); have HO107 := Aside0.mk (Kd.R_lower ho20 (below_size (bl_ HB))); replace BK103 := Aside0.mk (blk_below (bk_ BK103) hb); replace BK104 := Aside0.mk (blk_below (bk_ BK104) hb); replace HB := Aside0.mk (below_step (bl_ HB) hb); clear hb ho20; obtain ⟨Ao22, co22, eo22⟩ := Kd.R_slice HO107.out
          (first | subst eo22 | (injection eo22 with f1_ f2_ f3_; have f4_ := f1_.symm; have f5_ := f3_.symm; clear f1_ f2_ f3_; subst f4_; subst f5_))
          refine hK.out _ _ ⟨(blk_cell BK104.out 0).trans rfl, (blk_cell BK104.out 1).trans rfl⟩ (fun hHeld => ?_); clear hK K; refine norm_ (a' := ?_) ?_ ?_; rotate_left
          ·show Act.put _ (some 32) _ = _
           simp only [Act.put, sa_, sb_, sc_, i64_w, i32_w]; rfl
          refine one_ (i := 4) (N := some 33) (mB 8 31) rfl rfl (one_of HT_.out (by kernel_rfl)) (by decide) (fun K hK => ?_); refine value_ (w1 := ?_) (v := ?_) (by rfl) rfl ?_ ?_; rotate_left 2
          ·go_simp
           constructor
           ·rfl
           ·rfl
          refine hK.out _ _ ⟨(blk_cell (blk_alloc BK104.out _) 0).trans rfl, (blk_cell (blk_alloc BK104.out _) 1).trans rfl⟩ (fun hHeld => ?_); clear hK K; refine norm_ (a' := ?_) ?_ ?_; rotate_left
          ·show Act.put _ (some 33) _ = _
           simp only [Act.put, sa_, sb_, sc_, i64_w, i32_w]; rfl
          refine one_ (i := 5) (N := some 34) (mB 8 63) rfl rfl (one_of HT_.out (by kernel_rfl)) (by decide) (fun K hK => ?_); refine Kd.S_append_step (Kd.slice 4 Kd.bool) (w0 := w) w.heap.size (by rfl) (.tmp 30) (.tmp 33) 23 33 (.slice none 0 0) 24 rfl Tryd.underlying23 info33 rfl (by decide) (by omega) u105001 x105001_2 y105 [.slice Ao22 y105.length co22] (fun _ => True) (fun k_ => some k_ = (.slice Ao22 y105.length co22 : Value).ownBlock) rfl rfl ?aP (fun k_ hk_ => ((Kd.R_mono (ok' := fun k_ => ((fun _ => True)) k_ ∧ some k_ ≠ (u105001 : Value).ownBlock) (Kd.R_apart' (HO107.out) (Kd.S_typed HO_105001.out) (by decide)) (fun k_ hk => ⟨trivial, hk.2⟩))).1 k_ hk_.symm) ?aF ?aO ?aB ?aS ?aL ?_; (case aP => exact Kd.M_row (Kd.R_mono (Kd.R_tight rfl (Kd.R_mono (ok' := fun k_ => ((fun _ => True)) k_ ∧ some k_ ≠ (u105001 : Value).ownBlock) (Kd.R_apart' (HO107.out) (Kd.S_typed HO_105001.out) (by decide)) (fun k_ hk => ⟨trivial, hk.2⟩))) (fun _ h_ => h_))); (case aB => exact (bl_ HB)); (case aF => exact (fun _ _ => trivial)); (case aO => exact (by (with_reducible repeat (first | apply Kd.S_alloc | apply Kd.S_drewN | apply Kd.S_drew)); exact Kd.S_mono HO_105001.out (fun k_ hk => ⟨trivial, fun e_ => hk.2 e_⟩))); (case aS => exact (below_size (bl_ HB))); (case aL => have := LMc17.out; omega); intro v109 w21 ho hb hg hat; rw [← Ny108.out] at ho
          replace BK103 := Aside0.mk (blk_grown (g := gb103) (o := .cells #[.int .u64 0, .slice none 0 0] 25 (0, 0)) (bk_ BK103) hg (Kd.S_ne HO_105001.out BK103.out (by decide))); replace BK104 := Aside0.mk (blk_grown (g := gb104) (o := .cells #[.int .u64 a0, u105001] 25 (0, 0)) (bk_ BK104) hg (Kd.S_ne HO_105001.out BK104.out (by decide))); replace HB := Aside0.mk (hb); have HO110 := Aside0.mk (ho); clear HO_105001 HO107; clear ho hb hg hat; obtain ⟨Ao23, co23, eo23⟩ := Kd.S_slice HO110.out
          (first | subst eo23 | (injection eo23 with f1_ f2_ f3_; have f4_ := f1_.symm; have f5_ := f3_.symm; clear f1_ f2_ f3_; subst f4_; subst f5_))
          refine hK.out _ _ ⟨(blk_cell BK104.out 0).trans rfl, (blk_cell BK104.out 1).trans rfl⟩ (fun hHeld => ?_); clear hK K; refine norm_ (a' := ?_) ?_ ?_; rotate_left
          ·show Act.put _ (some 34) _ = _
           simp only [Act.put, sa_, sb_, sc_, i64_w, i32_w]; rfl
          refine pw_ 6 35 (v := ?_) (a' := ?_) (mB 8 127) rfl rfl HT_ (by kernel_rfl) (fun _ _ _ h => h) ?_ ?_ ?_; rotate_left
          ·intro w'; go_simp; with_reducible rfl
          rotate_left
          ·simp only [Act.put, sa_, sb_, sc_, i64_w, i32_w]; rfl
          refine last_ (i := 7) (N := none) (mB 8 255) rfl rfl (one_of HT_.out (by kernel_rfl)) (by decide) (fun K hK => ?_); have hs24 : w21.cell? ⟨gb104, 1, none⟩ = some (u105001) := (blk_cell BK104.out 1).trans rfl; have hfs24 := blk_frozen BK104.out 1; have hns24_0 := NB103_104.out; have hms24_0 := NB104_103.out; refine skip_ (w1 := ?_) (by rfl) rfl ?_ ?_; rotate_left
          ·go_simp; rfl
          refine hK.out _ _ ?_; clear hK K; refine done_ (done_of HT_.out (by kernel_rfl)) ?_
          try go_wp2
          go_roundg k2
          case measure => have := HJ3.out; have := HK2.out; omega
          case rel => exact ⟨(wrap64 (x27_2 + 1)), (y108), (.slice Ao23 y108.length co23), (by first | rfl | (simp; done) | (simp [*]; done)), H', ⟨by have := HJ3.out; have := HK2.out; omega⟩, ⟨by (with_reducible repeat (first | apply Kd.S_alloc | apply Kd.S_drewN | apply Kd.S_drew)); exact Kd.S_mono (Kd.S_far (p := ⟨gb104, 1, none⟩) (Kd.S_types HO110.out BK104.out (by decide)) (fun _ hk => hk.2) (.slice Ao23 y108.length co23)) (fun _ hk => trivial)⟩, ⟨by (with_reducible repeat (first | refine blk_drewN ?_ _ | refine blk_drew ?_ | refine blk_alloc ?_ _)); refine blk_far ?_ NB103_104.out _; (with_reducible repeat (first | refine blk_drewN ?_ _ | refine blk_drew ?_ | refine blk_alloc ?_ _)); exact BK103.out⟩, ⟨by (with_reducible repeat (first | refine blk_drewN ?_ _ | refine blk_drew ?_ | refine blk_alloc ?_ _)); refine blk_put (cs := #[.int .u64 a0, u105001]) ?_ 1 _ rfl; (with_reducible repeat (first | refine blk_drewN ?_ _ | refine blk_drew ?_ | refine blk_alloc ?_ _)); exact BK104.out⟩, ⟨bl_ HB⟩⟩
         ·rw [if_neg c17] at H; exact absurd H (by simp)
        ·rw [if_neg c16] at H; exact absurd H (by simp)
       ·rw [if_neg c15] at H; exact absurd H (by simp)
      ·rw [if_neg c14] at H; have c14b0 : decide (x27_2 < a1) = false := decide_eq_false c14; clear c14; simp only [Option.some.injEq, Prod.mk.injEq] at H; obtain ⟨rfl, rfl, rfl⟩ := H; have hnb25 := NB104_103.out; have hnc25 := NB103_104.out; have hcz26_0 : wr.cell? ⟨gb104, 0, none⟩ = some (.int .u64 a0) := (blk_cell BK104.out 0).trans rfl; have hcz26_1 : wr.cell? ⟨gb104, 1, none⟩ = some (u105001) := (blk_cell BK104.out 1).trans rfl; have hfz26_0 := blk_frozen BK104.out 0; have hfz26_1 := blk_frozen BK104.out 1; have hcz27_0 : wr.cell? ⟨gb103, 0, none⟩ = some (.int .u64 0) := (blk_cell BK103.out 0).trans rfl; have hcz27_1 : wr.cell? ⟨gb103, 1, none⟩ = some (.slice none 0 0) := (blk_cell BK103.out 1).trans rfl; have hfz27_0 := blk_frozen BK103.out 0; have hfz27_1 := blk_frozen BK103.out 1; obtain ⟨Ao28, co28, eo28⟩ := Kd.S_slice HO_105001.out; subst eo28
       go_wp2
       refine bodyPost_ret (results_ct rfl _ _ gb103 25 #[.int .u64 a0, .slice Ao28 x105001_2.length co28] (0, 0) _ rfl (by (with_reducible repeat (first | refine blk_drewN ?_ _ | refine blk_drew ?_ | refine blk_alloc ?_ _)); refine blk_put (cs := #[.int .u64 a0, .slice none 0 0]) ?_ 1 _ rfl; (with_reducible repeat (first | refine blk_drewN ?_ _ | refine blk_drew ?_ | refine blk_alloc ?_ _)); refine blk_put (cs := #[.int .u64 0, .slice none 0 0]) ?_ 0 _ rfl; (with_reducible repeat (first | refine blk_drewN ?_ _ | refine blk_drew ?_ | refine blk_alloc ?_ _)); exact BK103.out) Tryd.underlying25 rfl (by kernel_rfl)) rfl ?_; exact ⟨_, by first | rfl | (simp [errW_none, errW_some] <;> rfl) | (simp [*, errW_none, errW_some] <;> rfl), by (with_reducible repeat (first | apply Kd.S_alloc | apply Kd.S_drewN | apply Kd.S_drew)); exact Kd.S_mono (Kd.S_far (p := ⟨gb103, 1, none⟩) (Kd.S_far (p := ⟨gb103, 0, none⟩) (Kd.S_types HO_105001.out BK103.out (by decide)) (fun _ hk => hk.2) (.int .u64 a0)) (fun _ hk => hk.2) (.slice Ao28 x105001_2.length co28)) (fun _ hk => trivial), bl_ HB⟩

-- NOT PRINTED: function 34 (slices_IndexFunc_bool_bool)

-- NOT PRINTED: function 24 (slices_ContainsFunc_bool_bool)

/-! ### bitmap_Right: function 13 -/
/-- a row as the first one: from 1 to 256 bits -/
def bitmap_Right.row (l : List (List Bool)) (r : List Bool) : Bool := decide (1 ≤ r.length) && (decide (r.length ≤ 256) && decide (r.length = (rd_L1 l 0).length))

def bitmap_Right.f (a0_0 : Int) (l0_1 : List (List Bool)) : Option (Bool) := some (decide (1 ≤ l0_1.length) && (decide (l0_1.length ≤ 16) && l0_1.all (bitmap_Right.row l0_1)))

/-- the literal's own walk -/
theorem bitmap_Right.lit (r : List Bool) (Ar : Option Addr) (cr : Nat) (B : Nat) (a0_0 : Int) (A : Option Addr) (c : Nat) (l : List (List Bool)) (W : World) (hbox : W.heap[B]? = some (.cells #[.int .u64 a0_0, .slice A l.length c] 25 (0, 0)))
    (hr : Kd.C (Kd.slice 4 Kd.bool) W A l.length l) (h0 : 0 < (l.length : Int)) :
    Calls Tryd.prog 25 #[.slice Ar r.length cr, .pointer (some ⟨B, 0, none⟩)] W fun e w' => e = .returned (.bool (!(bitmap_Right.row l r))) ∧ Below W.heap.size W w' := by
  have hu_ := Tryd.underlying25
  have HB := Aside0.mk (Below.refl W.heap.size W)
  obtain ⟨ad, A1, c1, e, hx, hl1, hi1⟩ := at_L1 hr 0 (Int.le_refl _) h0
  cases e
  rw [show ((0 : Int)).toNat = 0 from rfl, Addr.add_zero'] at hx
  have hc : W.cell? ⟨B, 1, none⟩ = some (.slice (some ad) l.length c) := (blk_cell hbox 1).trans rfl
  clear hr hbox hl1 hi1
  generalize hR : rd_L1 l 0 = q at *
  have d0 : decide (0 < (l.length : Int)) = true := decide_eq_true h0
  have d1 : decide (0 < l.length) = true := decide_eq_true (by omega)
  have p0 := eq_true h0
  have e_ : bitmap_Right.row l r = (decide (1 ≤ r.length) && (decide (r.length ≤ 256) && decide (r.length = q.length))) := by unfold bitmap_Right.row; rw [hR]
  rw [e_]
  clear e_ hR
  by_cases g0 : (r.length : Int) < 1
  · have b0 : decide ((r.length : Int) < 1) = true := decide_eq_true g0
    have b1 : decide (1 ≤ r.length) = false := decide_eq_false (by omega)
    rw [b1]
    clear b1
    go_enter Tryd.func25, Tryd.ntmps25
    go_wp2
    go_ret
    exact ⟨rfl, bl_ HB⟩
  · have b0 : decide ((r.length : Int) < 1) = false := decide_eq_false g0
    have b1 : decide (1 ≤ r.length) = true := decide_eq_true (by omega)
    rw [b1]
    clear b1
    by_cases g1 : (r.length : Int) > 256
    · have b2 : decide ((r.length : Int) > 256) = true := decide_eq_true g1
      have b3 : decide (r.length ≤ 256) = false := decide_eq_false (by omega)
      rw [b3]
      clear b3
      go_enter Tryd.func25, Tryd.ntmps25
      go_wp2
      go_ret
      exact ⟨rfl, bl_ HB⟩
    · have b2 : decide ((r.length : Int) > 256) = false := decide_eq_false g1
      have b3 : decide (r.length ≤ 256) = true := decide_eq_true (by omega)
      rw [b3]
      clear b3
      by_cases g2 : (r.length : Int) = (q.length : Int)
      · have b4 : ((r.length : Int) != (q.length : Int)) = false := bne_eq_false_iff_eq.mpr g2
        have b5 : decide (r.length = q.length) = true := decide_eq_true (by omega)
        have b6 : ((r.length : Int) == (q.length : Int)) = true := beq_iff_eq.mpr g2
        have b7 : (r.length == q.length) = true := by first | simpa using g2 | (simp at g2 ⊢; omega)
        rw [b5]
        clear g2 b5
        go_enter Tryd.func25, Tryd.ntmps25
        go_wp2
        go_ret
        exact ⟨rfl, bl_ HB⟩
      · have b4 : ((r.length : Int) != (q.length : Int)) = true := bne_iff_ne.mpr g2
        have b5 : decide (r.length = q.length) = false := decide_eq_false (by omega)
        have b6 : ((r.length : Int) == (q.length : Int)) = false := beq_eq_false_iff_ne.mpr g2
        have b7 : (r.length == q.length) = false := by first | simpa using g2 | (simp at g2 ⊢; omega)
        rw [b5]
        go_enter Tryd.func25, Tryd.ntmps25
        go_wp2
        go_ret
        exact ⟨rfl, bl_ HB⟩

def bitmap_Right.Tells (r : Bool) (w : World) (e : Ending) (w' : World) : Prop := ∃ n : Int, e = .returned (.int .i64 n) ∧ decide (0 ≤ n) = !r ∧ Below w.heap.size w w'

theorem bitmap_Right.drop_cons (l : List (List Bool)) (k : Nat) (h : k < l.length) : l.drop k = rd_L1 l (k : Int) :: l.drop (k + 1) := by
  rw [List.drop_eq_getElem_cons h]
  simp [rd_L1, List.getD_eq_getElem?_getD, h]

set_option maxHeartbeats 2000000 in
theorem bitmap_Right.index (B : Nat) (a0_0 : Int) (A : Option Addr) (c : Nat) (l : List (List Bool)) (w : World)
    (hbox : w.heap[B]? = some (.cells #[.int .u64 a0_0, .slice A l.length c] 25 (0, 0)))
    (hr : Kd.C (Kd.slice 4 Kd.bool) w A l.length l) (hlen : l.length ≤ 9223372036854775807) :
    Calls Tryd.prog 34 #[.slice A l.length c, .func (.func 25) #[] #[.pointer (some ⟨B, 0, none⟩)]] w (bitmap_Right.Tells (l.all (bitmap_Right.row l)) w) := by
  have HR := Aside0.mk hr
  have HX := Aside0.mk hbox
  clear hr hbox
  have e31_ : ∀ (args : Array Value) (w : World), (callFunc 25 args).run Tryd.prog w = .ok (.enter 25 args) w := fun args w => enters_ Tryd.func25 (by kernel_rfl) rfl args w
  go_enter Tryd.func34, Tryd.ntmps34
  go_wp2
  go_loopg [5, 8] l.length (fun gg _ s8 wr => ∃ kk : Nat, kk ≤ l.length ∧ l.length - kk ≤ gg ∧ s8 = .int .i64 kk ∧ Aside0 (Below w.heap.size w wr) ∧ Aside0 ((l.drop kk).all (bitmap_Right.row l) = l.all (bitmap_Right.row l)))
  case atStart => exact ⟨0, Nat.zero_le _, by omega, rfl, ⟨Below.refl _ w⟩, ⟨by rw [List.drop_zero]⟩⟩
  case round =>
    obtain ⟨kk, hkk, hg, rfl, BW, HA⟩ := hrel
    by_cases hlt : kk < l.length
    · have h2 := HA.out
      rw [bitmap_Right.drop_cons l kk hlt, List.all_cons] at h2
      have hltz : (kk : Int) < (l.length : Int) := by omega
      have hk0 : (0 : Int) ≤ (kk : Int) := by omega
      obtain ⟨ad, A1, c1, e, hx, hl1, hi1⟩ := at_L1 HR.out (kk : Int) hk0 hltz
      have hx' := (BW.out.cell (World.block_lt_of_cell? w _ hx)).trans hx
      clear hx hl1 hi1
      rw [Int.toNat_natCast] at hx'
      cases e
      have hcall := bitmap_Right.lit (rd_L1 l (kk : Int)) A1 c1 B a0_0 (some ad) c l wr (blk_below HX.out BW.out) (Kd.C_below HR.out BW.out) (by omega)
      obtain ⟨b, hb⟩ : ∃ b, b = bitmap_Right.row l (rd_L1 l (kk : Int)) := ⟨_, rfl⟩
      rw [← hb] at h2 hcall
      clear hb
      generalize rd_L1 l (kk : Int) = y at *
      cases b with
      | true =>
        rw [Bool.true_and] at h2
        have H2 := Aside0.mk h2
        clear h2
        go_wp2_with (go_at_fn 25; refine hcall.mono ?_; rintro e w' ⟨rfl, hb'⟩)
        go_roundg (l.length - (kk + 1))
        case measure => omega
        case rel => exact ⟨kk + 1, by omega, by omega, by go_num, ⟨BW.out.trans (hb'.mono BW.out.size)⟩, H2⟩
      | false =>
        rw [Bool.false_and] at h2
        rw [← h2]
        clear h2
        go_wp2_with (go_at_fn 25; refine hcall.mono ?_; rintro e w' ⟨rfl, hb'⟩)
        go_ret
        exact ⟨(kk : Int), rfl, decide_eq_true (by omega), BW.out.trans (hb'.mono BW.out.size)⟩
    · have hltz : ¬ (kk : Int) < (l.length : Int) := by omega
      have : kk = l.length := by omega
      subst this
      have h2 := HA.out
      rw [List.drop_length, List.all_nil] at h2
      have H2 := Aside0.mk h2
      clear h2
      go_wp2
      go_ret
      exact ⟨-1, rfl, by rw [← H2.out]; rfl, BW.out⟩

theorem bitmap_Right.contains (B : Nat) (a0_0 : Int) (A : Option Addr) (c : Nat) (l : List (List Bool)) (w : World)
    (hbox : w.heap[B]? = some (.cells #[.int .u64 a0_0, .slice A l.length c] 25 (0, 0)))
    (hr : Kd.C (Kd.slice 4 Kd.bool) w A l.length l) (hlen : l.length ≤ 9223372036854775807) :
    Calls Tryd.prog 24 #[.slice A l.length c, .func (.func 25) #[] #[.pointer (some ⟨B, 0, none⟩)]] w fun e w' => e = .returned (.bool (!(l.all (bitmap_Right.row l)))) ∧ Below w.heap.size w w' := by
  have hcall := bitmap_Right.index B a0_0 A c l w hbox hr hlen
  clear hbox hr
  have e40_ : ∀ (args : Array Value) (w : World), (callFunc 34 args).run Tryd.prog w = .ok (.enter 34 args) w := fun args w => enters_ Tryd.func34 (by kernel_rfl) rfl args w
  generalize l.all (bitmap_Right.row l) = r at *
  go_enter Tryd.func24, Tryd.ntmps24
  go_wp2_with (go_at_fn 34; refine hcall.mono ?_; rintro e w' ⟨n, rfl, hn, hb⟩; have HN := Aside0.mk hn; clear hn)
  go_ret
  rw [HN.out]
  exact ⟨rfl, hb⟩
set_option maxHeartbeats 80000000 in
set_option maxRecDepth 100000 in
theorem bitmap_Right.calls (a0_0 : Int) (A0_1 : Option Addr) (c0_1 : Nat) (l0_1 : List (List Bool)) (r : Bool) (w : World) (hr0_1 : Kd.C (Kd.slice 4 Kd.bool) w A0_1 l0_1.length l0_1) (hc0_1 : l0_1.length ≤ c0_1) (h : bitmap_Right.f a0_0 l0_1 = some r) :
    Calls Tryd.prog 13 #[.agg #[.int .u64 a0_0, .slice A0_1 l0_1.length c0_1]] w fun e w' => e = .returned (.bool r) ∧ Below w.heap.size w w' := by
 have hu_ := Tryd.underlying25; have HR := Aside0.mk hr0_1; have HC := Aside0.mk hc0_1; clear hr0_1 hc0_1
 unfold bitmap_Right.f at h
 obtain rfl := Option.some.inj h; clear h
 have e24_ : ∀ (args : Array Value) (w : World), (callFunc 24 args).run Tryd.prog w = .ok (.enter 24 args) w := fun args w => enters_ Tryd.func24 (by kernel_rfl) rfl args w
 by_cases g0 : (l0_1.length : Int) ≥ 1
 ·have b0 : decide ((l0_1.length : Int) ≥ 1) = true := decide_eq_true g0; have b1 : decide (1 ≤ l0_1.length) = true := decide_eq_true (by omega); rw [b1, Bool.true_and]
  by_cases g1 : (l0_1.length : Int) ≤ 16
  ·have b2 : decide ((l0_1.length : Int) ≤ 16) = true := decide_eq_true g1; have b3 : decide (l0_1.length ≤ 16) = true := decide_eq_true (by omega); rw [b3, Bool.true_and]
   have hlen : l0_1.length ≤ 9223372036854775807 := by omega
   go_enter Tryd.func13, Tryd.ntmps13
   go_wp2_with (first | ((with_reducible refine gate_dst (N := 1) rfl ?_); refine box_event ?hg (N := 1) ?hd (cs := #[.int .u64 a0_0, .slice A0_1 l0_1.length c0_1]) (t := 25) ?hr ?_; (case hd => rfl); (case hg => rfl); (case hr => first | (go_simp; done) | (go_simp; rfl)); intro gb hgb w2 hbox hb; have BK := Aside0.mk hbox; have HB := Aside0.mk hb; have hz1 : w2.cell? ⟨gb, 1, none⟩ = some (.slice A0_1 l0_1.length c0_1) := (blk_cell hbox 1).trans rfl; clear hbox hb hgb) | (go_at_fn 24; refine (bitmap_Right.contains gb a0_0 A0_1 c0_1 l0_1 _ (by first | exact BK.out | exact blk_drew BK.out) (by first | exact Kd.C_below HR.out HB.out | exact Kd.C_drew (Kd.C_below HR.out HB.out)) hlen).mono ?_; rintro e w3 ⟨rfl, hb3⟩; have HB3 := Aside0.mk (below_step (bl_ HB) hb3); clear hb3))
   go_ret; exact ⟨by first | rfl | simp, bl_ HB3⟩
  ·have b2 : decide ((l0_1.length : Int) ≤ 16) = false := decide_eq_false g1; have b3 : decide (l0_1.length ≤ 16) = false := decide_eq_false (by omega); rw [b3, Bool.false_and]
   go_enter Tryd.func13, Tryd.ntmps13
   go_wp2_with (first | ((with_reducible refine gate_dst (N := 1) rfl ?_); refine box_event ?hg (N := 1) ?hd (cs := #[.int .u64 a0_0, .slice A0_1 l0_1.length c0_1]) (t := 25) ?hr ?_; (case hd => rfl); (case hg => rfl); (case hr => first | (go_simp; done) | (go_simp; rfl)); intro gb hgb w2 hbox hb; have BK := Aside0.mk hbox; have HB := Aside0.mk hb; have hz1 : w2.cell? ⟨gb, 1, none⟩ = some (.slice A0_1 l0_1.length c0_1) := (blk_cell hbox 1).trans rfl; clear hbox hb hgb))
   go_ret; exact ⟨by first | rfl | simp, bl_ HB⟩
 ·have b0 : decide ((l0_1.length : Int) ≥ 1) = false := decide_eq_false g0; have b1 : decide (1 ≤ l0_1.length) = false := decide_eq_false (by omega); rw [b1, Bool.false_and]
  go_enter Tryd.func13, Tryd.ntmps13
  go_wp2_with (first | ((with_reducible refine gate_dst (N := 1) rfl ?_); refine box_event ?hg (N := 1) ?hd (cs := #[.int .u64 a0_0, .slice A0_1 l0_1.length c0_1]) (t := 25) ?hr ?_; (case hd => rfl); (case hg => rfl); (case hr => first | (go_simp; done) | (go_simp; rfl)); intro gb hgb w2 hbox hb; have BK := Aside0.mk hbox; have HB := Aside0.mk hb; have hz1 : w2.cell? ⟨gb, 1, none⟩ = some (.slice A0_1 l0_1.length c0_1) := (blk_cell hbox 1).trans rfl; clear hbox hb hgb))
  go_ret; exact ⟨by first | rfl | simp, bl_ HB⟩

/-! ### field_Of: function 44 -/
def field_Of.f (a0 : Int) : Option (Int) := if (IntKind.u64.wrap ((Go.bits .and .u64 a0 2305843009213693951) + (a0 / 2305843009213693952))) ≥ 2305843009213693951 then (some (IntKind.u64.wrap ((IntKind.u64.wrap ((Go.bits .and .u64 a0 2305843009213693951) + (a0 / 2305843009213693952))) - 2305843009213693951))) else (some (IntKind.u64.wrap ((Go.bits .and .u64 a0 2305843009213693951) + (a0 / 2305843009213693952))))
set_option maxHeartbeats 80000000 in
set_option maxRecDepth 100000 in
theorem field_Of.calls (a0 : Int) (r : Int) (w : World) (h : field_Of.f a0 = some r) :
    Calls Tryd.prog 44 #[.int .u64 a0] w fun e w' => e = .returned (.int .u64 r) ∧ Drawn0 w w' := by
 have H : (if (IntKind.u64.wrap ((Go.bits .and .u64 a0 2305843009213693951) + (a0 / 2305843009213693952))) ≥ 2305843009213693951 then (some (IntKind.u64.wrap ((IntKind.u64.wrap ((Go.bits .and .u64 a0 2305843009213693951) + (a0 / 2305843009213693952))) - 2305843009213693951))) else (some (IntKind.u64.wrap ((Go.bits .and .u64 a0 2305843009213693951) + (a0 / 2305843009213693952))))) = some r := h; clear h
 by_cases c2 : (IntKind.u64.wrap ((Go.bits .and .u64 a0 2305843009213693951) + (a0 / 2305843009213693952))) ≥ 2305843009213693951
 ·rw [if_pos c2] at H; have c2b0 : decide (2305843009213693951 ≤ (IntKind.u64.wrap ((Go.bits .and .u64 a0 2305843009213693951) + (a0 / 2305843009213693952)))) = true := decide_eq_true c2; clear c2; obtain rfl := Option.some.inj H
  go_enter Tryd.func44, Tryd.ntmps44
  go_wp2
  go_ret; exact ⟨by first | rfl | (simp; done) | (simp [*]; done), by repeat (first | exact Drawn0.refl _ | apply Drawn0.step)⟩
 ·rw [if_neg c2] at H; have c2b0 : decide (2305843009213693951 ≤ (IntKind.u64.wrap ((Go.bits .and .u64 a0 2305843009213693951) + (a0 / 2305843009213693952)))) = false := decide_eq_false c2; clear c2; obtain rfl := Option.some.inj H
  go_enter Tryd.func44, Tryd.ntmps44
  go_wp2
  go_ret; exact ⟨by first | rfl | (simp; done) | (simp [*]; done), by repeat (first | exact Drawn0.refl _ | apply Drawn0.step)⟩

/-! ### field_Add: function 37 -/
def field_Add.f (a0 : Int) (a1 : Int) : Option (Int) := (field_Of.f a0).bind fun t112 => ((field_Of.f a1).bind fun t113 => ((field_Of.f (IntKind.u64.wrap (t112 + t113))).bind fun t114 => (some t114)))
set_option maxHeartbeats 80000000 in
set_option maxRecDepth 100000 in
theorem field_Add.calls (a0 : Int) (a1 : Int) (r : Int) (w : World) (h : field_Add.f a0 a1 = some r) :
    Calls Tryd.prog 37 #[.int .u64 a0, .int .u64 a1] w fun e w' => e = .returned (.int .u64 r) ∧ Drawn0 w w' := by
 have H : ((field_Of.f a0).bind fun t112 => ((field_Of.f a1).bind fun t113 => ((field_Of.f (IntKind.u64.wrap (t112 + t113))).bind fun t114 => (some t114)))) = some r := h; clear h; replace H := Option.bind_eq_some_iff.mp H; obtain ⟨t112, A30, H⟩ := H; replace H : ((field_Of.f a1).bind fun t113 => ((field_Of.f (IntKind.u64.wrap (t112 + t113))).bind fun t114 => (some t114))) = some r := H; have A3 := Aside0.mk A30; clear A30; replace H := Option.bind_eq_some_iff.mp H; obtain ⟨t113, A40, H⟩ := H; replace H : ((field_Of.f (IntKind.u64.wrap (t112 + t113))).bind fun t114 => (some t114)) = some r := H; have A4 := Aside0.mk A40; clear A40; replace H := Option.bind_eq_some_iff.mp H; obtain ⟨t114, A50, H⟩ := H; replace H : (some t114) = some r := H; have A5 := Aside0.mk A50; clear A50; obtain rfl := Option.some.inj H
 go_enter Tryd.func37, Tryd.ntmps37
 go_wp2_with (first | ((with_reducible refine gate_callee (f := 44) rfl ?_); refine goesL_ (some 6) rfl rfl Tryd.func44 (by kernel_rfl) rfl #[.int .u64 a0] rfl (by (try simp only [List.map_toArray, List.map_cons, List.map_nil]); first | done | rfl | (simp only [List.length_drop, List.length_take]; rfl)) ?_; (with_reducible refine (field_Of.calls a0 t112 _ A3.out).mono ?_); rintro e w' ⟨rfl, ⟨nd, rfl⟩⟩; refine ⟨_, rfl, ?_⟩) | ((with_reducible refine gate_callee (f := 44) rfl ?_); refine goesL_ (some 8) rfl rfl Tryd.func44 (by kernel_rfl) rfl #[.int .u64 a1] rfl (by (try simp only [List.map_toArray, List.map_cons, List.map_nil]); first | done | rfl | (simp only [List.length_drop, List.length_take]; rfl)) ?_; (with_reducible refine (field_Of.calls a1 t113 _ A4.out).mono ?_); rintro e w' ⟨rfl, ⟨nd, rfl⟩⟩; refine ⟨_, rfl, ?_⟩) | ((with_reducible refine gate_callee (f := 44) rfl ?_); refine goesL_ (some 10) rfl rfl Tryd.func44 (by kernel_rfl) rfl #[.int .u64 (IntKind.u64.wrap (t112 + t113))] rfl (by (try simp only [List.map_toArray, List.map_cons, List.map_nil]); first | done | rfl | (simp only [List.length_drop, List.length_take]; rfl)) ?_; (with_reducible refine (field_Of.calls (IntKind.u64.wrap (t112 + t113)) t114 _ A5.out).mono ?_); rintro e w' ⟨rfl, ⟨nd, rfl⟩⟩; refine ⟨_, rfl, ?_⟩))
 go_ret; exact ⟨by first | rfl | (simp; done) | (simp [*]; done), by repeat (first | exact Drawn0.refl _ | apply Drawn0.step)⟩

/-! ### bits_Mul64: function 45 -/
def bits_Mul64.f (a0 : Int) (a1 : Int) : Option (Int × Int) := some (IntKind.u64.wrap ((IntKind.u64.wrap ((IntKind.u64.wrap ((a0 / 4294967296) * (a1 / 4294967296))) + ((IntKind.u64.wrap ((IntKind.u64.wrap ((a0 / 4294967296) * (Go.bits .and .u64 a1 4294967295))) + ((IntKind.u64.wrap ((Go.bits .and .u64 a0 4294967295) * (Go.bits .and .u64 a1 4294967295))) / 4294967296))) / 4294967296))) + ((IntKind.u64.wrap ((Go.bits .and .u64 (IntKind.u64.wrap ((IntKind.u64.wrap ((a0 / 4294967296) * (Go.bits .and .u64 a1 4294967295))) + ((IntKind.u64.wrap ((Go.bits .and .u64 a0 4294967295) * (Go.bits .and .u64 a1 4294967295))) / 4294967296))) 4294967295) + (IntKind.u64.wrap ((Go.bits .and .u64 a0 4294967295) * (a1 / 4294967296))))) / 4294967296)), IntKind.u64.wrap (a0 * a1))
set_option maxHeartbeats 80000000 in
set_option maxRecDepth 100000 in
theorem bits_Mul64.calls (a0 : Int) (a1 : Int) (r1 : Int) (r2 : Int) (w : World) (h : bits_Mul64.f a0 a1 = some (r1, r2)) :
    Calls Tryd.prog 45 #[.int .u64 a0, .int .u64 a1] w fun e w' => e = .returned (.tuple #[.int .u64 r1, .int .u64 r2]) ∧ Drawn0 w w' := by
 have H : (some (IntKind.u64.wrap ((IntKind.u64.wrap ((IntKind.u64.wrap ((a0 / 4294967296) * (a1 / 4294967296))) + ((IntKind.u64.wrap ((IntKind.u64.wrap ((a0 / 4294967296) * (Go.bits .and .u64 a1 4294967295))) + ((IntKind.u64.wrap ((Go.bits .and .u64 a0 4294967295) * (Go.bits .and .u64 a1 4294967295))) / 4294967296))) / 4294967296))) + ((IntKind.u64.wrap ((Go.bits .and .u64 (IntKind.u64.wrap ((IntKind.u64.wrap ((a0 / 4294967296) * (Go.bits .and .u64 a1 4294967295))) + ((IntKind.u64.wrap ((Go.bits .and .u64 a0 4294967295) * (Go.bits .and .u64 a1 4294967295))) / 4294967296))) 4294967295) + (IntKind.u64.wrap ((Go.bits .and .u64 a0 4294967295) * (a1 / 4294967296))))) / 4294967296)), IntKind.u64.wrap (a0 * a1))) = some (r1, r2) := h; clear h; simp only [Option.some.injEq, Prod.mk.injEq] at H; obtain ⟨rfl, rfl⟩ := H
 go_enter Tryd.func45, Tryd.ntmps45
 go_wp2
 go_ret2
 exact ⟨by first | rfl | (simp; done) | (simp [*]; done), by repeat (first | exact Drawn0.refl _ | apply Drawn0.step)⟩

/-! ### field_Mul: function 38 -/
def field_Mul.f (a0 : Int) (a1 : Int) : Option (Int) := (field_Of.f a0).bind fun t115 => ((field_Of.f a1).bind fun t116 => ((bits_Mul64.f t115 t116).bind fun bt117 => ((field_Of.f (IntKind.u64.wrap ((Go.bits .and .u64 bt117.2 2305843009213693951) + (Go.bits .or .u64 (bt117.2 / 2305843009213693952) (IntKind.u64.wrap (bt117.1 * 8)))))).bind fun t119 => (some t119))))
set_option maxHeartbeats 80000000 in
set_option maxRecDepth 100000 in
theorem field_Mul.calls (a0 : Int) (a1 : Int) (r : Int) (w : World) (h : field_Mul.f a0 a1 = some r) :
    Calls Tryd.prog 38 #[.int .u64 a0, .int .u64 a1] w fun e w' => e = .returned (.int .u64 r) ∧ Drawn0 w w' := by
 have H : ((field_Of.f a0).bind fun t115 => ((field_Of.f a1).bind fun t116 => ((bits_Mul64.f t115 t116).bind fun bt117 => ((field_Of.f (IntKind.u64.wrap ((Go.bits .and .u64 bt117.2 2305843009213693951) + (Go.bits .or .u64 (bt117.2 / 2305843009213693952) (IntKind.u64.wrap (bt117.1 * 8)))))).bind fun t119 => (some t119))))) = some r := h; clear h; replace H := Option.bind_eq_some_iff.mp H; obtain ⟨t115, A30, H⟩ := H; replace H : ((field_Of.f a1).bind fun t116 => ((bits_Mul64.f t115 t116).bind fun bt117 => ((field_Of.f (IntKind.u64.wrap ((Go.bits .and .u64 bt117.2 2305843009213693951) + (Go.bits .or .u64 (bt117.2 / 2305843009213693952) (IntKind.u64.wrap (bt117.1 * 8)))))).bind fun t119 => (some t119)))) = some r := H; have A3 := Aside0.mk A30; clear A30; replace H := Option.bind_eq_some_iff.mp H; obtain ⟨t116, A40, H⟩ := H; replace H : ((bits_Mul64.f t115 t116).bind fun bt117 => ((field_Of.f (IntKind.u64.wrap ((Go.bits .and .u64 bt117.2 2305843009213693951) + (Go.bits .or .u64 (bt117.2 / 2305843009213693952) (IntKind.u64.wrap (bt117.1 * 8)))))).bind fun t119 => (some t119))) = some r := H; have A4 := Aside0.mk A40; clear A40; replace H := Option.bind_eq_some_iff.mp H; obtain ⟨⟨t117, t118⟩, A50, H⟩ := H; replace H : ((field_Of.f (IntKind.u64.wrap ((Go.bits .and .u64 t118 2305843009213693951) + (Go.bits .or .u64 (t118 / 2305843009213693952) (IntKind.u64.wrap (t117 * 8)))))).bind fun t119 => (some t119)) = some r := H; have A5 := Aside0.mk A50; clear A50
 replace H := Option.bind_eq_some_iff.mp H; obtain ⟨t119, A60, H⟩ := H; replace H : (some t119) = some r := H; have A6 := Aside0.mk A60; clear A60; obtain rfl := Option.some.inj H
 go_enter Tryd.func38, Tryd.ntmps38
 go_wp2_with (first | ((with_reducible refine gate_callee (f := 44) rfl ?_); refine goesL_ (some 9) rfl rfl Tryd.func44 (by kernel_rfl) rfl #[.int .u64 a0] rfl (by (try simp only [List.map_toArray, List.map_cons, List.map_nil]); first | done | rfl | (simp only [List.length_drop, List.length_take]; rfl)) ?_; (with_reducible refine (field_Of.calls a0 t115 _ A3.out).mono ?_); rintro e w' ⟨rfl, ⟨nd, rfl⟩⟩; refine ⟨_, rfl, ?_⟩) | ((with_reducible refine gate_callee (f := 44) rfl ?_); refine goesL_ (some 11) rfl rfl Tryd.func44 (by kernel_rfl) rfl #[.int .u64 a1] rfl (by (try simp only [List.map_toArray, List.map_cons, List.map_nil]); first | done | rfl | (simp only [List.length_drop, List.length_take]; rfl)) ?_; (with_reducible refine (field_Of.calls a1 t116 _ A4.out).mono ?_); rintro e w' ⟨rfl, ⟨nd, rfl⟩⟩; refine ⟨_, rfl, ?_⟩) | ((with_reducible refine gate_callee (f := 45) rfl ?_); refine goesL_ (some 12) rfl rfl Tryd.func45 (by kernel_rfl) rfl #[.int .u64 t115, .int .u64 t116] rfl (by (try simp only [List.map_toArray, List.map_cons, List.map_nil]); first | done | rfl | (simp only [List.length_drop, List.length_take]; rfl)) ?_; (with_reducible refine (bits_Mul64.calls t115 t116 t117 t118 _ A5.out).mono ?_); rintro e w' ⟨rfl, ⟨nd, rfl⟩⟩; refine ⟨_, rfl, ?_⟩) | ((with_reducible refine gate_callee (f := 44) rfl ?_); refine goesL_ (some 23) rfl rfl Tryd.func44 (by kernel_rfl) rfl #[.int .u64 (IntKind.u64.wrap ((Go.bits .and .u64 t118 2305843009213693951) + (Go.bits .or .u64 (t118 / 2305843009213693952) (IntKind.u64.wrap (t117 * 8)))))] rfl (by (try simp only [List.map_toArray, List.map_cons, List.map_nil]); first | done | rfl | (simp only [List.length_drop, List.length_take]; rfl)) ?_; (with_reducible refine (field_Of.calls (IntKind.u64.wrap ((Go.bits .and .u64 t118 2305843009213693951) + (Go.bits .or .u64 (t118 / 2305843009213693952) (IntKind.u64.wrap (t117 * 8))))) t119 _ A6.out).mono ?_); rintro e w' ⟨rfl, ⟨nd, rfl⟩⟩; refine ⟨_, rfl, ?_⟩))
 go_ret; exact ⟨by first | rfl | (simp; done) | (simp [*]; done), by repeat (first | exact Drawn0.refl _ | apply Drawn0.step)⟩

/-! ### field_Pow: function 43 -/
def field_Pow.l0 : Nat → Int → Int → Int → Option (Int)
  | 0, _, _, _ => none
  | k + 1, x0, x1, x5 => if x1 > 0 then (if (Go.bits .and .u64 x1 1) = 1 then ((field_Mul.f x5 x0).bind fun t121 => ((field_Mul.f x0 x0).bind fun t122 => (field_Pow.l0 k t122 (x1 / 2) t121))) else ((field_Mul.f x0 x0).bind fun t123 => (field_Pow.l0 k t123 (x1 / 2) x5))) else (some x5)
def field_Pow.f (k : Nat) (a0 : Int) (a1 : Int) : Option (Int) := (field_Of.f a0).bind fun t120 => (field_Pow.l0 k t120 a1 1)
theorem field_Pow.mono_l : ∀ k, (∀ y0 y1 y2, LeO (field_Pow.l0 k y0 y1 y2) (field_Pow.l0 (k + 1) y0 y1 y2))
  | 0 => fun _ _ _ r h => by simp [field_Pow.l0] at h
  | k + 1 => by
    have ih0 := field_Pow.mono_l k
    · intro y0 y1 y2
      unfold field_Pow.l0
      repeat' first
      | (with_reducible exact ih0 _ _ _)
      | (with_reducible exact LeO.refl _)
      | (with_reducible exact LeO.none _)
      | (with_reducible refine LeO.ite ?_ ?_)
      | (with_reducible refine LeO.bind ?_ (fun _ => ?_))
      | exact ih0 _ _ _
      | exact LeO.none _
      | refine LeO.ite ?_ ?_
      | refine LeO.bind ?_ (fun _ => ?_)
theorem field_Pow.mono : ∀ a0 a1 k, LeO (field_Pow.f k a0 a1) (field_Pow.f (k + 1) a0 a1) := by
  intro a0 a1 k
  have ih0 := field_Pow.mono_l k
  unfold field_Pow.f
  repeat' first
      | (with_reducible exact ih0 _ _ _)
      | (with_reducible exact LeO.refl _)
      | (with_reducible exact LeO.none _)
      | (with_reducible refine LeO.ite ?_ ?_)
      | (with_reducible refine LeO.bind ?_ (fun _ => ?_))
      | exact ih0 _ _ _
      | exact LeO.none _
      | refine LeO.ite ?_ ?_
      | refine LeO.bind ?_ (fun _ => ?_)
set_option maxHeartbeats 80000000 in
set_option maxRecDepth 100000 in
theorem field_Pow.calls (k : Nat) (a0 : Int) (a1 : Int) (r : Int) (w : World) (h : field_Pow.f k a0 a1 = some r) :
    Calls Tryd.prog 43 #[.int .u64 a0, .int .u64 a1] w fun e w' => e = .returned (.int .u64 r) ∧ Drawn0 w w' := by
 have H : ((field_Of.f a0).bind fun t120 => (field_Pow.l0 k t120 a1 1)) = some r := h; clear h; replace H := Option.bind_eq_some_iff.mp H; obtain ⟨t120, A30, H⟩ := H; replace H : (field_Pow.l0 k t120 a1 1) = some r := H; have A3 := Aside0.mk A30; clear A30; have H' := Aside0.mk H; clear H
 go_enter Tryd.func43, Tryd.ntmps43
 go_wp2_with (first | ((with_reducible refine gate_callee (f := 44) rfl ?_); refine goesL_ (some 7) rfl rfl Tryd.func44 (by kernel_rfl) rfl #[.int .u64 a0] rfl (by (try simp only [List.map_toArray, List.map_cons, List.map_nil]); first | done | rfl | (simp only [List.length_drop, List.length_take]; rfl)) ?_; (with_reducible refine (field_Of.calls a0 t120 _ A3.out).mono ?_); rintro e w' ⟨rfl, ⟨nd, rfl⟩⟩; refine ⟨_, rfl, ?_⟩))
 go_loopg [0, 1, 5] k (fun kq v0 v1 v5 w' => ∃ (x0_1 : Int) (x1_1 : Int) (x5_1 : Int), v0 = .int .u64 x0_1 ∧ v1 = .int .u64 x1_1 ∧ v5 = .int .u64 x5_1 ∧ Aside0 (field_Pow.l0 kq x0_1 x1_1 x5_1 = some r) ∧ Aside0 (kq ≤ k) ∧ Drawn0 w w')
 case atStart => exact ⟨(t120), (a1), (1), (by first | rfl | (simp; done) | (simp [*]; done)), (by first | rfl | (simp; done) | (simp [*]; done)), (by first | rfl | (simp; done) | (simp [*]; done)), H', ⟨Nat.le_refl _⟩, by repeat (first | exact Drawn0.refl _ | apply Drawn0.step)⟩
 case round =>
  clear H'; (try clear p2); obtain ⟨x0_1, x1_1, x5_1, rfl, rfl, rfl, HA, HK1, ⟨m1, rfl⟩⟩ := hrel
  cases gk with
  | zero => exact absurd HA.out (by simp [field_Pow.l0])
  | succ k1 =>
   have H := HA.out; clear HA; simp only [field_Pow.l0] at H
   by_cases c4 : x1_1 > 0
   ·rw [if_pos c4] at H; have c4b0 : decide (0 < x1_1) = true := decide_eq_true c4; clear c4
    by_cases c5 : (Go.bits .and .u64 x1_1 1) = 1
    ·rw [if_pos c5] at H; have c5b0 : ((Go.bits .and .u64 x1_1 1) == 1) = true := beq_iff_eq.mpr c5; have c5b1 : ((Go.bits .and .u64 x1_1 1) != 1) = false := bne_eq_false_iff_eq.mpr c5; clear c5; replace H := Option.bind_eq_some_iff.mp H; obtain ⟨t121, A60, H⟩ := H; replace H : ((field_Mul.f x0_1 x0_1).bind fun t122 => (field_Pow.l0 k1 t122 (x1_1 / 2) t121)) = some r := H; have A6 := Aside0.mk A60; clear A60; replace H := Option.bind_eq_some_iff.mp H; obtain ⟨t122, A70, H⟩ := H; replace H : (field_Pow.l0 k1 t122 (x1_1 / 2) t121) = some r := H; have A7 := Aside0.mk A70; clear A70; have H' := Aside0.mk H; clear H
     go_wp2_with (first | ((with_reducible refine gate_callee (f := 38) rfl ?_); refine goesL_ (some 17) rfl rfl Tryd.func38 (by kernel_rfl) rfl #[.int .u64 x5_1, .int .u64 x0_1] rfl (by (try simp only [List.map_toArray, List.map_cons, List.map_nil]); first | done | rfl | (simp only [List.length_drop, List.length_take]; rfl)) ?_; (with_reducible refine (field_Mul.calls x5_1 x0_1 t121 _ A6.out).mono ?_); rintro e w' ⟨rfl, ⟨nd, rfl⟩⟩; refine ⟨_, rfl, ?_⟩) | ((with_reducible refine gate_callee (f := 38) rfl ?_); refine goesL_ (some 20) rfl rfl Tryd.func38 (by kernel_rfl) rfl #[.int .u64 x0_1, .int .u64 x0_1] rfl (by (try simp only [List.map_toArray, List.map_cons, List.map_nil]); first | done | rfl | (simp only [List.length_drop, List.length_take]; rfl)) ?_; (with_reducible refine (field_Mul.calls x0_1 x0_1 t122 _ A7.out).mono ?_); rintro e w' ⟨rfl, ⟨nd, rfl⟩⟩; refine ⟨_, rfl, ?_⟩))
     go_roundg k1
     case measure => have := HK1.out; omega
     case rel => exact ⟨(t122), (x1_1 / 2), (t121), (by first | rfl | (simp; done) | (simp [*]; done)), (by first | rfl | (simp; done) | (simp [*]; done)), (by first | rfl | (simp; done) | (simp [*]; done)), H', ⟨by have := HK1.out; omega⟩, by repeat (first | exact Drawn0.refl _ | apply Drawn0.step)⟩
    ·rw [if_neg c5] at H; have c5b0 : ((Go.bits .and .u64 x1_1 1) == 1) = false := beq_eq_false_iff_ne.mpr c5; have c5b1 : ((Go.bits .and .u64 x1_1 1) != 1) = true := bne_iff_ne.mpr c5; replace H := Option.bind_eq_some_iff.mp H; obtain ⟨t123, A80, H⟩ := H; replace H : (field_Pow.l0 k1 t123 (x1_1 / 2) x5_1) = some r := H; have A8 := Aside0.mk A80; clear A80; have H' := Aside0.mk H; clear H
     go_wp2_with (first | ((with_reducible refine gate_callee (f := 38) rfl ?_); refine goesL_ (some 20) rfl rfl Tryd.func38 (by kernel_rfl) rfl #[.int .u64 x0_1, .int .u64 x0_1] rfl (by (try simp only [List.map_toArray, List.map_cons, List.map_nil]); first | done | rfl | (simp only [List.length_drop, List.length_take]; rfl)) ?_; (with_reducible refine (field_Mul.calls x0_1 x0_1 t123 _ A8.out).mono ?_); rintro e w' ⟨rfl, ⟨nd, rfl⟩⟩; refine ⟨_, rfl, ?_⟩))
     go_roundg k1
     case measure => have := HK1.out; omega
     case rel => exact ⟨(t123), (x1_1 / 2), (x5_1), (by first | rfl | (simp; done) | (simp [*]; done)), (by first | rfl | (simp; done) | (simp [*]; done)), (by first | rfl | (simp; done) | (simp [*]; done)), H', ⟨by have := HK1.out; omega⟩, by repeat (first | exact Drawn0.refl _ | apply Drawn0.step)⟩
   ·rw [if_neg c4] at H; have c4b0 : decide (0 < x1_1) = false := decide_eq_false c4; clear c4; obtain rfl := Option.some.inj H
    go_wp2
    go_ret; exact ⟨by first | rfl | (simp; done) | (simp [*]; done), by repeat (first | exact Drawn0.refl _ | apply Drawn0.step)⟩

/-! ### hash_Sum: function 35 -/
mutual
def hash_Sum.l0 : Nat → ByteArray → Int → Int → Int → Option (Int)
  | 0, _, _, _, _ => none
  | k + 1, x1, x5, x6, x7 => if x7 < (x1.size : Int) then (hash_Sum.l1 k x1 x5 x6 x7 0 0) else ((field_Mul.f x6 x5).bind fun t125 => ((field_Pow.f k t125 17).bind fun t126 => (some t126)))
def hash_Sum.l1 : Nat → ByteArray → Int → Int → Int → Int → Int → Option (Int)
  | 0, _, _, _, _, _, _ => none
  | k + 1, x1, x5, x6, x7, x8, x21 => if x21 < 4 then (if (wrap64 (x7 + x21)) < (x1.size : Int) then (if 0 ≤ (wrap64 (x7 + x21)) then (hash_Sum.l1 k x1 x5 x6 x7 (Go.bits .or .u64 (IntKind.u64.wrap (x8 * 256)) (IntKind.u64.wrap (bt x1 (wrap64 (x7 + x21))))) (wrap64 (x21 + 1))) else (none)) else (hash_Sum.l1 k x1 x5 x6 x7 (IntKind.u64.wrap (x8 * 256)) (wrap64 (x21 + 1)))) else ((field_Mul.f x6 x5).bind fun t127 => ((field_Add.f t127 (IntKind.u64.wrap (x8 + 1))).bind fun t128 => (hash_Sum.l0 k x1 x5 t128 (wrap64 (x7 + 4)))))
end
def hash_Sum.f (k : Nat) (a0 : Int) (a1 : ByteArray) : Option (Int) := (field_Add.f a0 2).bind fun t124 => (hash_Sum.l0 k a1 t124 (IntKind.u64.wrap ((a1.size : Int))) 0)
theorem hash_Sum.mono_l : ∀ k, (∀ y0 y1 y2 y3, LeO (hash_Sum.l0 k y0 y1 y2 y3) (hash_Sum.l0 (k + 1) y0 y1 y2 y3)) ∧ (∀ y0 y1 y2 y3 y4 y5, LeO (hash_Sum.l1 k y0 y1 y2 y3 y4 y5) (hash_Sum.l1 (k + 1) y0 y1 y2 y3 y4 y5))
  | 0 => ⟨fun _ _ _ _ r h => by simp [hash_Sum.l0] at h, fun _ _ _ _ _ _ r h => by simp [hash_Sum.l1] at h⟩
  | k + 1 => by
    obtain ⟨ih0, ih1⟩ := hash_Sum.mono_l k
    refine ⟨?_, ?_⟩
    · intro y0 y1 y2 y3
      unfold hash_Sum.l0
      repeat' first
      | (with_reducible exact ih0 _ _ _ _)
      | (with_reducible exact ih1 _ _ _ _ _ _)
      | (with_reducible exact field_Pow.mono _ _ _)
      | (with_reducible exact LeO.refl _)
      | (with_reducible exact LeO.none _)
      | (with_reducible refine LeO.ite ?_ ?_)
      | (with_reducible refine LeO.bind ?_ (fun _ => ?_))
      | exact ih0 _ _ _ _
      | exact ih1 _ _ _ _ _ _
      | exact field_Pow.mono _ _ _
      | exact LeO.none _
      | refine LeO.ite ?_ ?_
      | refine LeO.bind ?_ (fun _ => ?_)
    · intro y0 y1 y2 y3 y4 y5
      unfold hash_Sum.l1
      repeat' first
      | (with_reducible exact ih0 _ _ _ _)
      | (with_reducible exact ih1 _ _ _ _ _ _)
      | (with_reducible exact field_Pow.mono _ _ _)
      | (with_reducible exact LeO.refl _)
      | (with_reducible exact LeO.none _)
      | (with_reducible refine LeO.ite ?_ ?_)
      | (with_reducible refine LeO.bind ?_ (fun _ => ?_))
      | exact ih0 _ _ _ _
      | exact ih1 _ _ _ _ _ _
      | exact field_Pow.mono _ _ _
      | exact LeO.none _
      | refine LeO.ite ?_ ?_
      | refine LeO.bind ?_ (fun _ => ?_)
theorem hash_Sum.mono : ∀ a0 a1 k, LeO (hash_Sum.f k a0 a1) (hash_Sum.f (k + 1) a0 a1) := by
  intro a0 a1 k
  obtain ⟨ih0, ih1⟩ := hash_Sum.mono_l k
  unfold hash_Sum.f
  repeat' first
      | (with_reducible exact ih0 _ _ _ _)
      | (with_reducible exact ih1 _ _ _ _ _ _)
      | (with_reducible exact field_Pow.mono _ _ _)
      | (with_reducible exact LeO.refl _)
      | (with_reducible exact LeO.none _)
      | (with_reducible refine LeO.ite ?_ ?_)
      | (with_reducible refine LeO.bind ?_ (fun _ => ?_))
      | exact ih0 _ _ _ _
      | exact ih1 _ _ _ _ _ _
      | exact field_Pow.mono _ _ _
      | exact LeO.none _
      | refine LeO.ite ?_ ?_
      | refine LeO.bind ?_ (fun _ => ?_)
set_option maxHeartbeats 80000000 in
set_option maxRecDepth 100000 in
theorem hash_Sum.calls (k : Nat) (a0 : Int) (a1 : ByteArray) (r : Int) (w : World) (h : hash_Sum.f k a0 a1 = some r) :
    Calls Tryd.prog 35 #[.int .u64 a0, .string a1] w fun e w' => e = .returned (.int .u64 r) ∧ Drawn0 w w' := by
 have H : ((field_Add.f a0 2).bind fun t124 => (hash_Sum.l0 k a1 t124 (IntKind.u64.wrap ((a1.size : Int))) 0)) = some r := h; clear h; replace H := Option.bind_eq_some_iff.mp H; obtain ⟨t124, A30, H⟩ := H; replace H : (hash_Sum.l0 k a1 t124 (IntKind.u64.wrap ((a1.size : Int))) 0) = some r := H; have A3 := Aside0.mk A30; clear A30; have H' := Aside0.mk H; clear H
 go_enter Tryd.func35, Tryd.ntmps35
 go_wp2_with (first | ((with_reducible refine gate_callee (f := 37) rfl ?_); refine goesL_ (some 11) rfl rfl Tryd.func37 (by kernel_rfl) rfl #[.int .u64 a0, .int .u64 2] rfl (by (try simp only [List.map_toArray, List.map_cons, List.map_nil]); first | done | rfl | (simp only [List.length_drop, List.length_take]; rfl)) ?_; (with_reducible refine (field_Add.calls a0 2 t124 _ A3.out).mono ?_); rintro e w' ⟨rfl, ⟨nd, rfl⟩⟩; refine ⟨_, rfl, ?_⟩))
 go_loopg [6, 7] k (fun kq v6 v7 w' => ∃ (x6_1 : Int) (x7_1 : Int), v6 = .int .u64 x6_1 ∧ v7 = .int .i64 x7_1 ∧ Aside0 (hash_Sum.l0 kq a1 t124 x6_1 x7_1 = some r) ∧ Aside0 (kq ≤ k) ∧ Drawn0 w w')
 case atStart => exact ⟨(IntKind.u64.wrap ((a1.size : Int))), (0), (by first | rfl | (simp; done) | (simp [*]; done)), (by first | rfl | (simp; done) | (simp [*]; done)), H', ⟨Nat.le_refl _⟩, by repeat (first | exact Drawn0.refl _ | apply Drawn0.step)⟩
 case round =>
  clear H'; (try clear p2); (try clear c3); obtain ⟨x6_1, x7_1, rfl, rfl, HA, HK1, ⟨m1, rfl⟩⟩ := hrel
  cases gk with
  | zero => exact absurd HA.out (by simp [hash_Sum.l0])
  | succ k1 =>
   have H := HA.out; clear HA; simp only [hash_Sum.l0] at H
   by_cases c4 : x7_1 < (a1.size : Int)
   ·rw [if_pos c4] at H; have c4b0 : decide (x7_1 < (a1.size : Int)) = true := decide_eq_true c4; clear c4; have H' := Aside0.mk H; clear H
    go_wp2
    go_loopg [8, 21] k1 (fun kq v8 v21 w' => ∃ (x8_2 : Int) (x21_2 : Int), v8 = .int .u64 x8_2 ∧ v21 = .int .i64 x21_2 ∧ Aside0 (hash_Sum.l1 kq a1 t124 x6_1 x7_1 x8_2 x21_2 = some r) ∧ Aside0 (kq ≤ k1) ∧ Drawn0 w w')
    case atStart => exact ⟨(0), (0), (by first | rfl | (simp; done) | (simp [*]; done)), (by first | rfl | (simp; done) | (simp [*]; done)), H', ⟨Nat.le_refl _⟩, by repeat (first | exact Drawn0.refl _ | apply Drawn0.step)⟩
    case round =>
     clear H'; (try clear p2); (try clear c3); (try clear c4); (try clear c4b0); (try clear p2); obtain ⟨x8_2, x21_2, rfl, rfl, HA, HK2, ⟨m2, rfl⟩⟩ := hrel
     cases gk with
     | zero => exact absurd HA.out (by simp [hash_Sum.l1])
     | succ k2 =>
      have H := HA.out; clear HA; simp only [hash_Sum.l1] at H
      by_cases c5 : x21_2 < 4
      ·rw [if_pos c5] at H; have c5b0 : decide (x21_2 < 4) = true := decide_eq_true c5; clear c5
       by_cases c6 : (wrap64 (x7_1 + x21_2)) < (a1.size : Int)
       ·rw [if_pos c6] at H; have c6b0 : decide ((wrap64 (x7_1 + x21_2)) < (a1.size : Int)) = true := decide_eq_true c6; clear c6; obtain ⟨ji7, hji7⟩ : ∃ j_ : Int, (wrap64 (x7_1 + x21_2)) = j_ := ⟨_, rfl⟩
        replace H : (if 0 ≤ (ji7) then (hash_Sum.l1 k2 a1 t124 x6_1 x7_1 (Go.bits .or .u64 (IntKind.u64.wrap (x8_2 * 256)) (IntKind.u64.wrap (bt a1 (ji7)))) (wrap64 (x21_2 + 1))) else (none)) = some r := by first | (rw [hji7] at H; exact H) | (simp only [hji7] at H ⊢; exact H)
        (try rw [hji7] at c6b0); have hji7w : (IntKind.i64.wrap (x7_1 + x21_2)) = ji7 := (i64_w _).trans hji7
        by_cases c8 : 0 ≤ (ji7)
        ·rw [if_pos c8] at H; have c8b0 : decide (0 ≤ (ji7)) = true := decide_eq_true c8; clear c8; have H' := Aside0.mk H; clear H; have p9 : 0 ≤ ((ji7) : Int) := of_decide_eq_true (by first | (with_reducible assumption) | assumption); have q9 : (ji7) < (a1.size : Int) := of_decide_eq_true (by first | (with_reducible assumption) | assumption); have hx9 := bt_at a1 (ji7); replace p9 := eq_true p9; replace q9 := eq_true q9
         go_wp2
         go_roundg k2
         case measure => have := HK1.out; have := HK2.out; omega
         case rel => exact ⟨(Go.bits .or .u64 (IntKind.u64.wrap (x8_2 * 256)) (IntKind.u64.wrap (bt a1 (ji7)))), (wrap64 (x21_2 + 1)), (by first | rfl | (simp; done) | (simp only [← hji7] <;> (first | rfl | simp)) | (simp [*]; done)), (by first | rfl | (simp; done) | (simp [*]; done)), H', ⟨by have := HK1.out; have := HK2.out; omega⟩, by repeat (first | exact Drawn0.refl _ | apply Drawn0.step)⟩
        ·rw [if_neg c8] at H; exact absurd H (by simp)
       ·rw [if_neg c6] at H; have c6b0 : decide ((wrap64 (x7_1 + x21_2)) < (a1.size : Int)) = false := decide_eq_false c6; clear c6; have H' := Aside0.mk H; clear H
        go_wp2
        go_roundg k2
        case measure => have := HK1.out; have := HK2.out; omega
        case rel => exact ⟨(IntKind.u64.wrap (x8_2 * 256)), (wrap64 (x21_2 + 1)), (by first | rfl | (simp; done) | (simp [*]; done)), (by first | rfl | (simp; done) | (simp [*]; done)), H', ⟨by have := HK1.out; have := HK2.out; omega⟩, by repeat (first | exact Drawn0.refl _ | apply Drawn0.step)⟩
      ·rw [if_neg c5] at H; have c5b0 : decide (x21_2 < 4) = false := decide_eq_false c5; clear c5; replace H := Option.bind_eq_some_iff.mp H; obtain ⟨t127, A100, H⟩ := H; replace H : ((field_Add.f t127 (IntKind.u64.wrap (x8_2 + 1))).bind fun t128 => (hash_Sum.l0 k2 a1 t124 t128 (wrap64 (x7_1 + 4)))) = some r := H; have A10 := Aside0.mk A100; clear A100; replace H := Option.bind_eq_some_iff.mp H; obtain ⟨t128, A110, H⟩ := H; replace H : (hash_Sum.l0 k2 a1 t124 t128 (wrap64 (x7_1 + 4))) = some r := H; have A11 := Aside0.mk A110; clear A110; have H' := Aside0.mk H; clear H
       go_wp2_with (first | ((with_reducible refine gate_callee (f := 38) rfl ?_); refine goesL_ (some 43) rfl rfl Tryd.func38 (by kernel_rfl) rfl #[.int .u64 x6_1, .int .u64 t124] rfl (by (try simp only [List.map_toArray, List.map_cons, List.map_nil]); first | done | rfl | (simp only [List.length_drop, List.length_take]; rfl)) ?_; (with_reducible refine (field_Mul.calls x6_1 t124 t127 _ A10.out).mono ?_); rintro e w' ⟨rfl, ⟨nd, rfl⟩⟩; refine ⟨_, rfl, ?_⟩) | ((with_reducible refine gate_callee (f := 37) rfl ?_); refine goesL_ (some 46) rfl rfl Tryd.func37 (by kernel_rfl) rfl #[.int .u64 t127, .int .u64 (IntKind.u64.wrap (x8_2 + 1))] rfl (by (try simp only [List.map_toArray, List.map_cons, List.map_nil]); first | done | rfl | (simp only [List.length_drop, List.length_take]; rfl)) ?_; (with_reducible refine (field_Add.calls t127 (IntKind.u64.wrap (x8_2 + 1)) t128 _ A11.out).mono ?_); rintro e w' ⟨rfl, ⟨nd, rfl⟩⟩; refine ⟨_, rfl, ?_⟩))
       go_roundg k2
       case measure => have := HK1.out; have := HK2.out; omega
       case rel => exact ⟨(t128), (wrap64 (x7_1 + 4)), (by first | rfl | (simp; done) | (simp [*]; done)), (by first | rfl | (simp; done) | (simp [*]; done)), H', ⟨by have := HK1.out; have := HK2.out; omega⟩, by repeat (first | exact Drawn0.refl _ | apply Drawn0.step)⟩
   ·rw [if_neg c4] at H; have c4b0 : decide (x7_1 < (a1.size : Int)) = false := decide_eq_false c4; clear c4; replace H := Option.bind_eq_some_iff.mp H; obtain ⟨t125, A120, H⟩ := H; replace H : ((field_Pow.f k1 t125 17).bind fun t126 => (some t126)) = some r := H; have A12 := Aside0.mk A120; clear A120; replace H := Option.bind_eq_some_iff.mp H; obtain ⟨t126, A130, H⟩ := H; replace H : (some t126) = some r := H; have A13 := Aside0.mk A130; clear A130; obtain rfl := Option.some.inj H
    go_wp2_with (first | ((with_reducible refine gate_callee (f := 38) rfl ?_); refine goesL_ (some 49) rfl rfl Tryd.func38 (by kernel_rfl) rfl #[.int .u64 x6_1, .int .u64 t124] rfl (by (try simp only [List.map_toArray, List.map_cons, List.map_nil]); first | done | rfl | (simp only [List.length_drop, List.length_take]; rfl)) ?_; (with_reducible refine (field_Mul.calls x6_1 t124 t125 _ A12.out).mono ?_); rintro e w' ⟨rfl, ⟨nd, rfl⟩⟩; refine ⟨_, rfl, ?_⟩) | ((with_reducible refine gate_callee (f := 43) rfl ?_); refine goesL_ (some 50) rfl rfl Tryd.func43 (by kernel_rfl) rfl #[.int .u64 t125, .int .u64 17] rfl (by (try simp only [List.map_toArray, List.map_cons, List.map_nil]); first | done | rfl | (simp only [List.length_drop, List.length_take]; rfl)) ?_; (with_reducible refine (field_Pow.calls k1 t125 17 t126 _ A13.out).mono ?_); rintro e w' ⟨rfl, ⟨nd, rfl⟩⟩; refine ⟨_, rfl, ?_⟩))
    go_ret; exact ⟨by first | rfl | (simp; done) | (simp [*]; done), by repeat (first | exact Drawn0.refl _ | apply Drawn0.step)⟩

/-! ### bits_TrailingZeros64: function 36 -/
def bits_TrailingZeros64.f (a0 : Int) : Option (Int) := if 0 ≤ a0 then (if a0 < 18446744073709551616 then some (Lib.ctz 64 a0.toNat : Int) else none) else none

set_option maxHeartbeats 1000000 in
theorem bits_TrailingZeros64.core (x k idx : Nat) (w : World) (hx0 : ((x : Int) == 0) = false)
    (key : IntKind.u64.wrap (bits BinOp.and IntKind.u64 (x : Int) (IntKind.u64.wrap (-(x : Int))) * 285870213051353865) / 288230376151711744 = (idx : Int))
    (hi : idx < 64) (hk : k < 64) (hcell : w.cell? ⟨0, idx, none⟩ = some (.int .u8 k)) :
    Calls Tryd.prog 36 #[.int .u64 x] w fun e w' => e = .returned (.int .i64 k) ∧ w' = w := by
  have hu_ := Tryd.underlying63
  go_enter Tryd.func36, Tryd.ntmps36
  go_wp2_with (simp only [key])
  go_ret
  exact ⟨rfl, rfl⟩

theorem bits_TrailingZeros64.zero (w : World) : Calls Tryd.prog 36 #[.int .u64 0] w fun e w' => e = .returned (.int .i64 64) ∧ w' = w := by
  go_enter Tryd.func36, Tryd.ntmps36
  go_wp2
  go_ret
  exact ⟨rfl, rfl⟩

theorem bits_TrailingZeros64.whole (a0 : Int) (r1 : Int) (w : World) (h : bits_TrailingZeros64.f a0 = some r1) (HT0 : Aside0 (Tab w)) : Calls Tryd.prog 36 #[.int .u64 a0] w fun e w' => e = .returned (.int .i64 r1) ∧ w' = w := by
  unfold bits_TrailingZeros64.f at h
  by_cases h0 : 0 ≤ a0
  · rw [if_pos h0] at h
    by_cases h1 : a0 < 18446744073709551616
    · rw [if_pos h1] at h
      obtain rfl := Option.some.inj h
      obtain ⟨x, rfl⟩ : ∃ x : Nat, a0 = (x : Int) := ⟨a0.toNat, by omega⟩
      rw [Int.toNat_natCast]
      by_cases hx0 : x = 0
      · subst hx0
        exact bits_TrailingZeros64.zero w
      · obtain ⟨hlow, hk⟩ := Lib.lowest_bit 64 x hx0 (by omega)
        obtain ⟨hi, htab⟩ := Lib.deBruijn64_at _ hk
        have hcell := HT0.out _ hi
        rw [htab] at hcell
        exact bits_TrailingZeros64.core x _ _ w (by simp; omega) (tz64_key x _ (by omega) hx0 hlow) hi hk hcell
    · rw [if_neg h1] at h; cases h
  · rw [if_neg h0] at h; cases h

set_option maxHeartbeats 80000000 in
set_option maxRecDepth 100000 in
theorem bits_TrailingZeros64.calls (a0 : Int) (r : Int) (w : World) (h : bits_TrailingZeros64.f a0 = some r) (HT0 : Aside0 (Tab w)) :
    Calls Tryd.prog 36 #[.int .u64 a0] w fun e w' => e = .returned (.int .i64 r) ∧ Drawn0 w w' := by
 have hw_ := bits_TrailingZeros64.whole a0 _ w h HT0
 first
 | exact hw_
 | exact hw_.mono (fun e w' ⟨he, hw⟩ => ⟨he, ⟨0, hw⟩⟩)

/-! ### hash_Level: function 28 -/
def hash_Level.f (k : Nat) (a0 : Int) (a1 : ByteArray) (a2 : Int) : Option (Int) := (hash_Sum.f k a0 a1).bind fun t129 => (if t129 = 0 then (some (mx a2 0)) else ((bits_TrailingZeros64.f t129).bind fun t130 => (some (mx (mn t130 a2) 0))))
theorem hash_Level.mono : ∀ a0 a1 a2 k, LeO (hash_Level.f k a0 a1 a2) (hash_Level.f (k + 1) a0 a1 a2) := by
  intro a0 a1 a2 k
  unfold hash_Level.f
  repeat' first
      | (with_reducible exact hash_Sum.mono _ _ _)
      | (with_reducible exact LeO.refl _)
      | (with_reducible exact LeO.none _)
      | (with_reducible refine LeO.ite ?_ ?_)
      | (with_reducible refine LeO.bind ?_ (fun _ => ?_))
      | exact hash_Sum.mono _ _ _
      | exact LeO.none _
      | refine LeO.ite ?_ ?_
      | refine LeO.bind ?_ (fun _ => ?_)
set_option maxHeartbeats 80000000 in
set_option maxRecDepth 100000 in
theorem hash_Level.calls (k : Nat) (a0 : Int) (a1 : ByteArray) (a2 : Int) (r : Int) (w : World) (h : hash_Level.f k a0 a1 a2 = some r) (HT0 : Aside0 (Tab w)) :
    Calls Tryd.prog 28 #[.int .u64 a0, .string a1, .int .i64 a2] w fun e w' => e = .returned (.int .i64 r) ∧ Below w.heap.size w w' := by
 have HB := Aside0.mk (Below.refl w.heap.size w); have H : ((hash_Sum.f k a0 a1).bind fun t129 => (if t129 = 0 then (some (mx a2 0)) else ((bits_TrailingZeros64.f t129).bind fun t130 => (some (mx (mn t130 a2) 0))))) = some r := h; clear h; replace H := Option.bind_eq_some_iff.mp H; obtain ⟨t129, A40, H⟩ := H; replace H : (if t129 = 0 then (some (mx a2 0)) else ((bits_TrailingZeros64.f t129).bind fun t130 => (some (mx (mn t130 a2) 0)))) = some r := H; have A4 := Aside0.mk A40; clear A40
 by_cases c5 : t129 = 0
 ·rw [if_pos c5] at H; have c5b0 : (t129 == 0) = true := beq_iff_eq.mpr c5; have c5b1 : (t129 != 0) = false := bne_eq_false_iff_eq.mpr c5; clear c5; obtain ⟨ji6, hji6⟩ : ∃ j_ : Int, (mx a2 0) = j_ := ⟨_, rfl⟩
  replace H : (some ji6) = some r := by first | (rw [hji6] at H; exact H) | (simp only [hji6] at H ⊢; exact H)
  (try rw [hji6] at A4); (try (have hji6l : 0 ≤ ji6 := by (rw [← hji6]; unfold mx; (repeat' split) <;> omega))); (try (have hji6m : 0 ≤ ji6 := by omega)); have hji6_ : (if a2 < 0 then 0 else a2) = ji6 := hji6; obtain rfl := Option.some.inj H
  go_enter Tryd.func28, Tryd.ntmps28
  go_wp2_with (first | ((with_reducible refine gate_callee (f := 35) rfl ?_); refine goesL_ (some 10) rfl rfl Tryd.func35 (by kernel_rfl) rfl #[.int .u64 a0, .string a1] rfl (by (try simp only [List.map_toArray, List.map_cons, List.map_nil]); first | done | rfl | (simp only [List.length_drop, List.length_take]; rfl)) ?_; (with_reducible refine (hash_Sum.calls k a0 a1 t129 _ A4.out).mono ?_); rintro e w' ⟨rfl, ⟨nd, rfl⟩⟩; refine ⟨_, rfl, ?_⟩))
  go_ret; exact ⟨by first | rfl | (simp [errW_none, errW_some] <;> rfl) | (simp only [← hji6]; first | rfl | (simp [errW_none, errW_some] <;> rfl)) | (simp [*, errW_none, errW_some] <;> rfl), bl_ HB⟩
 ·rw [if_neg c5] at H; have c5b0 : (t129 == 0) = false := beq_eq_false_iff_ne.mpr c5; have c5b1 : (t129 != 0) = true := bne_iff_ne.mpr c5; replace H := Option.bind_eq_some_iff.mp H; obtain ⟨t130, A70, H⟩ := H; replace H : (some (mx (mn t130 a2) 0)) = some r := H; have A7 := Aside0.mk A70; clear A70; obtain ⟨ji8, hji8⟩ : ∃ j_ : Int, (mn t130 a2) = j_ := ⟨_, rfl⟩
  replace H : (some (mx (ji8) 0)) = some r := by first | (rw [hji8] at H; exact H) | (simp only [hji8] at H ⊢; exact H)
  (try rw [hji8] at A4); (try rw [hji8] at A7); have hji8_ : (if a2 < t130 then a2 else t130) = ji8 := hji8; obtain ⟨ji9, hji9⟩ : ∃ j_ : Int, (mx (ji8) 0) = j_ := ⟨_, rfl⟩
  replace H : (some ji9) = some r := by first | (rw [hji9] at H; exact H) | (simp only [hji9] at H ⊢; exact H)
  (try rw [hji9] at A4); (try rw [hji9] at A7); have hji9_ : (if (ji8) < 0 then 0 else (ji8)) = ji9 := hji9; obtain rfl := Option.some.inj H
  go_enter Tryd.func28, Tryd.ntmps28
  go_wp2_with (first | ((with_reducible refine gate_callee (f := 35) rfl ?_); refine goesL_ (some 10) rfl rfl Tryd.func35 (by kernel_rfl) rfl #[.int .u64 a0, .string a1] rfl (by (try simp only [List.map_toArray, List.map_cons, List.map_nil]); first | done | rfl | (simp only [List.length_drop, List.length_take]; rfl)) ?_; (with_reducible refine (hash_Sum.calls k a0 a1 t129 _ A4.out).mono ?_); rintro e w' ⟨rfl, ⟨nd, rfl⟩⟩; refine ⟨_, rfl, ?_⟩) | ((with_reducible refine gate_callee (f := 36) rfl ?_); refine goesL_ (some 16) rfl rfl Tryd.func36 (by kernel_rfl) rfl #[.int .u64 t129] rfl (by (try simp only [List.map_toArray, List.map_cons, List.map_nil]); first | done | rfl | (simp only [List.length_drop, List.length_take]; rfl)) ?_; (with_reducible refine (bits_TrailingZeros64.calls t129 t130 _ A7.out ⟨tb_ HT0 HB⟩).mono ?_); rintro e w' ⟨rfl, ⟨nd, rfl⟩⟩; refine ⟨_, rfl, ?_⟩))
  go_ret; exact ⟨by first | rfl | (simp [errW_none, errW_some] <;> rfl) | (simp only [← hji8, ← hji9]; first | rfl | (simp [errW_none, errW_some] <;> rfl)) | (simp [*, errW_none, errW_some] <;> rfl), bl_ HB⟩

end Go.Proofs.YteakbghjhckoeaaDoor.PBitmapMerges
