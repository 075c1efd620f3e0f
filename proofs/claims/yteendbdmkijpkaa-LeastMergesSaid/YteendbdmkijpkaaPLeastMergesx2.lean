/- The functions that a law uses, each as a plain function, with the proof that a call of the Go function comes to its answer. Condition of each: the arguments read as the data that it names, and the plain function has an answer. Written by a program of this session (standin.py). -/
import Derived.Test.YteendbdmkijpkaaPLeastMergesx0
import Derived.Test.YteendbdmkijpkaaShort
import Derived.Lib.SliceRun
import Derived.Test.YteendbdmkijpkaaPress
namespace Go.Proofs.Yteendbdmkijpkaa.PLeastMerges
open Go.RowKit Go.Proofs.YteendbdmkijpkaaW.PrintWords Go.Proofs.YteendbdmkijpkaaW.PrintLast Go.Proofs.YteendbdmkijpkaaW.PrintMore Go.Proofs.Yteendbdmkijpkaa.Short Go.Proofs.Yteendbdmkijpkaa.Press
attribute [local go_sem] max2_int min2_int max_two min_two max_three min_three max_four min_four   -- for this text's walks alone
set_option linter.unusedVariables false
set_option linter.unusedSimpArgs false

/-! ### least_New: function 9 -/
mutual
def least_New.j0 : Nat → Int → Int → Int → Int → Bool → Option (Int × Int × (List (List Int)) × Int)
  | 0, _, _, _, _, _ => none
  | k + 1, x0, x1, x2, x3, x32 => if x32 = true then (some (0, 0, ([] : List (List Int)), 1)) else (least_New.l0 k x2 x1 0 x0 x3 ([] : List (List Int)))
def least_New.l0 : Nat → Int → Int → Int → Int → Int → List (List Int) → Option (Int × Int × (List (List Int)) × Int)
  | 0, _, _, _, _, _, _ => none
  | k + 1, x2, x37, x38, x115000, x115001, x115002 => if x38 < x37 then (if 0 ≤ x2 then (if (x2 : Int).toNat ≤ 35184372088832 then (if x115002.length < 5864062014805 then (least_New.l0 k x2 x37 (wrap64 (x38 + 1)) x115000 x115001 (x115002 ++ [(List.replicate (x2 : Int).toNat 0)])) else (none)) else (none)) else (none)) else (some (x115000, x115001, x115002, 0))
end
def least_New.f (k : Nat) (a0 : Int) (a1 : Int) (a2 : Int) (a3 : Int) : Option (Int × Int × (List (List Int)) × Int) := if a1 < 1 then (least_New.j0 k a0 a1 a2 a3 true) else (if a1 > 7 then (least_New.j0 k a0 a1 a2 a3 true) else (if a2 < 1 then (least_New.j0 k a0 a1 a2 a3 true) else (if a2 > 256 then (least_New.j0 k a0 a1 a2 a3 true) else (if a3 < 1 then (least_New.j0 k a0 a1 a2 a3 true) else (least_New.j0 k a0 a1 a2 a3 (decide (a3 > 1099511627776)))))))
theorem least_New.mono_l : ∀ k, (∀ y0 y1 y2 y3 y4, LeO (least_New.j0 k y0 y1 y2 y3 y4) (least_New.j0 (k + 1) y0 y1 y2 y3 y4)) ∧ (∀ y0 y1 y2 y3 y4 y5, LeO (least_New.l0 k y0 y1 y2 y3 y4 y5) (least_New.l0 (k + 1) y0 y1 y2 y3 y4 y5))
  | 0 => ⟨fun _ _ _ _ _ r h => by simp [least_New.j0] at h, fun _ _ _ _ _ _ r h => by simp [least_New.l0] at h⟩
  | k + 1 => by
    obtain ⟨ih0, ih1⟩ := least_New.mono_l k
    refine ⟨?_, ?_⟩
    · intro y0 y1 y2 y3 y4
      unfold least_New.j0
      repeat' first
      | (with_reducible exact ih0 _ _ _ _ _)
      | (with_reducible exact ih1 _ _ _ _ _ _)
      | (with_reducible exact LeO.refl _)
      | (with_reducible exact LeO.none _)
      | (with_reducible refine LeO.ite ?_ ?_)
      | (with_reducible refine LeO.bind ?_ (fun _ => ?_))
      | exact ih0 _ _ _ _ _
      | exact ih1 _ _ _ _ _ _
      | exact LeO.none _
      | refine LeO.ite ?_ ?_
      | refine LeO.bind ?_ (fun _ => ?_)
    · intro y0 y1 y2 y3 y4 y5
      unfold least_New.l0
      repeat' first
      | (with_reducible exact ih0 _ _ _ _ _)
      | (with_reducible exact ih1 _ _ _ _ _ _)
      | (with_reducible exact LeO.refl _)
      | (with_reducible exact LeO.none _)
      | (with_reducible refine LeO.ite ?_ ?_)
      | (with_reducible refine LeO.bind ?_ (fun _ => ?_))
      | exact ih0 _ _ _ _ _
      | exact ih1 _ _ _ _ _ _
      | exact LeO.none _
      | refine LeO.ite ?_ ?_
      | refine LeO.bind ?_ (fun _ => ?_)
theorem least_New.mono : ∀ a0 a1 a2 a3 k, LeO (least_New.f k a0 a1 a2 a3) (least_New.f (k + 1) a0 a1 a2 a3) := by
  intro a0 a1 a2 a3 k
  obtain ⟨ih0, ih1⟩ := least_New.mono_l k
  unfold least_New.f
  repeat' first
      | (with_reducible exact ih0 _ _ _ _ _)
      | (with_reducible exact ih1 _ _ _ _ _ _)
      | (with_reducible exact LeO.refl _)
      | (with_reducible exact LeO.none _)
      | (with_reducible refine LeO.ite ?_ ?_)
      | (with_reducible refine LeO.bind ?_ (fun _ => ?_))
      | exact ih0 _ _ _ _ _
      | exact ih1 _ _ _ _ _ _
      | exact LeO.none _
      | refine LeO.ite ?_ ?_
      | refine LeO.bind ?_ (fun _ => ?_)
def least_New.T6 : Bool × List (List Nat × List Nat) := (true, [([], []), ([0], [0]), ([], []), ([2, 2], [2]), ([3], [3]), ([1, 4], [1, 4]), ([0, 1, 2, 3, 4, 5], []), ([6, 5, 5, 0, 1, 2, 3, 4, 5], [5, 6])])
def least_New.B6 : List Nat := [0, 1, 0, 4, 12, 31, 63, 127]
theorem least_New.tab6 : rtab .any (opsOf Try.f9 6) = least_New.T6 := by kernel_rfl
theorem least_New.bits6 : waitsOk least_New.T6.2 least_New.B6 = true := by kernel_rfl
set_option maxHeartbeats 80000000 in
set_option maxRecDepth 100000 in
theorem least_New.calls (k : Nat) (a0 : Int) (a1 : Int) (a2 : Int) (a3 : Int) (r1 : Int) (r2 : Int) (r3 : List (List Int)) (r4 : Int) (w : World) (h : least_New.f k a0 a1 a2 a3 = some (r1, r2, r3, r4)) :
    Calls Try.prog 9 #[.int .u64 a0, .int .i64 a1, .int .i64 a2, .int .i64 a3] w fun e w' => ∃ v2_ : Value, e = .returned (.tuple #[.agg #[.int .u64 r1, .int .i64 r2, v2_], .int .i64 r4]) ∧ Kd.S (Kd.slice 3 (Kd.int .i64)) 33 w' w.heap.size (fun _ => True) v2_ r3 ∧ Below w.heap.size w w' := by
 have hu25 := Try.underlying25; have HB := Aside0.mk (Below.refl w.heap.size w); have H : (if a1 < 1 then (least_New.j0 k a0 a1 a2 a3 true) else (if a1 > 7 then (least_New.j0 k a0 a1 a2 a3 true) else (if a2 < 1 then (least_New.j0 k a0 a1 a2 a3 true) else (if a2 > 256 then (least_New.j0 k a0 a1 a2 a3 true) else (if a3 < 1 then (least_New.j0 k a0 a1 a2 a3 true) else (least_New.j0 k a0 a1 a2 a3 (decide (a3 > 1099511627776)))))))) = some (r1, r2, r3, r4) := h; clear h; have HC5 := Aside0.mk H; clear H
 go_enter Try.func9, Try.ntmps9
 go_upto_region 1 with (first | ((with_reducible refine gate_dst (N := 8) rfl ?_); refine box_event ?hg (N := 8) ?hd (cs := #[.int .u64 0, .int .i64 0, .slice none 0 0]) (t := 25) ?hr ?_; (case hd => rfl); (case hg => rfl); (case hr => first | (go_simp; done) | (go_simp; rfl)); intro gb113 hg w6 hbox hb; have n0_ := Aside0.mk (below_step (bl_ HB) hb); have n1_ := Aside0.mk (hbox); have n2_ := Aside0.mk (gl_ hg HB); have n3_ := Aside0.mk (gl_ hg HB); clear HB; have HB := n0_; have BK113 := n1_; have GW113 := n2_; have GE113 := n3_; clear n0_ n1_ n2_ n3_; clear hb hbox hg))
 (try simp only [Act.put, sa_, sb_, sc_])
 go_cut [32] (fun v32 wc => ∃ (kq : Nat) (x32_4 : Bool), v32 = .bool x32_4 ∧ Aside0 (least_New.j0 kq a0 a1 a2 a3 x32_4 = some (r1, r2, r3, r4)) ∧ Aside0 (kq ≤ k) ∧ Aside0 (wc.heap[gb113]? = some (.cells #[.int .u64 0, .int .i64 0, (.slice none 0 0)] 25 (0, 0))) ∧ Aside0 (Below w.heap.size w wc))
 case first =>
  have H := HC5.out; clear HC5
  by_cases c7 : a1 < 1
  ·rw [if_pos c7] at H; have c7b0 : decide (a1 < 1) = true := decide_eq_true c7; clear c7
   (first | rw [c7b0] | (simp only [i64_w, i32_w]; rw [c7b0]) | skip)
   have H' := Aside0.mk H; clear H
   go_wp2
   go_meet
   case rel => exact ⟨_, (true), (by first | rfl | (simp; done) | (simp [*]; done)), H', ⟨by first | omega | exact Nat.le_refl _⟩, ⟨bk_ BK113⟩, ⟨bl_ HB⟩⟩
  ·rw [if_neg c7] at H; have c7b0 : decide (a1 < 1) = false := decide_eq_false c7; clear c7
   (first | rw [c7b0] | (simp only [i64_w, i32_w]; rw [c7b0]) | skip)
   by_cases c8 : a1 > 7
   ·rw [if_pos c8] at H; have c8b0 : decide (7 < a1) = true := decide_eq_true c8; clear c8; have H' := Aside0.mk H; clear H
    go_wp2
    go_meet
    case rel => exact ⟨_, (true), (by first | rfl | (simp; done) | (simp [*]; done)), H', ⟨by first | omega | exact Nat.le_refl _⟩, ⟨bk_ BK113⟩, ⟨bl_ HB⟩⟩
   ·rw [if_neg c8] at H; have c8b0 : decide (7 < a1) = false := decide_eq_false c8; clear c8
    by_cases c9 : a2 < 1
    ·rw [if_pos c9] at H; have c9b0 : decide (a2 < 1) = true := decide_eq_true c9; clear c9; have H' := Aside0.mk H; clear H
     go_wp2
     go_meet
     case rel => exact ⟨_, (true), (by first | rfl | (simp; done) | (simp [*]; done)), H', ⟨by first | omega | exact Nat.le_refl _⟩, ⟨bk_ BK113⟩, ⟨bl_ HB⟩⟩
    ·rw [if_neg c9] at H; have c9b0 : decide (a2 < 1) = false := decide_eq_false c9; clear c9
     by_cases c10 : a2 > 256
     ·rw [if_pos c10] at H; have c10b0 : decide (256 < a2) = true := decide_eq_true c10; clear c10; have H' := Aside0.mk H; clear H
      go_wp2
      go_meet
      case rel => exact ⟨_, (true), (by first | rfl | (simp; done) | (simp [*]; done)), H', ⟨by first | omega | exact Nat.le_refl _⟩, ⟨bk_ BK113⟩, ⟨bl_ HB⟩⟩
     ·rw [if_neg c10] at H; have c10b0 : decide (256 < a2) = false := decide_eq_false c10; clear c10
      by_cases c11 : a3 < 1
      ·rw [if_pos c11] at H; have c11b0 : decide (a3 < 1) = true := decide_eq_true c11; clear c11; have H' := Aside0.mk H; clear H
       go_wp2
       go_meet
       case rel => exact ⟨_, (true), (by first | rfl | (simp; done) | (simp [*]; done)), H', ⟨by first | omega | exact Nat.le_refl _⟩, ⟨bk_ BK113⟩, ⟨bl_ HB⟩⟩
      ·rw [if_neg c11] at H; have c11b0 : decide (a3 < 1) = false := decide_eq_false c11; clear c11; have H' := Aside0.mk H; clear H
       go_wp2
       go_meet
       case rel => exact ⟨_, (decide (a3 > 1099511627776)), (by first | rfl | (simp; done) | (simp [*]; done)), H', ⟨by first | omega | exact Nat.le_refl _⟩, ⟨bk_ BK113⟩, ⟨bl_ HB⟩⟩
 case rest =>
  clear HC5; (try clear c1); (try clear p2); (try clear c7); (try clear c7b0); (try clear c8); (try clear c8b0); (try clear c9); (try clear c9b0); (try clear c10); (try clear c10b0); (try clear c11); (try clear c11b0); obtain ⟨kq, x32_4, rfl, HA, HJ4, BK113, HB⟩ := hcut
  cases kq with
  | zero => exact absurd HA.out (by simp [least_New.j0])
  | succ kj4 =>
   have H := HA.out; clear HA; simp only [least_New.j0] at H
   by_cases c12 : x32_4 = true
   ·subst c12
    have H1 : (some (0, 0, ([] : List (List Int)), 1)) = some (r1, r2, r3, r4) := by rw [if_pos rfl] at H; exact H
    clear H; have H := H1; clear H1; simp only [Option.some.injEq, Prod.mk.injEq] at H; obtain ⟨rfl, rfl, rfl, rfl⟩ := H; have hcz13_0 : wc.cell? ⟨gb113, 0, none⟩ = some (.int .u64 0) := (blk_cell BK113.out 0).trans rfl; have hcz13_1 : wc.cell? ⟨gb113, 1, none⟩ = some (.int .i64 0) := (blk_cell BK113.out 1).trans rfl; have hcz13_2 : wc.cell? ⟨gb113, 2, none⟩ = some (.slice none 0 0) := (blk_cell BK113.out 2).trans rfl; have hfz13_0 := blk_frozen BK113.out 0; have hfz13_1 := blk_frozen BK113.out 1; have hfz13_2 := blk_frozen BK113.out 2
    go_wp2
    refine bodyPost_ret (results_ct rfl _ _ gb113 25 #[.int .u64 0, .int .i64 0, .slice none 0 0] (0, 0) _ rfl (by (with_reducible repeat (first | refine blk_drewN ?_ _ | refine blk_drew ?_ | refine blk_alloc ?_ _)); refine blk_put (cs := #[.int .u64 0, .int .i64 0, .slice none 0 0]) ?_ 2 _ rfl; (with_reducible repeat (first | refine blk_drewN ?_ _ | refine blk_drew ?_ | refine blk_alloc ?_ _)); refine blk_put (cs := #[.int .u64 0, .int .i64 0, .slice none 0 0]) ?_ 1 _ rfl; (with_reducible repeat (first | refine blk_drewN ?_ _ | refine blk_drew ?_ | refine blk_alloc ?_ _)); refine blk_put (cs := #[.int .u64 0, .int .i64 0, .slice none 0 0]) ?_ 0 _ rfl; (with_reducible repeat (first | refine blk_drewN ?_ _ | refine blk_drew ?_ | refine blk_alloc ?_ _)); exact BK113.out) Try.underlying25 rfl (by kernel_rfl)) rfl ?_; exact ⟨_, by first | rfl | (simp [errW_none, errW_some] <;> rfl) | (simp [*, errW_none, errW_some] <;> rfl), by first | exact Kd.S_nil _ _ _ _ _ | exact Kd.N_nil _ _ _ _ _ | exact Kd.V_nil _ _ _ _ _ | exact Kd.Q_nil _ _ _ _ _ | exact Kd.R_nil _ _ _ _ _, bl_ HB⟩
   ·replace c12 := Bool.eq_false_iff.mpr c12; subst c12
    have H1 : (least_New.l0 kj4 a2 a1 0 a0 a3 ([] : List (List Int))) = some (r1, r2, r3, r4) := by rw [if_neg (show ¬ (false = true) by decide)] at H; exact H
    clear H; have H := H1; clear H1; have H' := Aside0.mk H; clear H
    go_wp2_with (first | ((with_reducible refine gate_dst (N := 10) rfl ?_); refine box_event ?hg (N := 10) ?hd (cs := #[.int .u64 0, .int .i64 0, .slice none 0 0]) (t := 25) ?hr ?_; (case hd => rfl); (case hg => rfl); (case hr => first | (go_simp; done) | (go_simp; rfl)); intro gb114 hg w14 hbox hb; have n0_ := Aside0.mk (blk_below (bk_ BK113) hb); have n1_ := Aside0.mk (below_step (bl_ HB) hb); have n2_ := Aside0.mk (hbox); have n3_ := Aside0.mk (gl_ hg HB); have n4_ := Aside0.mk (gl_ hg HB); have n5_ := Aside0.mk (nl_ hg BK113); have n6_ := Aside0.mk (ng_ hg BK113); clear BK113; clear HB; have BK113 := n0_; have HB := n1_; have BK114 := n2_; have GW114 := n3_; have GE114 := n4_; have NB113_114 := n5_; have NB114_113 := n6_; clear n0_ n1_ n2_ n3_ n4_ n5_ n6_; clear hb hbox hg; have hnb15 := NB114_113.out; have hnc15 := NB113_114.out; have hcz16_0 : w14.cell? ⟨gb114, 0, none⟩ = some (.int .u64 0) := (blk_cell BK114.out 0).trans rfl; have hcz16_1 : w14.cell? ⟨gb114, 1, none⟩ = some (.int .i64 0) := (blk_cell BK114.out 1).trans rfl; have hcz16_2 : w14.cell? ⟨gb114, 2, none⟩ = some (.slice none 0 0) := (blk_cell BK114.out 2).trans rfl; have hfz16_0 := blk_frozen BK114.out 0; have hfz16_1 := blk_frozen BK114.out 1; have hfz16_2 := blk_frozen BK114.out 2))
    go_loopg [38] kj4 (fun kq v38 w' => ∃ (x38_2 : Int) (x115002_2 : List (List Int)) (u115002 : Value), v38 = .int .i64 x38_2 ∧ Aside0 (least_New.l0 kq a2 a1 x38_2 a0 a3 x115002_2 = some (r1, r2, r3, r4)) ∧ Aside0 (kq ≤ kj4) ∧ Aside0 (Kd.S (Kd.slice 3 (Kd.int .i64)) 33 w' w.heap.size (fun _ => True) u115002 x115002_2) ∧ Aside0 (w'.heap[gb113]? = some (.cells #[.int .u64 0, .int .i64 0, (.slice none 0 0)] 25 (0, 0))) ∧ Aside0 (w'.heap[gb114]? = some (.cells #[.int .u64 a0, .int .i64 a3, u115002] 25 (0, 0))) ∧ Aside0 (Below w.heap.size w w'))
    case atStart => exact ⟨(0), (([] : List (List Int))), (.slice none 0 0), (by first | rfl | (simp; done) | (simp [*]; done)), H', ⟨Nat.le_refl _⟩, ⟨by first | exact Kd.S_nil _ _ _ _ _ | exact Kd.N_nil _ _ _ _ _ | exact Kd.V_nil _ _ _ _ _ | exact Kd.Q_nil _ _ _ _ _ | exact Kd.R_nil _ _ _ _ _⟩, ⟨by (with_reducible repeat (first | refine blk_drewN ?_ _ | refine blk_drew ?_ | refine blk_alloc ?_ _)); refine blk_far ?_ NB113_114.out _; (with_reducible repeat (first | refine blk_drewN ?_ _ | refine blk_drew ?_ | refine blk_alloc ?_ _)); refine blk_far ?_ NB113_114.out _; (with_reducible repeat (first | refine blk_drewN ?_ _ | refine blk_drew ?_ | refine blk_alloc ?_ _)); refine blk_far ?_ NB113_114.out _; (with_reducible repeat (first | refine blk_drewN ?_ _ | refine blk_drew ?_ | refine blk_alloc ?_ _)); exact BK113.out⟩, ⟨by (with_reducible repeat (first | refine blk_drewN ?_ _ | refine blk_drew ?_ | refine blk_alloc ?_ _)); refine blk_put (cs := #[.int .u64 a0, .int .i64 a3, .slice none 0 0]) ?_ 2 _ rfl; (with_reducible repeat (first | refine blk_drewN ?_ _ | refine blk_drew ?_ | refine blk_alloc ?_ _)); refine blk_put (cs := #[.int .u64 a0, .int .i64 0, .slice none 0 0]) ?_ 1 _ rfl; (with_reducible repeat (first | refine blk_drewN ?_ _ | refine blk_drew ?_ | refine blk_alloc ?_ _)); refine blk_put (cs := #[.int .u64 0, .int .i64 0, .slice none 0 0]) ?_ 0 _ rfl; (with_reducible repeat (first | refine blk_drewN ?_ _ | refine blk_drew ?_ | refine blk_alloc ?_ _)); exact BK114.out⟩, ⟨bl_ HB⟩⟩
    case round =>
     clear H'; (try clear c1); (try clear p2); (try clear c7); (try clear c7b0); (try clear c8); (try clear c8b0); (try clear c9); (try clear c9b0); (try clear c10); (try clear c10b0); (try clear c11); (try clear c11b0); (try clear c12); (try clear c15); (try clear hcz13_0); (try clear hcz13_1); (try clear hcz13_2); (try clear hcz16_0); (try clear hcz16_1); (try clear hcz16_2); (try clear hfz13_0); (try clear hfz13_1); (try clear hfz13_2); (try clear hfz16_0); (try clear hfz16_1); (try clear hfz16_2); (try clear p2); obtain ⟨x38_2, x115002_2, u115002, rfl, HA, HK2, HO_115002, BK113, BK114, HB⟩ := hrel
     cases gk with
     | zero => exact absurd HA.out (by simp [least_New.l0])
     | succ k2 =>
      have H := HA.out; clear HA; simp only [least_New.l0] at H
      by_cases c17 : x38_2 < a1
      ·rw [if_pos c17] at H; have c17b0 : decide (x38_2 < a1) = true := decide_eq_true c17; clear c17
       by_cases c18 : 0 ≤ a2
       ·rw [if_pos c18] at H; have c18b0 := eq_true c18; have c18b1 : decide (0 ≤ a2) = true := decide_eq_true c18; clear c18
        by_cases c19 : (a2 : Int).toNat ≤ 35184372088832
        ·rw [if_pos c19] at H; have c19b0 := eq_true c19; have c19b1 : decide ((a2 : Int).toNat ≤ 35184372088832) = true := decide_eq_true c19; clear c19; obtain ⟨y115, hy115⟩ : ∃ y_ : List Int, y_ = (List.replicate (a2 : Int).toNat 0) := ⟨_, rfl⟩
         replace H : (if x115002_2.length < 5864062014805 then (least_New.l0 k2 a2 a1 (wrap64 (x38_2 + 1)) a0 a3 (x115002_2 ++ [y115])) else (none)) = some (r1, r2, r3, r4) := by first | (rw [hy115]; with_reducible exact H) | (have H2_ := (Option.bind_some _ _).symm.trans H; rw [hy115]; with_reducible exact H2_) | (have H2_ := (Option.bind_some _ _).symm.trans H; with_reducible exact H2_) | with_reducible exact H | (rw [hy115]; exact H) | exact H
         have Ny115 := Aside0.mk hy115; clear hy115
         by_cases c20 : x115002_2.length < 5864062014805
         ·rw [if_pos c20] at H; have LMc20 := Aside0.mk c20; clear c20; obtain ⟨y118, hy118⟩ : ∃ y_ : List (List Int), y_ = (x115002_2 ++ [y115]) := ⟨_, rfl⟩
          replace H : (least_New.l0 k2 a2 a1 (wrap64 (x38_2 + 1)) a0 a3 y118) = some (r1, r2, r3, r4) := by first | (rw [hy118]; with_reducible exact H) | (have H2_ := (Option.bind_some _ _).symm.trans H; rw [hy118]; with_reducible exact H2_) | (have H2_ := (Option.bind_some _ _).symm.trans H; with_reducible exact H2_) | with_reducible exact H | (rw [hy118]; exact H) | exact H
          have Ny118 := Aside0.mk hy118; clear hy118; have H' := Aside0.mk H; clear H
          try go_wp2
          replace HO_115002 := Aside0.mk (Kd.S_drew HO_115002.out); replace BK113 := Aside0.mk (blk_drew BK113.out); replace BK114 := Aside0.mk (blk_drew BK114.out); replace HB := Aside0.mk (below_drew1 HB.out); refine start_ (n := 8) (S := fun w' => w'.cell? ⟨gb114, 0, none⟩ = some (.int .u64 a0) ∧ w'.cell? ⟨gb114, 1, none⟩ = some (.int .i64 a3) ∧ w'.cell? ⟨gb114, 2, none⟩ = some (u115002)) (ds := [7]) (mB 8 0) (by kernel_rfl) rfl rfl ⟨(blk_cell BK114.out 0).trans rfl, (blk_cell BK114.out 1).trans rfl, (blk_cell BK114.out 2).trans rfl⟩ (fun hHeld => ?_); refine with_tabW least_New.tab6 least_New.bits6 (fun HT_ HW_ => ?_); generalize wr.drew = w21 at HO_115002 BK113 BK114 HB hHeld ⊢; refine pw_ 0 40 (v := ?_) (a' := ?_) (mB 8 1) rfl rfl HT_ (by kernel_rfl) (fun _ _ _ h => h) ?_ ?_ ?_; rotate_left
          ·intro w'; go_simp; with_reducible rfl
          rotate_left
          ·simp only [Act.put, sa_, sb_, sc_, i64_w, i32_w]; rfl
          refine pw_ 2 42 (v := ?_) (a' := ?_) (mB 8 5) rfl rfl HT_ (by kernel_rfl) (fun _ _ _ h => h) ?_ ?_ ?_; rotate_left
          ·intro w'; go_simp; with_reducible rfl
          rotate_left
          ·simp only [Act.put, sa_, sb_, sc_, i64_w, i32_w]; rfl
          refine take_ (i := 1) (N := some 41) (v := ?_) (a' := ?_) (mB 8 7) rfl rfl (take_ofW HT_.out HW_.out (by kernel_rfl)) (fun _ _ _ h => h) (Or.inl ⟨by rfl, ?_⟩) hHeld ?_ ?_; rotate_left
          ·rintro w' ⟨s0, s1, s2⟩; go_simp; with_reducible rfl
          rotate_left
          ·simp only [Act.put, sa_, sb_, sc_, i64_w, i32_w]; rfl
          refine one_ (i := 3) (N := some 43) (mB 8 15) rfl rfl (one_of HT_.out (by kernel_rfl)) (by decide) (fun K hK => ?_); refine Kd.R_make_step (Kd.int .i64) _ 3 (by rfl) (N := 43) rfl 33 _ _ rfl a2 rfl rfl Try.underlying33 (.int .i64 0) 8 info3 rfl (by decide) (by omega) 0 (ok := fun _ => True) (okp := fun _ => True) rfl (fun _ hk => hk) trivial (of_decide_eq_true (by first | (with_reducible assumption) | assumption)) (Nat.le_trans (Nat.mul_le_mul_right _ (of_decide_eq_true (by first | (with_reducible assumption) | assumption) : a2.toNat ≤ 35184372088832)) (by omega)) (Below.refl _ _) (Nat.le_refl _) ?_; intro v116 w22 ho23 hb hg_ hnew_; clear hg_ hnew_
          (first | rw [← Ny115.out] at ho23 | (simp only [Int.reduceToNat] at ho23; rw [← Ny115.out] at ho23))
          replace HO_115002 := Aside0.mk (Kd.S_elder' (sk_ HO_115002) (Kd.R_base ho23) hb); have HO117 := Aside0.mk (Kd.R_lower ho23 (below_size (bl_ HB))); replace BK113 := Aside0.mk (blk_below (bk_ BK113) hb); replace BK114 := Aside0.mk (blk_below (bk_ BK114) hb); replace HB := Aside0.mk (below_step (bl_ HB) hb); clear hb ho23; obtain ⟨Ao25, co25, eo25⟩ := Kd.R_slice HO117.out
          (first | subst eo25 | (injection eo25 with f1_ f2_ f3_; have f4_ := f1_.symm; have f5_ := f3_.symm; clear f1_ f2_ f3_; subst f4_; subst f5_))
          refine hK.out _ _ ⟨(blk_cell BK114.out 0).trans rfl, (blk_cell BK114.out 1).trans rfl, (blk_cell BK114.out 2).trans rfl⟩ (fun hHeld => ?_); clear hK K; refine norm_ (a' := ?_) ?_ ?_; rotate_left
          ·show Act.put _ (some 43) _ = _
           simp only [Act.put, sa_, sb_, sc_, i64_w, i32_w]; rfl
          refine one_ (i := 4) (N := some 44) (mB 8 31) rfl rfl (one_of HT_.out (by kernel_rfl)) (by decide) (fun K hK => ?_); refine value_ (w1 := ?_) (v := ?_) (by rfl) rfl ?_ ?_; rotate_left 2
          ·go_simp
           constructor
           ·rfl
           ·rfl
          refine hK.out _ _ ⟨(blk_cell (blk_alloc BK114.out _) 0).trans rfl, (blk_cell (blk_alloc BK114.out _) 1).trans rfl, (blk_cell (blk_alloc BK114.out _) 2).trans rfl⟩ (fun hHeld => ?_); clear hK K; refine norm_ (a' := ?_) ?_ ?_; rotate_left
          ·show Act.put _ (some 44) _ = _
           simp only [Act.put, sa_, sb_, sc_, i64_w, i32_w]; rfl
          refine one_ (i := 5) (N := some 45) (mB 8 63) rfl rfl (one_of HT_.out (by kernel_rfl)) (by decide) (fun K hK => ?_); refine Kd.S_append_step (Kd.slice 3 (Kd.int .i64)) (w0 := w) w.heap.size (by rfl) (.tmp 41) (.tmp 44) 23 33 (.slice none 0 0) 24 rfl Try.underlying23 info33 rfl (by decide) (by omega) u115002 x115002_2 y115 [.slice Ao25 y115.length co25] (fun _ => True) (fun k_ => some k_ = (.slice Ao25 y115.length co25 : Value).ownBlock) rfl rfl ?aP (fun k_ hk_ => ((Kd.R_mono (ok' := fun k_ => ((fun _ => True)) k_ ∧ some k_ ≠ (u115002 : Value).ownBlock) (Kd.R_apart' (HO117.out) (Kd.S_typed HO_115002.out) (by decide)) (fun k_ hk => ⟨trivial, hk.2⟩))).1 k_ hk_.symm) ?aF ?aO ?aB ?aS ?aL ?_; (case aP => exact Kd.M_row (Kd.R_mono (Kd.R_tight rfl (Kd.R_mono (ok' := fun k_ => ((fun _ => True)) k_ ∧ some k_ ≠ (u115002 : Value).ownBlock) (Kd.R_apart' (HO117.out) (Kd.S_typed HO_115002.out) (by decide)) (fun k_ hk => ⟨trivial, hk.2⟩))) (fun _ h_ => h_))); (case aB => exact (bl_ HB)); (case aF => exact (fun _ _ => trivial)); (case aO => exact (by (with_reducible repeat (first | apply Kd.S_alloc | apply Kd.S_drewN | apply Kd.S_drew)); exact Kd.S_mono HO_115002.out (fun k_ hk => ⟨trivial, fun e_ => hk.2 e_⟩))); (case aS => exact (below_size (bl_ HB))); (case aL => have := LMc20.out; omega); intro v119 w24 ho hb hg hat; rw [← Ny118.out] at ho
          replace BK113 := Aside0.mk (blk_grown (g := gb113) (o := .cells #[.int .u64 0, .int .i64 0, .slice none 0 0] 25 (0, 0)) (bk_ BK113) hg (Kd.S_ne HO_115002.out BK113.out (by decide))); replace BK114 := Aside0.mk (blk_grown (g := gb114) (o := .cells #[.int .u64 a0, .int .i64 a3, u115002] 25 (0, 0)) (bk_ BK114) hg (Kd.S_ne HO_115002.out BK114.out (by decide))); replace HB := Aside0.mk (hb); have HO120 := Aside0.mk (ho); clear HO_115002 HO117; clear ho hb hg hat; obtain ⟨Ao26, co26, eo26⟩ := Kd.S_slice HO120.out
          (first | subst eo26 | (injection eo26 with f1_ f2_ f3_; have f4_ := f1_.symm; have f5_ := f3_.symm; clear f1_ f2_ f3_; subst f4_; subst f5_))
          refine hK.out _ _ ⟨(blk_cell BK114.out 0).trans rfl, (blk_cell BK114.out 1).trans rfl, (blk_cell BK114.out 2).trans rfl⟩ (fun hHeld => ?_); clear hK K; refine norm_ (a' := ?_) ?_ ?_; rotate_left
          ·show Act.put _ (some 45) _ = _
           simp only [Act.put, sa_, sb_, sc_, i64_w, i32_w]; rfl
          refine pw_ 6 46 (v := ?_) (a' := ?_) (mB 8 127) rfl rfl HT_ (by kernel_rfl) (fun _ _ _ h => h) ?_ ?_ ?_; rotate_left
          ·intro w'; go_simp; with_reducible rfl
          rotate_left
          ·simp only [Act.put, sa_, sb_, sc_, i64_w, i32_w]; rfl
          refine last_ (i := 7) (N := none) (mB 8 255) rfl rfl (one_of HT_.out (by kernel_rfl)) (by decide) (fun K hK => ?_); have hs27 : w24.cell? ⟨gb114, 2, none⟩ = some (u115002) := (blk_cell BK114.out 2).trans rfl; have hfs27 := blk_frozen BK114.out 2; have hns27_0 := NB113_114.out; have hms27_0 := NB114_113.out; refine skip_ (w1 := ?_) (by rfl) rfl ?_ ?_; rotate_left
          ·go_simp; rfl
          refine hK.out _ _ ?_; clear hK K; refine done_ (done_of HT_.out (by kernel_rfl)) ?_
          try go_wp2
          go_roundg k2
          case measure => have := HJ4.out; have := HK2.out; omega
          case rel => exact ⟨(wrap64 (x38_2 + 1)), (y118), (.slice Ao26 y118.length co26), (by first | rfl | (simp; done) | (simp [*]; done)), H', ⟨by have := HJ4.out; have := HK2.out; omega⟩, ⟨by (with_reducible repeat (first | apply Kd.S_alloc | apply Kd.S_drewN | apply Kd.S_drew)); exact Kd.S_mono (Kd.S_far (p := ⟨gb114, 2, none⟩) (Kd.S_types HO120.out BK114.out (by decide)) (fun _ hk => hk.2) (.slice Ao26 y118.length co26)) (fun _ hk => trivial)⟩, ⟨by (with_reducible repeat (first | refine blk_drewN ?_ _ | refine blk_drew ?_ | refine blk_alloc ?_ _)); refine blk_far ?_ NB113_114.out _; (with_reducible repeat (first | refine blk_drewN ?_ _ | refine blk_drew ?_ | refine blk_alloc ?_ _)); exact BK113.out⟩, ⟨by (with_reducible repeat (first | refine blk_drewN ?_ _ | refine blk_drew ?_ | refine blk_alloc ?_ _)); refine blk_put (cs := #[.int .u64 a0, .int .i64 a3, u115002]) ?_ 2 _ rfl; (with_reducible repeat (first | refine blk_drewN ?_ _ | refine blk_drew ?_ | refine blk_alloc ?_ _)); exact BK114.out⟩, ⟨bl_ HB⟩⟩
         ·rw [if_neg c20] at H; exact absurd H (by simp)
        ·rw [if_neg c19] at H; exact absurd H (by simp)
       ·rw [if_neg c18] at H; exact absurd H (by simp)
      ·rw [if_neg c17] at H; have c17b0 : decide (x38_2 < a1) = false := decide_eq_false c17; clear c17; simp only [Option.some.injEq, Prod.mk.injEq] at H; obtain ⟨rfl, rfl, rfl, rfl⟩ := H; have hnb28 := NB114_113.out; have hnc28 := NB113_114.out; have hcz29_0 : wr.cell? ⟨gb114, 0, none⟩ = some (.int .u64 a0) := (blk_cell BK114.out 0).trans rfl; have hcz29_1 : wr.cell? ⟨gb114, 1, none⟩ = some (.int .i64 a3) := (blk_cell BK114.out 1).trans rfl; have hcz29_2 : wr.cell? ⟨gb114, 2, none⟩ = some (u115002) := (blk_cell BK114.out 2).trans rfl; have hfz29_0 := blk_frozen BK114.out 0; have hfz29_1 := blk_frozen BK114.out 1; have hfz29_2 := blk_frozen BK114.out 2; have hcz30_0 : wr.cell? ⟨gb113, 0, none⟩ = some (.int .u64 0) := (blk_cell BK113.out 0).trans rfl; have hcz30_1 : wr.cell? ⟨gb113, 1, none⟩ = some (.int .i64 0) := (blk_cell BK113.out 1).trans rfl; have hcz30_2 : wr.cell? ⟨gb113, 2, none⟩ = some (.slice none 0 0) := (blk_cell BK113.out 2).trans rfl; have hfz30_0 := blk_frozen BK113.out 0; have hfz30_1 := blk_frozen BK113.out 1; have hfz30_2 := blk_frozen BK113.out 2; obtain ⟨Ao31, co31, eo31⟩ := Kd.S_slice HO_115002.out; subst eo31
       go_wp2
       refine bodyPost_ret (results_ct rfl _ _ gb113 25 #[.int .u64 a0, .int .i64 a3, .slice Ao31 x115002_2.length co31] (0, 0) _ rfl (by (with_reducible repeat (first | refine blk_drewN ?_ _ | refine blk_drew ?_ | refine blk_alloc ?_ _)); refine blk_put (cs := #[.int .u64 a0, .int .i64 a3, .slice none 0 0]) ?_ 2 _ rfl; (with_reducible repeat (first | refine blk_drewN ?_ _ | refine blk_drew ?_ | refine blk_alloc ?_ _)); refine blk_put (cs := #[.int .u64 a0, .int .i64 0, .slice none 0 0]) ?_ 1 _ rfl; (with_reducible repeat (first | refine blk_drewN ?_ _ | refine blk_drew ?_ | refine blk_alloc ?_ _)); refine blk_put (cs := #[.int .u64 0, .int .i64 0, .slice none 0 0]) ?_ 0 _ rfl; (with_reducible repeat (first | refine blk_drewN ?_ _ | refine blk_drew ?_ | refine blk_alloc ?_ _)); exact BK113.out) Try.underlying25 rfl (by kernel_rfl)) rfl ?_; exact ⟨_, by first | rfl | (simp [errW_none, errW_some] <;> rfl) | (simp [*, errW_none, errW_some] <;> rfl), by (with_reducible repeat (first | apply Kd.S_alloc | apply Kd.S_drewN | apply Kd.S_drew)); exact Kd.S_mono (Kd.S_far (p := ⟨gb113, 2, none⟩) (Kd.S_far (p := ⟨gb113, 1, none⟩) (Kd.S_far (p := ⟨gb113, 0, none⟩) (Kd.S_types HO_115002.out BK113.out (by decide)) (fun _ hk => hk.2) (.int .u64 a0)) (fun _ hk => hk.2) (.int .i64 a3)) (fun _ hk => hk.2) (.slice Ao31 x115002_2.length co31)) (fun _ hk => trivial), bl_ HB⟩

/-! ### slices_Min_int_int: function 29 -/
def slices_Min_int_int.l0 : Nat → List Int → Int → Int → Option (Int)
  | 0, _, _, _ => none
  | k + 1, x0, x3, x4 => if x4 < (x0.length : Int) then (if 0 ≤ x4 then (slices_Min_int_int.l0 k x0 (mn x3 (rd x0 x4)) (wrap64 (x4 + 1))) else (none)) else (some x3)
def slices_Min_int_int.f (k : Nat) (l0 : List Int) : Option (Int) := if 0 < (l0.length : Int) then (slices_Min_int_int.l0 k l0 (rd l0 0) 1) else (none)
theorem slices_Min_int_int.mono_l : ∀ k, (∀ y0 y1 y2, LeO (slices_Min_int_int.l0 k y0 y1 y2) (slices_Min_int_int.l0 (k + 1) y0 y1 y2))
  | 0 => fun _ _ _ r h => by simp [slices_Min_int_int.l0] at h
  | k + 1 => by
    have ih0 := slices_Min_int_int.mono_l k
    · intro y0 y1 y2
      unfold slices_Min_int_int.l0
      repeat' first
      | (with_reducible exact ih0 _ _ _)
      | (with_reducible exact LeO.refl _)
      | (with_reducible exact LeO.none _)
      | (with_reducible refine LeO.ite ?_ ?_)
      | (with_reducible refine LeO.bind ?_ (fun _ => ?_))
      | exact ih0 _ _ _
      | exact LeO.none _
      | refine LeO.ite ?_ ?_
      | refine LeO.bind ?_ (fun _ => ?_)
theorem slices_Min_int_int.mono : ∀ a0 k, LeO (slices_Min_int_int.f k a0) (slices_Min_int_int.f (k + 1) a0) := by
  intro a0 k
  have ih0 := slices_Min_int_int.mono_l k
  unfold slices_Min_int_int.f
  repeat' first
      | (with_reducible exact ih0 _ _ _)
      | (with_reducible exact LeO.refl _)
      | (with_reducible exact LeO.none _)
      | (with_reducible refine LeO.ite ?_ ?_)
      | (with_reducible refine LeO.bind ?_ (fun _ => ?_))
      | exact ih0 _ _ _
      | exact LeO.none _
      | refine LeO.ite ?_ ?_
      | refine LeO.bind ?_ (fun _ => ?_)
set_option maxHeartbeats 80000000 in
set_option maxRecDepth 100000 in
theorem slices_Min_int_int.calls (k : Nat) (A0 : Option Addr) (c0 : Nat) (l0 : List Int) (r : Int) (w : World) (hr0 : Kd.C (Kd.int .i64) w A0 l0.length l0) (hc0 : l0.length ≤ c0) (h : slices_Min_int_int.f k l0 = some r) :
    Calls Try.prog 29 #[.slice A0 l0.length c0] w fun e w' => e = .returned (.int .i64 r) ∧ Below w.heap.size w w' := by
 have HR0 := Aside0.mk hr0; have HC0 := Aside0.mk hc0; clear hr0 hc0; have HB := Aside0.mk (Below.refl w.heap.size w); have H : (if 0 < (l0.length : Int) then (slices_Min_int_int.l0 k l0 (rd l0 0) 1) else (none)) = some r := h; clear h
 by_cases c2 : 0 < (l0.length : Int)
 ·rw [if_pos c2] at H; have c2b0 : decide (0 < (l0.length : Int)) = true := decide_eq_true c2; have c2b1 : decide (0 < l0.length) = true := decide_eq_true (by omega); have c2b2 : decide ((l0.length : Int) < 1) = false := decide_eq_false (by omega); have c2b3 : decide (l0.length < 1) = false := decide_eq_false (by omega)
  have c2b4 : ¬ (l0 = []) := fun h_ => by rw [h_] at c2; exact absurd c2 (by decide)
  clear c2; have H' := Aside0.mk H; clear H; have p121 : 0 ≤ (0 : Int) := (by omega); have q121 : 0 < (l0.length : Int) := of_decide_eq_true (by first | (with_reducible assumption) | assumption); obtain ⟨ad121, e121, hx121_0⟩ := Kd.at_int HR0.out 0 p121 q121
  cases e121; have qi121 : (0 < l0.length) = True := eq_true (by omega); (try rw [show ((0 : Int)).toNat = 0 from rfl] at hx121_0); (try rw [Addr.add_zero'] at hx121_0); replace p121 := eq_true p121; replace q121 := eq_true q121
  go_enter Try.func29, Try.ntmps29
  go_wp2
  go_loopg [3, 4] k (fun kq v3 v4 w' => ∃ (x3_1 : Int) (x4_1 : Int), v3 = .int .i64 x3_1 ∧ v4 = .int .i64 x4_1 ∧ Aside0 (slices_Min_int_int.l0 kq l0 x3_1 x4_1 = some r) ∧ Aside0 (kq ≤ k) ∧ Aside0 (Below w.heap.size w w'))
  case atStart => exact ⟨(rd l0 0), (1), (by first | rfl | (simp; done) | (simp [*]; done)), (by first | rfl | (simp; done) | (simp [*]; done)), H', ⟨Nat.le_refl _⟩, ⟨bl_ HB⟩⟩
  case round =>
   clear H'; (try clear p1); (try clear q1); (try clear hx1); (try clear qi1); (try clear c2); (try clear c2b0); (try clear c2b1); (try clear p2); (try clear hx121_0); (try clear p121); (try clear q121); obtain ⟨x3_1, x4_1, rfl, rfl, HA, HK1, HB⟩ := hrel
   cases gk with
   | zero => exact absurd HA.out (by simp [slices_Min_int_int.l0])
   | succ k1 =>
    have H := HA.out; clear HA; simp only [slices_Min_int_int.l0] at H
    by_cases c3 : x4_1 < (l0.length : Int)
    ·rw [if_pos c3] at H; have c3b0 : decide (x4_1 < (l0.length : Int)) = true := decide_eq_true c3; clear c3
     by_cases c4 : 0 ≤ x4_1
     ·rw [if_pos c4] at H; have c4b0 : decide (0 ≤ x4_1) = true := decide_eq_true c4; clear c4; obtain ⟨ji5, hji5⟩ : ∃ j_ : Int, (mn x3_1 (rd l0 x4_1)) = j_ := ⟨_, rfl⟩
      replace H : (slices_Min_int_int.l0 k1 l0 ji5 (wrap64 (x4_1 + 1))) = some r := by first | (rw [hji5] at H; exact H) | (simp only [hji5] at H ⊢; exact H)
      have hji5_ : (if (rd l0 x4_1) < x3_1 then (rd l0 x4_1) else x3_1) = ji5 := hji5; have H' := Aside0.mk H; clear H; have p122 : 0 ≤ (x4_1 : Int) := of_decide_eq_true (by first | (with_reducible assumption) | assumption); have q122 : x4_1 < (l0.length : Int) := of_decide_eq_true (by first | (with_reducible assumption) | assumption); obtain ⟨ad122, e122, hx122_0⟩ := Kd.at_int HR0.out x4_1 p122 q122; obtain rfl : ad121 = ad122 := (by injection e122); replace hx122_0 := (HB.out.cell (World.block_lt_of_cell? w _ hx122_0)).trans hx122_0; replace p122 := eq_true p122; replace q122 := eq_true q122
      go_wp2
      go_roundg k1
      case measure => have := HK1.out; omega
      case rel => exact ⟨(ji5), (wrap64 (x4_1 + 1)), (by first | rfl | (simp; done) | (simp only [← hji5] <;> (first | rfl | simp)) | (simp [*]; done)), (by first | rfl | (simp; done) | (simp [*]; done)), H', ⟨by have := HK1.out; omega⟩, ⟨bl_ HB⟩⟩
     ·rw [if_neg c4] at H; exact absurd H (by simp)
    ·rw [if_neg c3] at H; have c3b0 : decide (x4_1 < (l0.length : Int)) = false := decide_eq_false c3; clear c3; obtain rfl := Option.some.inj H
     go_wp2
     go_ret; exact ⟨by first | rfl | (simp [errW_none, errW_some] <;> rfl) | (simp [*, errW_none, errW_some] <;> rfl), bl_ HB⟩
 ·rw [if_neg c2] at H; exact absurd H (by simp)

/-! ### slices_Max_int_int: function 30 -/
def slices_Max_int_int.l0 : Nat → List Int → Int → Int → Option (Int)
  | 0, _, _, _ => none
  | k + 1, x0, x3, x4 => if x4 < (x0.length : Int) then (if 0 ≤ x4 then (slices_Max_int_int.l0 k x0 (mx x3 (rd x0 x4)) (wrap64 (x4 + 1))) else (none)) else (some x3)
def slices_Max_int_int.f (k : Nat) (l0 : List Int) : Option (Int) := if 0 < (l0.length : Int) then (slices_Max_int_int.l0 k l0 (rd l0 0) 1) else (none)
theorem slices_Max_int_int.mono_l : ∀ k, (∀ y0 y1 y2, LeO (slices_Max_int_int.l0 k y0 y1 y2) (slices_Max_int_int.l0 (k + 1) y0 y1 y2))
  | 0 => fun _ _ _ r h => by simp [slices_Max_int_int.l0] at h
  | k + 1 => by
    have ih0 := slices_Max_int_int.mono_l k
    · intro y0 y1 y2
      unfold slices_Max_int_int.l0
      repeat' first
      | (with_reducible exact ih0 _ _ _)
      | (with_reducible exact LeO.refl _)
      | (with_reducible exact LeO.none _)
      | (with_reducible refine LeO.ite ?_ ?_)
      | (with_reducible refine LeO.bind ?_ (fun _ => ?_))
      | exact ih0 _ _ _
      | exact LeO.none _
      | refine LeO.ite ?_ ?_
      | refine LeO.bind ?_ (fun _ => ?_)
theorem slices_Max_int_int.mono : ∀ a0 k, LeO (slices_Max_int_int.f k a0) (slices_Max_int_int.f (k + 1) a0) := by
  intro a0 k
  have ih0 := slices_Max_int_int.mono_l k
  unfold slices_Max_int_int.f
  repeat' first
      | (with_reducible exact ih0 _ _ _)
      | (with_reducible exact LeO.refl _)
      | (with_reducible exact LeO.none _)
      | (with_reducible refine LeO.ite ?_ ?_)
      | (with_reducible refine LeO.bind ?_ (fun _ => ?_))
      | exact ih0 _ _ _
      | exact LeO.none _
      | refine LeO.ite ?_ ?_
      | refine LeO.bind ?_ (fun _ => ?_)
set_option maxHeartbeats 80000000 in
set_option maxRecDepth 100000 in
theorem slices_Max_int_int.calls (k : Nat) (A0 : Option Addr) (c0 : Nat) (l0 : List Int) (r : Int) (w : World) (hr0 : Kd.C (Kd.int .i64) w A0 l0.length l0) (hc0 : l0.length ≤ c0) (h : slices_Max_int_int.f k l0 = some r) :
    Calls Try.prog 30 #[.slice A0 l0.length c0] w fun e w' => e = .returned (.int .i64 r) ∧ Below w.heap.size w w' := by
 have HR0 := Aside0.mk hr0; have HC0 := Aside0.mk hc0; clear hr0 hc0; have HB := Aside0.mk (Below.refl w.heap.size w); have H : (if 0 < (l0.length : Int) then (slices_Max_int_int.l0 k l0 (rd l0 0) 1) else (none)) = some r := h; clear h
 by_cases c2 : 0 < (l0.length : Int)
 ·rw [if_pos c2] at H; have c2b0 : decide (0 < (l0.length : Int)) = true := decide_eq_true c2; have c2b1 : decide (0 < l0.length) = true := decide_eq_true (by omega); have c2b2 : decide ((l0.length : Int) < 1) = false := decide_eq_false (by omega); have c2b3 : decide (l0.length < 1) = false := decide_eq_false (by omega)
  have c2b4 : ¬ (l0 = []) := fun h_ => by rw [h_] at c2; exact absurd c2 (by decide)
  clear c2; have H' := Aside0.mk H; clear H; have p123 : 0 ≤ (0 : Int) := (by omega); have q123 : 0 < (l0.length : Int) := of_decide_eq_true (by first | (with_reducible assumption) | assumption); obtain ⟨ad123, e123, hx123_0⟩ := Kd.at_int HR0.out 0 p123 q123
  cases e123; have qi123 : (0 < l0.length) = True := eq_true (by omega); (try rw [show ((0 : Int)).toNat = 0 from rfl] at hx123_0); (try rw [Addr.add_zero'] at hx123_0); replace p123 := eq_true p123; replace q123 := eq_true q123
  go_enter Try.func30, Try.ntmps30
  go_wp2
  go_loopg [3, 4] k (fun kq v3 v4 w' => ∃ (x3_1 : Int) (x4_1 : Int), v3 = .int .i64 x3_1 ∧ v4 = .int .i64 x4_1 ∧ Aside0 (slices_Max_int_int.l0 kq l0 x3_1 x4_1 = some r) ∧ Aside0 (kq ≤ k) ∧ Aside0 (Below w.heap.size w w'))
  case atStart => exact ⟨(rd l0 0), (1), (by first | rfl | (simp; done) | (simp [*]; done)), (by first | rfl | (simp; done) | (simp [*]; done)), H', ⟨Nat.le_refl _⟩, ⟨bl_ HB⟩⟩
  case round =>
   clear H'; (try clear p1); (try clear q1); (try clear hx1); (try clear qi1); (try clear c2); (try clear c2b0); (try clear c2b1); (try clear p2); (try clear hx123_0); (try clear p123); (try clear q123); obtain ⟨x3_1, x4_1, rfl, rfl, HA, HK1, HB⟩ := hrel
   cases gk with
   | zero => exact absurd HA.out (by simp [slices_Max_int_int.l0])
   | succ k1 =>
    have H := HA.out; clear HA; simp only [slices_Max_int_int.l0] at H
    by_cases c3 : x4_1 < (l0.length : Int)
    ·rw [if_pos c3] at H; have c3b0 : decide (x4_1 < (l0.length : Int)) = true := decide_eq_true c3; clear c3
     by_cases c4 : 0 ≤ x4_1
     ·rw [if_pos c4] at H; have c4b0 : decide (0 ≤ x4_1) = true := decide_eq_true c4; clear c4; obtain ⟨ji5, hji5⟩ : ∃ j_ : Int, (mx x3_1 (rd l0 x4_1)) = j_ := ⟨_, rfl⟩
      replace H : (slices_Max_int_int.l0 k1 l0 ji5 (wrap64 (x4_1 + 1))) = some r := by first | (rw [hji5] at H; exact H) | (simp only [hji5] at H ⊢; exact H)
      have hji5_ : (if x3_1 < (rd l0 x4_1) then (rd l0 x4_1) else x3_1) = ji5 := hji5; have H' := Aside0.mk H; clear H; have p124 : 0 ≤ (x4_1 : Int) := of_decide_eq_true (by first | (with_reducible assumption) | assumption); have q124 : x4_1 < (l0.length : Int) := of_decide_eq_true (by first | (with_reducible assumption) | assumption); obtain ⟨ad124, e124, hx124_0⟩ := Kd.at_int HR0.out x4_1 p124 q124; obtain rfl : ad123 = ad124 := (by injection e124); replace hx124_0 := (HB.out.cell (World.block_lt_of_cell? w _ hx124_0)).trans hx124_0; replace p124 := eq_true p124; replace q124 := eq_true q124
      go_wp2
      go_roundg k1
      case measure => have := HK1.out; omega
      case rel => exact ⟨(ji5), (wrap64 (x4_1 + 1)), (by first | rfl | (simp; done) | (simp only [← hji5] <;> (first | rfl | simp)) | (simp [*]; done)), (by first | rfl | (simp; done) | (simp [*]; done)), H', ⟨by have := HK1.out; omega⟩, ⟨bl_ HB⟩⟩
     ·rw [if_neg c4] at H; exact absurd H (by simp)
    ·rw [if_neg c3] at H; have c3b0 : decide (x4_1 < (l0.length : Int)) = false := decide_eq_false c3; clear c3; obtain rfl := Option.some.inj H
     go_wp2
     go_ret; exact ⟨by first | rfl | (simp [errW_none, errW_some] <;> rfl) | (simp [*, errW_none, errW_some] <;> rfl), bl_ HB⟩
 ·rw [if_neg c2] at H; exact absurd H (by simp)

end Go.Proofs.Yteendbdmkijpkaa.PLeastMerges
