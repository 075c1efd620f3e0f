/- The functions that a law uses, each as a plain function, with the proof that a call of the Go function comes to its answer. Condition of each: the arguments read as the data that it names, and the plain function has an answer. Written by a program of this session (standin.py). -/
import Derived.Test.YteakbghjhckoeaaDoorPBitmapGrowsx0
import Derived.Test.YteakbghjhckoeaaDoorShort
import Derived.Lib.SliceRun
import Derived.Shelf.Abstract
import Derived.Test.YteakbghjhckoeaaDoorPress
namespace Go.Proofs.YteakbghjhckoeaaDoor.PBitmapGrows
open Go.RowKit Go.Proofs.YteakbghjhckoeaaDoorW.PrintWords Go.Proofs.YteakbghjhckoeaaDoorW.PrintLast Go.Proofs.YteakbghjhckoeaaDoorW.PrintMore Go.Proofs.YteakbghjhckoeaaDoor.Short Go.Proofs.YteakbghjhckoeaaDoor.Press
attribute [local go_sem] max2_int min2_int max_two min_two max_three min_three max_four min_four   -- for this text's walks alone
set_option linter.unusedVariables false
set_option linter.unusedSimpArgs false

/-! ### rillmeterref13_Equal: function 9 -/
mutual
def rillmeterref13_Equal.j0 : Nat → Bool → Int → List (List Bool) → Int → List (List Bool) → Option (Bool)
  | 0, _, _, _, _, _ => none
  | k + 1, x20, x110000, x110001, x111000, x111001 => if x20 = true then (some false) else (rillmeterref13_Equal.l0 k 0 x110000 x110001 x111000 x111001)
def rillmeterref13_Equal.l0 : Nat → Int → Int → List (List Bool) → Int → List (List Bool) → Option (Bool)
  | 0, _, _, _, _, _ => none
  | k + 1, x5, x110000, x110001, x111000, x111001 => if x5 < (x110001.length : Int) then (if 0 ≤ x5 then (if x5 < (x111001.length : Int) then (if ((rd_L1 x110001 x5).length : Int) = ((rd_L1 x111001 x5).length : Int) then (rillmeterref13_Equal.l1 k x5 0 x110000 x110001 x111000 x111001) else (some false)) else (none)) else (none)) else (some true)
def rillmeterref13_Equal.l1 : Nat → Int → Int → Int → List (List Bool) → Int → List (List Bool) → Option (Bool)
  | 0, _, _, _, _, _, _ => none
  | k + 1, x5, x6, x110000, x110001, x111000, x111001 => if 0 ≤ x5 then (if x5 < (x110001.length : Int) then (if x6 < ((rd_L1 x110001 x5).length : Int) then (if 0 ≤ x6 then (if x5 < (x111001.length : Int) then (if x6 < ((rd_L1 x111001 x5).length : Int) then (if ((rdOf false (rd_L1 x110001 x5) x6) != (rdOf false (rd_L1 x111001 x5) x6)) = true then (some false) else (rillmeterref13_Equal.l1 k x5 (wrap64 (x6 + 1)) x110000 x110001 x111000 x111001)) else (none)) else (none)) else (none)) else (rillmeterref13_Equal.l0 k (wrap64 (x5 + 1)) x110000 x110001 x111000 x111001)) else (none)) else (none)
end
def rillmeterref13_Equal.f (k : Nat) (a0_0 : Int) (l0_1 : List (List Bool)) (a1_0 : Int) (l1_1 : List (List Bool)) : Option (Bool) := if a0_0 = a1_0 then (rillmeterref13_Equal.j0 k ((l0_1.length : Int) != (l1_1.length : Int)) a0_0 l0_1 a1_0 l1_1) else (rillmeterref13_Equal.j0 k true a0_0 l0_1 a1_0 l1_1)
theorem rillmeterref13_Equal.mono_l : ∀ k, (∀ y0 y1 y2 y3 y4, LeO (rillmeterref13_Equal.j0 k y0 y1 y2 y3 y4) (rillmeterref13_Equal.j0 (k + 1) y0 y1 y2 y3 y4)) ∧ (∀ y0 y1 y2 y3 y4, LeO (rillmeterref13_Equal.l0 k y0 y1 y2 y3 y4) (rillmeterref13_Equal.l0 (k + 1) y0 y1 y2 y3 y4)) ∧ (∀ y0 y1 y2 y3 y4 y5, LeO (rillmeterref13_Equal.l1 k y0 y1 y2 y3 y4 y5) (rillmeterref13_Equal.l1 (k + 1) y0 y1 y2 y3 y4 y5))
  | 0 => ⟨fun _ _ _ _ _ r h => by simp [rillmeterref13_Equal.j0] at h, fun _ _ _ _ _ r h => by simp [rillmeterref13_Equal.l0] at h, fun _ _ _ _ _ _ r h => by simp [rillmeterref13_Equal.l1] at h⟩
  | k + 1 => by
    obtain ⟨ih0, ih1, ih2⟩ := rillmeterref13_Equal.mono_l k
    refine ⟨?_, ?_, ?_⟩
    · intro y0 y1 y2 y3 y4
      unfold rillmeterref13_Equal.j0
      repeat' first
      | (with_reducible exact ih0 _ _ _ _ _)
      | (with_reducible exact ih1 _ _ _ _ _)
      | (with_reducible exact ih2 _ _ _ _ _ _)
      | (with_reducible exact LeO.refl _)
      | (with_reducible exact LeO.none _)
      | (with_reducible refine LeO.ite ?_ ?_)
      | (with_reducible refine LeO.bind ?_ (fun _ => ?_))
      | exact ih0 _ _ _ _ _
      | exact ih1 _ _ _ _ _
      | exact ih2 _ _ _ _ _ _
      | exact LeO.none _
      | refine LeO.ite ?_ ?_
      | refine LeO.bind ?_ (fun _ => ?_)
    · intro y0 y1 y2 y3 y4
      unfold rillmeterref13_Equal.l0
      repeat' first
      | (with_reducible exact ih0 _ _ _ _ _)
      | (with_reducible exact ih1 _ _ _ _ _)
      | (with_reducible exact ih2 _ _ _ _ _ _)
      | (with_reducible exact LeO.refl _)
      | (with_reducible exact LeO.none _)
      | (with_reducible refine LeO.ite ?_ ?_)
      | (with_reducible refine LeO.bind ?_ (fun _ => ?_))
      | exact ih0 _ _ _ _ _
      | exact ih1 _ _ _ _ _
      | exact ih2 _ _ _ _ _ _
      | exact LeO.none _
      | refine LeO.ite ?_ ?_
      | refine LeO.bind ?_ (fun _ => ?_)
    · intro y0 y1 y2 y3 y4 y5
      unfold rillmeterref13_Equal.l1
      repeat' first
      | (with_reducible exact ih0 _ _ _ _ _)
      | (with_reducible exact ih1 _ _ _ _ _)
      | (with_reducible exact ih2 _ _ _ _ _ _)
      | (with_reducible exact LeO.refl _)
      | (with_reducible exact LeO.none _)
      | (with_reducible refine LeO.ite ?_ ?_)
      | (with_reducible refine LeO.bind ?_ (fun _ => ?_))
      | exact ih0 _ _ _ _ _
      | exact ih1 _ _ _ _ _
      | exact ih2 _ _ _ _ _ _
      | exact LeO.none _
      | refine LeO.ite ?_ ?_
      | refine LeO.bind ?_ (fun _ => ?_)
theorem rillmeterref13_Equal.mono : ∀ a0 a1 a2 a3 k, LeO (rillmeterref13_Equal.f k a0 a1 a2 a3) (rillmeterref13_Equal.f (k + 1) a0 a1 a2 a3) := by
  intro a0 a1 a2 a3 k
  obtain ⟨ih0, ih1, ih2⟩ := rillmeterref13_Equal.mono_l k
  unfold rillmeterref13_Equal.f
  repeat' first
      | (with_reducible exact ih0 _ _ _ _ _)
      | (with_reducible exact ih1 _ _ _ _ _)
      | (with_reducible exact ih2 _ _ _ _ _ _)
      | (with_reducible exact LeO.refl _)
      | (with_reducible exact LeO.none _)
      | (with_reducible refine LeO.ite ?_ ?_)
      | (with_reducible refine LeO.bind ?_ (fun _ => ?_))
      | exact ih0 _ _ _ _ _
      | exact ih1 _ _ _ _ _
      | exact ih2 _ _ _ _ _ _
      | exact LeO.none _
      | refine LeO.ite ?_ ?_
      | refine LeO.bind ?_ (fun _ => ?_)
set_option maxHeartbeats 80000000 in
set_option maxRecDepth 100000 in
theorem rillmeterref13_Equal.calls (k : Nat) (a0_0 : Int) (A0_1 : Option Addr) (c0_1 : Nat) (l0_1 : List (List Bool)) (a1_0 : Int) (A1_1 : Option Addr) (c1_1 : Nat) (l1_1 : List (List Bool)) (r : Bool) (w : World) (hr0_1 : Kd.C (Kd.slice 4 Kd.bool) w A0_1 l0_1.length l0_1) (hc0_1 : l0_1.length ≤ c0_1) (hr1_1 : Kd.C (Kd.slice 4 Kd.bool) w A1_1 l1_1.length l1_1) (hc1_1 : l1_1.length ≤ c1_1) (h : rillmeterref13_Equal.f k a0_0 l0_1 a1_0 l1_1 = some r) :
    Calls Tryd.prog 9 #[.agg #[.int .u64 a0_0, .slice A0_1 l0_1.length c0_1], .agg #[.int .u64 a1_0, .slice A1_1 l1_1.length c1_1]] w fun e w' => e = .returned (.bool r) ∧ Below w.heap.size w w' := by
 have hu30 := Tryd.underlying30; have HR0_1 := Aside0.mk hr0_1; have HC0_1 := Aside0.mk hc0_1; clear hr0_1 hc0_1; have HR1_1 := Aside0.mk hr1_1; have HC1_1 := Aside0.mk hc1_1; clear hr1_1 hc1_1; have HB := Aside0.mk (Below.refl w.heap.size w); have H : (if a0_0 = a1_0 then (rillmeterref13_Equal.j0 k ((l0_1.length : Int) != (l1_1.length : Int)) a0_0 l0_1 a1_0 l1_1) else (rillmeterref13_Equal.j0 k true a0_0 l0_1 a1_0 l1_1)) = some r := h; clear h; have HC3 := Aside0.mk H; clear H
 go_enter Tryd.func9, Tryd.ntmps9
 go_upto_region 1 with (first | ((with_reducible refine gate_dst (N := 2) rfl ?_); (try (refine gate_guard (by rfl) ?_; dsimp only)); refine box_event ?hg (N := 2) ?hd (cs := #[.int .u64 a0_0, .slice A0_1 l0_1.length c0_1]) (t := 30) ?hr ?_; (case hd => rfl); (case hg => rfl); (case hr => first | (go_simp; done) | (go_simp; rfl)); intro gb109 hg w4 hbox hb; have n0_ := Aside0.mk (below_step (bl_ HB) hb); have n1_ := Aside0.mk (hbox); have n2_ := Aside0.mk (gl_ hg HB); have n3_ := Aside0.mk (gl_ hg HB); clear HB; have HB := n0_; have BK109 := n1_; have GW109 := n2_; have GE109 := n3_; clear n0_ n1_ n2_ n3_; clear hb hbox hg) | ((with_reducible refine gate_dst (N := 3) rfl ?_); (try (refine gate_guard (by rfl) ?_; dsimp only)); refine box_event ?hg (N := 3) ?hd (cs := #[.int .u64 a1_0, .slice A1_1 l1_1.length c1_1]) (t := 30) ?hr ?_; (case hd => rfl); (case hg => rfl); (case hr => first | (go_simp; done) | (go_simp; rfl)); intro gb110 hg w5 hbox hb; have n0_ := Aside0.mk (blk_below (bk_ BK109) hb); have n1_ := Aside0.mk (below_step (bl_ HB) hb); have n2_ := Aside0.mk (hbox); have n3_ := Aside0.mk (gl_ hg HB); have n4_ := Aside0.mk (gl_ hg HB); have n5_ := Aside0.mk (nl_ hg BK109); have n6_ := Aside0.mk (ng_ hg BK109); clear BK109; clear HB; have BK109 := n0_; have HB := n1_; have BK110 := n2_; have GW110 := n3_; have GE110 := n4_; have NB109_110 := n5_; have NB110_109 := n6_; clear n0_ n1_ n2_ n3_ n4_ n5_ n6_; clear hb hbox hg))
 repeat (go_quiet (first | ((with_reducible refine gate_dst (N := 2) rfl ?_); (try (refine gate_guard (by rfl) ?_; dsimp only)); refine box_event ?hg (N := 2) ?hd (cs := #[.int .u64 a0_0, .slice A0_1 l0_1.length c0_1]) (t := 30) ?hr ?_; (case hd => rfl); (case hg => rfl); (case hr => first | (go_simp; done) | (go_simp; rfl)); intro gb109 hg w4 hbox hb; have n0_ := Aside0.mk (below_step (bl_ HB) hb); have n1_ := Aside0.mk (hbox); have n2_ := Aside0.mk (gl_ hg HB); have n3_ := Aside0.mk (gl_ hg HB); clear HB; have HB := n0_; have BK109 := n1_; have GW109 := n2_; have GE109 := n3_; clear n0_ n1_ n2_ n3_; clear hb hbox hg) | ((with_reducible refine gate_dst (N := 3) rfl ?_); (try (refine gate_guard (by rfl) ?_; dsimp only)); refine box_event ?hg (N := 3) ?hd (cs := #[.int .u64 a1_0, .slice A1_1 l1_1.length c1_1]) (t := 30) ?hr ?_; (case hd => rfl); (case hg => rfl); (case hr => first | (go_simp; done) | (go_simp; rfl)); intro gb110 hg w5 hbox hb; have n0_ := Aside0.mk (blk_below (bk_ BK109) hb); have n1_ := Aside0.mk (below_step (bl_ HB) hb); have n2_ := Aside0.mk (hbox); have n3_ := Aside0.mk (gl_ hg HB); have n4_ := Aside0.mk (gl_ hg HB); have n5_ := Aside0.mk (nl_ hg BK109); have n6_ := Aside0.mk (ng_ hg BK109); clear BK109; clear HB; have BK109 := n0_; have HB := n1_; have BK110 := n2_; have GW110 := n3_; have GE110 := n4_; have NB109_110 := n5_; have NB110_109 := n6_; clear n0_ n1_ n2_ n3_ n4_ n5_ n6_; clear hb hbox hg)); go_upto_region 1 with (first | ((with_reducible refine gate_dst (N := 2) rfl ?_); (try (refine gate_guard (by rfl) ?_; dsimp only)); refine box_event ?hg (N := 2) ?hd (cs := #[.int .u64 a0_0, .slice A0_1 l0_1.length c0_1]) (t := 30) ?hr ?_; (case hd => rfl); (case hg => rfl); (case hr => first | (go_simp; done) | (go_simp; rfl)); intro gb109 hg w4 hbox hb; have n0_ := Aside0.mk (below_step (bl_ HB) hb); have n1_ := Aside0.mk (hbox); have n2_ := Aside0.mk (gl_ hg HB); have n3_ := Aside0.mk (gl_ hg HB); clear HB; have HB := n0_; have BK109 := n1_; have GW109 := n2_; have GE109 := n3_; clear n0_ n1_ n2_ n3_; clear hb hbox hg) | ((with_reducible refine gate_dst (N := 3) rfl ?_); (try (refine gate_guard (by rfl) ?_; dsimp only)); refine box_event ?hg (N := 3) ?hd (cs := #[.int .u64 a1_0, .slice A1_1 l1_1.length c1_1]) (t := 30) ?hr ?_; (case hd => rfl); (case hg => rfl); (case hr => first | (go_simp; done) | (go_simp; rfl)); intro gb110 hg w5 hbox hb; have n0_ := Aside0.mk (blk_below (bk_ BK109) hb); have n1_ := Aside0.mk (below_step (bl_ HB) hb); have n2_ := Aside0.mk (hbox); have n3_ := Aside0.mk (gl_ hg HB); have n4_ := Aside0.mk (gl_ hg HB); have n5_ := Aside0.mk (nl_ hg BK109); have n6_ := Aside0.mk (ng_ hg BK109); clear BK109; clear HB; have BK109 := n0_; have HB := n1_; have BK110 := n2_; have GW110 := n3_; have GE110 := n4_; have NB109_110 := n5_; have NB110_109 := n6_; clear n0_ n1_ n2_ n3_ n4_ n5_ n6_; clear hb hbox hg)))
 (try simp only [Act.put, sa_, sb_, sc_])
 go_cut [20] (fun v20 wc => ∃ (kq : Nat) (x20_2 : Bool), v20 = .bool x20_2 ∧ Aside0 (rillmeterref13_Equal.j0 kq x20_2 a0_0 l0_1 a1_0 l1_1 = some r) ∧ Aside0 (kq ≤ k) ∧ Aside0 (wc.heap[gb109]? = some (.cells #[.int .u64 a0_0, (.slice A0_1 l0_1.length c0_1)] 30 (0, 0))) ∧ Aside0 (wc.heap[gb110]? = some (.cells #[.int .u64 a1_0, (.slice A1_1 l1_1.length c1_1)] 30 (0, 0))) ∧ Aside0 (Below w.heap.size w wc))
 case first =>
  have H := HC3.out; clear HC3
  by_cases c6 : a0_0 = a1_0
  ·rw [if_pos c6] at H; have c6b0 : (a0_0 == a1_0) = true := beq_iff_eq.mpr c6; have c6b1 : (a0_0 != a1_0) = false := bne_eq_false_iff_eq.mpr c6; clear c6
   (first | rw [c6b0] | (simp only [i64_w, i32_w]; rw [c6b0]) | skip)
   have H' := Aside0.mk H; clear H; have hnb7 := NB109_110.out; have hnc7 := NB110_109.out; have hcz8_0 : w5.cell? ⟨gb109, 0, none⟩ = some (.int .u64 a0_0) := (blk_cell BK109.out 0).trans rfl; have hcz8_1 : w5.cell? ⟨gb109, 1, none⟩ = some (.slice A0_1 l0_1.length c0_1) := (blk_cell BK109.out 1).trans rfl; have hfz8_0 := blk_frozen BK109.out 0; have hfz8_1 := blk_frozen BK109.out 1; have hcz9_0 : w5.cell? ⟨gb110, 0, none⟩ = some (.int .u64 a1_0) := (blk_cell BK110.out 0).trans rfl; have hcz9_1 : w5.cell? ⟨gb110, 1, none⟩ = some (.slice A1_1 l1_1.length c1_1) := (blk_cell BK110.out 1).trans rfl; have hfz9_0 := blk_frozen BK110.out 0; have hfz9_1 := blk_frozen BK110.out 1
   go_wp2
   repeat (go_quiet (fail); try go_wp2)
   go_meet
   case rel => exact ⟨_, (((l0_1.length : Int) != (l1_1.length : Int))), (by first | rfl | (simp; done) | (simp [*]; done)), H', ⟨by first | omega | exact Nat.le_refl _⟩, ⟨bk_ BK109⟩, ⟨bk_ BK110⟩, ⟨bl_ HB⟩⟩
  ·rw [if_neg c6] at H; have c6b0 : (a0_0 == a1_0) = false := beq_eq_false_iff_ne.mpr c6; have c6b1 : (a0_0 != a1_0) = true := bne_iff_ne.mpr c6
   (first | rw [c6b0] | (simp only [i64_w, i32_w]; rw [c6b0]) | skip)
   have H' := Aside0.mk H; clear H; have hnb10 := NB109_110.out; have hnc10 := NB110_109.out; have hcz11_0 : w5.cell? ⟨gb109, 0, none⟩ = some (.int .u64 a0_0) := (blk_cell BK109.out 0).trans rfl; have hcz11_1 : w5.cell? ⟨gb109, 1, none⟩ = some (.slice A0_1 l0_1.length c0_1) := (blk_cell BK109.out 1).trans rfl; have hfz11_0 := blk_frozen BK109.out 0; have hfz11_1 := blk_frozen BK109.out 1; have hcz12_0 : w5.cell? ⟨gb110, 0, none⟩ = some (.int .u64 a1_0) := (blk_cell BK110.out 0).trans rfl; have hcz12_1 : w5.cell? ⟨gb110, 1, none⟩ = some (.slice A1_1 l1_1.length c1_1) := (blk_cell BK110.out 1).trans rfl; have hfz12_0 := blk_frozen BK110.out 0; have hfz12_1 := blk_frozen BK110.out 1
   go_wp2
   repeat (go_quiet (fail); try go_wp2)
   go_meet
   case rel => exact ⟨_, (true), (by first | rfl | (simp; done) | (simp [*]; done)), H', ⟨by first | omega | exact Nat.le_refl _⟩, ⟨bk_ BK109⟩, ⟨bk_ BK110⟩, ⟨bl_ HB⟩⟩
 case rest =>
  clear HC3; (try clear c1); (try clear p2); (try clear c6); (try clear c6b0); (try clear c6b1); (try clear c7); (try clear c9); (try clear c10); (try clear hcz11_0); (try clear hcz11_1); (try clear hcz12_0); (try clear hcz12_1); (try clear hcz8_0); (try clear hcz8_1); (try clear hcz9_0); (try clear hcz9_1); (try clear hfz11_0); (try clear hfz11_1); (try clear hfz12_0); (try clear hfz12_1); (try clear hfz8_0); (try clear hfz8_1); (try clear hfz9_0); (try clear hfz9_1); obtain ⟨kq, x20_2, rfl, HA, HJ2, BK109, BK110, HB⟩ := hcut
  cases kq with
  | zero => exact absurd HA.out (by simp [rillmeterref13_Equal.j0])
  | succ kj2 =>
   have H := HA.out; clear HA; simp only [rillmeterref13_Equal.j0] at H
   by_cases c13 : x20_2 = true
   ·subst c13
    have H1 : (some false) = some r := by rw [if_pos rfl] at H; exact H
    clear H; have H := H1; clear H1; obtain rfl := Option.some.inj H
    go_wp2
    repeat (go_quiet (fail); try go_wp2)
    go_ret; exact ⟨by first | rfl | (simp [errW_none, errW_some] <;> rfl) | (simp [*, errW_none, errW_some] <;> rfl), bl_ HB⟩
   ·replace c13 := Bool.eq_false_iff.mpr c13; subst c13
    have H1 : (rillmeterref13_Equal.l0 kj2 0 a0_0 l0_1 a1_0 l1_1) = some r := by rw [if_neg (show ¬ (false = true) by decide)] at H; exact H
    clear H; have H := H1; clear H1; have H' := Aside0.mk H; clear H
    go_wp2
    repeat (go_quiet (fail); try go_wp2)
    go_loopg [5] kj2 (fun kq v5 w' => ∃ (x5_2 : Int), v5 = .int .i64 x5_2 ∧ Aside0 (rillmeterref13_Equal.l0 kq x5_2 a0_0 l0_1 a1_0 l1_1 = some r) ∧ Aside0 (kq ≤ kj2) ∧ Aside0 (w'.heap[gb109]? = some (.cells #[.int .u64 a0_0, (.slice A0_1 l0_1.length c0_1)] 30 (0, 0))) ∧ Aside0 (w'.heap[gb110]? = some (.cells #[.int .u64 a1_0, (.slice A1_1 l1_1.length c1_1)] 30 (0, 0))) ∧ Aside0 (Below w.heap.size w w'))
    case atStart => exact ⟨(0), (by first | rfl | (simp; done) | (simp [*]; done)), H', ⟨Nat.le_refl _⟩, ⟨bk_ BK109⟩, ⟨bk_ BK110⟩, ⟨bl_ HB⟩⟩
    case round =>
     clear H'; (try clear c1); (try clear p2); (try clear c6); (try clear c6b0); (try clear c6b1); (try clear c7); (try clear c9); (try clear c10); (try clear c13); (try clear hcz11_0); (try clear hcz11_1); (try clear hcz12_0); (try clear hcz12_1); (try clear hcz8_0); (try clear hcz8_1); (try clear hcz9_0); (try clear hcz9_1); (try clear hfz11_0); (try clear hfz11_1); (try clear hfz12_0); (try clear hfz12_1); (try clear hfz8_0); (try clear hfz8_1); (try clear hfz9_0); (try clear hfz9_1); (try clear p2); obtain ⟨x5_2, rfl, HA, HK2, BK109, BK110, HB⟩ := hrel
     cases gk with
     | zero => exact absurd HA.out (by simp [rillmeterref13_Equal.l0])
     | succ k2 =>
      have H := HA.out; clear HA; simp only [rillmeterref13_Equal.l0] at H
      by_cases c14 : x5_2 < (l0_1.length : Int)
      ·rw [if_pos c14] at H; have c14b0 : decide (x5_2 < (l0_1.length : Int)) = true := decide_eq_true c14; clear c14
       by_cases c15 : 0 ≤ x5_2
       ·rw [if_pos c15] at H; have c15b0 : decide (0 ≤ x5_2) = true := decide_eq_true c15; clear c15
        by_cases c16 : x5_2 < (l1_1.length : Int)
        ·rw [if_pos c16] at H; have c16b0 : decide (x5_2 < (l1_1.length : Int)) = true := decide_eq_true c16; clear c16
         by_cases c17 : ((rd_L1 l0_1 x5_2).length : Int) = ((rd_L1 l1_1 x5_2).length : Int)
         ·rw [if_pos c17] at H; have c17b0 : (((rd_L1 l0_1 x5_2).length : Int) == ((rd_L1 l1_1 x5_2).length : Int)) = true := beq_iff_eq.mpr c17; have c17b1 : (((rd_L1 l0_1 x5_2).length : Int) != ((rd_L1 l1_1 x5_2).length : Int)) = false := bne_eq_false_iff_eq.mpr c17
          have c17b2 : ((rd_L1 l0_1 x5_2).length == (rd_L1 l1_1 x5_2).length) = true := by first | simpa using c17 | (simp at c17 ⊢; omega)
          clear c17; have H' := Aside0.mk H; clear H; have hnb18 := NB109_110.out; have hnc18 := NB110_109.out; have hcz19_0 : wr.cell? ⟨gb109, 0, none⟩ = some (.int .u64 a0_0) := (blk_cell BK109.out 0).trans rfl; have hcz19_1 : wr.cell? ⟨gb109, 1, none⟩ = some (.slice A0_1 l0_1.length c0_1) := (blk_cell BK109.out 1).trans rfl; have hfz19_0 := blk_frozen BK109.out 0; have hfz19_1 := blk_frozen BK109.out 1; have p111 : 0 ≤ (x5_2 : Int) := of_decide_eq_true (by first | (with_reducible assumption) | assumption); have q111 : x5_2 < (l0_1.length : Int) := of_decide_eq_true (by first | (with_reducible assumption) | assumption); obtain ⟨ad111, A111_0, c111_0, e111, hx111_0, hl111_0, hi111_0⟩ := at_L1 HR0_1.out x5_2 p111 q111
          cases e111; (try replace hx111_0 := (HB.out.cell (World.block_lt_of_cell? w _ hx111_0)).trans hx111_0); have HR111_0 := Aside0.mk hi111_0; have HC111_0 := Aside0.mk hl111_0; clear hi111_0 hl111_0; replace p111 := eq_true p111; replace q111 := eq_true q111; have hcz20_0 : wr.cell? ⟨gb110, 0, none⟩ = some (.int .u64 a1_0) := (blk_cell BK110.out 0).trans rfl; have hcz20_1 : wr.cell? ⟨gb110, 1, none⟩ = some (.slice A1_1 l1_1.length c1_1) := (blk_cell BK110.out 1).trans rfl; have hfz20_0 := blk_frozen BK110.out 0; have hfz20_1 := blk_frozen BK110.out 1; have p112 : 0 ≤ (x5_2 : Int) := of_decide_eq_true (by first | (with_reducible assumption) | assumption); have q112 : x5_2 < (l1_1.length : Int) := of_decide_eq_true (by first | (with_reducible assumption) | assumption); obtain ⟨ad112, A112_0, c112_0, e112, hx112_0, hl112_0, hi112_0⟩ := at_L1 HR1_1.out x5_2 p112 q112
          cases e112; (try replace hx112_0 := (HB.out.cell (World.block_lt_of_cell? w _ hx112_0)).trans hx112_0); have HR112_0 := Aside0.mk hi112_0; have HC112_0 := Aside0.mk hl112_0; clear hi112_0 hl112_0; replace p112 := eq_true p112; replace q112 := eq_true q112
          go_wp2
          repeat (go_quiet (fail); try go_wp2)
          go_loopg [6] k2 (fun kq v6 w' => ∃ (x6_3 : Int), v6 = .int .i64 x6_3 ∧ Aside0 (rillmeterref13_Equal.l1 kq x5_2 x6_3 a0_0 l0_1 a1_0 l1_1 = some r) ∧ Aside0 (kq ≤ k2) ∧ Aside0 (w'.heap[gb109]? = some (.cells #[.int .u64 a0_0, (.slice (some ad111) l0_1.length c0_1)] 30 (0, 0))) ∧ Aside0 (w'.heap[gb110]? = some (.cells #[.int .u64 a1_0, (.slice (some ad112) l1_1.length c1_1)] 30 (0, 0))) ∧ Aside0 (Below w.heap.size w w'))
          case atStart => exact ⟨(0), (by first | rfl | (simp; done) | (simp [*]; done)), H', ⟨Nat.le_refl _⟩, ⟨bk_ BK109⟩, ⟨bk_ BK110⟩, ⟨bl_ HB⟩⟩
          case round =>
           clear H'; (try clear c1); (try clear p1); (try clear q1); (try clear hx1); (try clear p2); (try clear c6); (try clear c6b0); (try clear c6b1); (try clear c7); (try clear c9); (try clear c10); (try clear c11); (try clear p11); (try clear q11); (try clear hx11); (try clear c13); (try clear c14); (try clear c14b0); (try clear c15); (try clear c15b0); (try clear c16); (try clear c16b0); (try clear c17); (try clear c17b0); (try clear c17b1); (try clear c17b2); (try clear c18); (try clear hcz11_0); (try clear hcz11_1); (try clear hcz12_0); (try clear hcz12_1); (try clear hcz19_0); (try clear hcz19_1); (try clear hcz20_0); (try clear hcz20_1); (try clear hcz8_0); (try clear hcz8_1); (try clear hcz9_0); (try clear hcz9_1); (try clear hfz11_0); (try clear hfz11_1); (try clear hfz12_0); (try clear hfz12_1); (try clear hfz19_0); (try clear hfz19_1); (try clear hfz20_0); (try clear hfz20_1); (try clear hfz8_0); (try clear hfz8_1); (try clear hfz9_0); (try clear hfz9_1); (try clear hx111_0); (try clear hx112_0); (try clear p111); (try clear p112); (try clear p2); (try clear q111); (try clear q112); obtain ⟨x6_3, rfl, HA, HK3, BK109, BK110, HB⟩ := hrel
           cases gk with
           | zero => exact absurd HA.out (by simp [rillmeterref13_Equal.l1])
           | succ k3 =>
            have H := HA.out; clear HA; simp only [rillmeterref13_Equal.l1] at H
            by_cases c21 : 0 ≤ x5_2
            ·rw [if_pos c21] at H; have c21b0 : decide (0 ≤ x5_2) = true := decide_eq_true c21; clear c21
             by_cases c22 : x5_2 < (l0_1.length : Int)
             ·rw [if_pos c22] at H; have c22b0 : decide (x5_2 < (l0_1.length : Int)) = true := decide_eq_true c22; clear c22
              by_cases c23 : x6_3 < ((rd_L1 l0_1 x5_2).length : Int)
              ·rw [if_pos c23] at H; have c23b0 : decide (x6_3 < ((rd_L1 l0_1 x5_2).length : Int)) = true := decide_eq_true c23; clear c23
               by_cases c24 : 0 ≤ x6_3
               ·rw [if_pos c24] at H; have c24b0 : decide (0 ≤ x6_3) = true := decide_eq_true c24; clear c24
                by_cases c25 : x5_2 < (l1_1.length : Int)
                ·rw [if_pos c25] at H; have c25b0 : decide (x5_2 < (l1_1.length : Int)) = true := decide_eq_true c25; clear c25
                 by_cases c26 : x6_3 < ((rd_L1 l1_1 x5_2).length : Int)
                 ·rw [if_pos c26] at H; have c26b0 : decide (x6_3 < ((rd_L1 l1_1 x5_2).length : Int)) = true := decide_eq_true c26; clear c26
                  by_cases c27 : ((rdOf false (rd_L1 l0_1 x5_2) x6_3) != (rdOf false (rd_L1 l1_1 x5_2) x6_3)) = true
                  ·rw [if_pos c27] at H; have c27b0 : ((rdOf false (rd_L1 l0_1 x5_2) x6_3) != (rdOf false (rd_L1 l1_1 x5_2) x6_3)) = true := c27; (try (have c27b1 : decide ((rdOf false (rd_L1 l0_1 x5_2) x6_3) = (rdOf false (rd_L1 l1_1 x5_2) x6_3)) = false := by simpa using c27)); (try (have c27b2 : ((rdOf false (rd_L1 l0_1 x5_2) x6_3) == (rdOf false (rd_L1 l1_1 x5_2) x6_3)) = false := by simpa using c27)); (try (have c27b3 : ¬ ((rdOf false (rd_L1 l0_1 x5_2) x6_3) = (rdOf false (rd_L1 l1_1 x5_2) x6_3)) := by simpa using c27)); clear c27; obtain rfl := Option.some.inj H; have hnb28 := NB109_110.out; have hnc28 := NB110_109.out; have hcz29_0 : wr.cell? ⟨gb109, 0, none⟩ = some (.int .u64 a0_0) := (blk_cell BK109.out 0).trans rfl; have hcz29_1 : wr.cell? ⟨gb109, 1, none⟩ = some (.slice (some ad111) l0_1.length c0_1) := (blk_cell BK109.out 1).trans rfl; have hfz29_0 := blk_frozen BK109.out 0; have hfz29_1 := blk_frozen BK109.out 1; have p113 : 0 ≤ (x5_2 : Int) := of_decide_eq_true (by first | (with_reducible assumption) | assumption); have q113 : x5_2 < (l0_1.length : Int) := of_decide_eq_true (by first | (with_reducible assumption) | assumption); obtain ⟨ad113, A113_0, c113_0, e113, hx113_0, hl113_0, hi113_0⟩ := at_L1 HR0_1.out x5_2 p113 q113; obtain rfl : ad111 = ad113 := (by injection e113); (try replace hx113_0 := (HB.out.cell (World.block_lt_of_cell? w _ hx113_0)).trans hx113_0); have HR113_0 := Aside0.mk hi113_0; have HC113_0 := Aside0.mk hl113_0
                   clear hi113_0 hl113_0; replace p113 := eq_true p113; replace q113 := eq_true q113; have p114 : 0 ≤ (x5_2 : Int) := of_decide_eq_true (by first | (with_reducible assumption) | assumption); have q114 : x5_2 < (l0_1.length : Int) := of_decide_eq_true (by first | (with_reducible assumption) | assumption); obtain ⟨ad114, A114_0, c114_0, e114, hx114_0, hl114_0, hi114_0⟩ := at_L1 HR0_1.out x5_2 p114 q114; obtain rfl : ad111 = ad114 := (by injection e114); (try replace hx114_0 := (HB.out.cell (World.block_lt_of_cell? w _ hx114_0)).trans hx114_0); have HR114_0 := Aside0.mk hi114_0; have HC114_0 := Aside0.mk hl114_0; clear hi114_0 hl114_0; replace p114 := eq_true p114; replace q114 := eq_true q114; have ea_ := Option.some.inj (hx113_0.symm.trans hx114_0)
                   injection ea_ with ea_ en_ ec_
                   subst ea_; subst ec_; clear en_; have p115 : 0 ≤ (x6_3 : Int) := of_decide_eq_true (by first | (with_reducible assumption) | assumption); have q115 : x6_3 < ((rd_L1 l0_1 x5_2).length : Int) := of_decide_eq_true (by first | (with_reducible assumption) | assumption); obtain ⟨ad115, e115, hx115_0⟩ := Kd.at_bool HR114_0.out x6_3 p115 q115
                   cases e115; (try replace hx115_0 := (HB.out.cell (World.block_lt_of_cell? w _ hx115_0)).trans hx115_0); replace p115 := eq_true p115; replace q115 := eq_true q115; have hcz30_0 : wr.cell? ⟨gb110, 0, none⟩ = some (.int .u64 a1_0) := (blk_cell BK110.out 0).trans rfl; have hcz30_1 : wr.cell? ⟨gb110, 1, none⟩ = some (.slice (some ad112) l1_1.length c1_1) := (blk_cell BK110.out 1).trans rfl; have hfz30_0 := blk_frozen BK110.out 0; have hfz30_1 := blk_frozen BK110.out 1; have p116 : 0 ≤ (x5_2 : Int) := of_decide_eq_true (by first | (with_reducible assumption) | assumption); have q116 : x5_2 < (l1_1.length : Int) := of_decide_eq_true (by first | (with_reducible assumption) | assumption); obtain ⟨ad116, A116_0, c116_0, e116, hx116_0, hl116_0, hi116_0⟩ := at_L1 HR1_1.out x5_2 p116 q116; obtain rfl : ad112 = ad116 := (by injection e116); (try replace hx116_0 := (HB.out.cell (World.block_lt_of_cell? w _ hx116_0)).trans hx116_0); have HR116_0 := Aside0.mk hi116_0; have HC116_0 := Aside0.mk hl116_0; clear hi116_0 hl116_0; replace p116 := eq_true p116; replace q116 := eq_true q116; have p117 : 0 ≤ (x6_3 : Int) := of_decide_eq_true (by first | (with_reducible assumption) | assumption); have q117 : x6_3 < ((rd_L1 l1_1 x5_2).length : Int) := of_decide_eq_true (by first | (with_reducible assumption) | assumption); obtain ⟨ad117, e117, hx117_0⟩ := Kd.at_bool HR116_0.out x6_3 p117 q117
                   cases e117; (try replace hx117_0 := (HB.out.cell (World.block_lt_of_cell? w _ hx117_0)).trans hx117_0); replace p117 := eq_true p117; replace q117 := eq_true q117
                   go_wp2
                   repeat (go_quiet (fail); try go_wp2)
                   go_ret; exact ⟨by first | rfl | (simp [errW_none, errW_some] <;> rfl) | (simp [*, errW_none, errW_some] <;> rfl), bl_ HB⟩
                  ·rw [if_neg c27] at H
                   have c27b0 : ((rdOf false (rd_L1 l0_1 x5_2) x6_3) != (rdOf false (rd_L1 l1_1 x5_2) x6_3)) = false := by simpa using c27
                   (try (have c27b1 : decide ((rdOf false (rd_L1 l0_1 x5_2) x6_3) = (rdOf false (rd_L1 l1_1 x5_2) x6_3)) = true := by simpa using c27)); (try (have c27b2 : ((rdOf false (rd_L1 l0_1 x5_2) x6_3) == (rdOf false (rd_L1 l1_1 x5_2) x6_3)) = true := by simpa using c27)); clear c27; have H' := Aside0.mk H; clear H; have hnb31 := NB109_110.out; have hnc31 := NB110_109.out; have hcz32_0 : wr.cell? ⟨gb109, 0, none⟩ = some (.int .u64 a0_0) := (blk_cell BK109.out 0).trans rfl; have hcz32_1 : wr.cell? ⟨gb109, 1, none⟩ = some (.slice (some ad111) l0_1.length c0_1) := (blk_cell BK109.out 1).trans rfl; have hfz32_0 := blk_frozen BK109.out 0; have hfz32_1 := blk_frozen BK109.out 1; have p113 : 0 ≤ (x5_2 : Int) := of_decide_eq_true (by first | (with_reducible assumption) | assumption); have q113 : x5_2 < (l0_1.length : Int) := of_decide_eq_true (by first | (with_reducible assumption) | assumption); obtain ⟨ad113, A113_0, c113_0, e113, hx113_0, hl113_0, hi113_0⟩ := at_L1 HR0_1.out x5_2 p113 q113; obtain rfl : ad111 = ad113 := (by injection e113); (try replace hx113_0 := (HB.out.cell (World.block_lt_of_cell? w _ hx113_0)).trans hx113_0); have HR113_0 := Aside0.mk hi113_0; have HC113_0 := Aside0.mk hl113_0; clear hi113_0 hl113_0; replace p113 := eq_true p113; replace q113 := eq_true q113; have p114 : 0 ≤ (x5_2 : Int) := of_decide_eq_true (by first | (with_reducible assumption) | assumption)
                   have q114 : x5_2 < (l0_1.length : Int) := of_decide_eq_true (by first | (with_reducible assumption) | assumption); obtain ⟨ad114, A114_0, c114_0, e114, hx114_0, hl114_0, hi114_0⟩ := at_L1 HR0_1.out x5_2 p114 q114; obtain rfl : ad111 = ad114 := (by injection e114); (try replace hx114_0 := (HB.out.cell (World.block_lt_of_cell? w _ hx114_0)).trans hx114_0); have HR114_0 := Aside0.mk hi114_0; have HC114_0 := Aside0.mk hl114_0; clear hi114_0 hl114_0; replace p114 := eq_true p114; replace q114 := eq_true q114; have ea_ := Option.some.inj (hx113_0.symm.trans hx114_0)
                   injection ea_ with ea_ en_ ec_
                   subst ea_; subst ec_; clear en_; have p115 : 0 ≤ (x6_3 : Int) := of_decide_eq_true (by first | (with_reducible assumption) | assumption); have q115 : x6_3 < ((rd_L1 l0_1 x5_2).length : Int) := of_decide_eq_true (by first | (with_reducible assumption) | assumption); obtain ⟨ad115, e115, hx115_0⟩ := Kd.at_bool HR114_0.out x6_3 p115 q115
                   cases e115; (try replace hx115_0 := (HB.out.cell (World.block_lt_of_cell? w _ hx115_0)).trans hx115_0); replace p115 := eq_true p115; replace q115 := eq_true q115; have hcz33_0 : wr.cell? ⟨gb110, 0, none⟩ = some (.int .u64 a1_0) := (blk_cell BK110.out 0).trans rfl; have hcz33_1 : wr.cell? ⟨gb110, 1, none⟩ = some (.slice (some ad112) l1_1.length c1_1) := (blk_cell BK110.out 1).trans rfl; have hfz33_0 := blk_frozen BK110.out 0; have hfz33_1 := blk_frozen BK110.out 1; have p116 : 0 ≤ (x5_2 : Int) := of_decide_eq_true (by first | (with_reducible assumption) | assumption); have q116 : x5_2 < (l1_1.length : Int) := of_decide_eq_true (by first | (with_reducible assumption) | assumption); obtain ⟨ad116, A116_0, c116_0, e116, hx116_0, hl116_0, hi116_0⟩ := at_L1 HR1_1.out x5_2 p116 q116; obtain rfl : ad112 = ad116 := (by injection e116); (try replace hx116_0 := (HB.out.cell (World.block_lt_of_cell? w _ hx116_0)).trans hx116_0); have HR116_0 := Aside0.mk hi116_0; have HC116_0 := Aside0.mk hl116_0; clear hi116_0 hl116_0; replace p116 := eq_true p116; replace q116 := eq_true q116; have p117 : 0 ≤ (x6_3 : Int) := of_decide_eq_true (by first | (with_reducible assumption) | assumption); have q117 : x6_3 < ((rd_L1 l1_1 x5_2).length : Int) := of_decide_eq_true (by first | (with_reducible assumption) | assumption); obtain ⟨ad117, e117, hx117_0⟩ := Kd.at_bool HR116_0.out x6_3 p117 q117
                   cases e117; (try replace hx117_0 := (HB.out.cell (World.block_lt_of_cell? w _ hx117_0)).trans hx117_0); replace p117 := eq_true p117; replace q117 := eq_true q117
                   go_wp2
                   repeat (go_quiet (fail); try go_wp2)
                   go_roundg k3
                   case measure => have := HJ2.out; have := HK2.out; have := HK3.out; omega
                   case rel => exact ⟨(wrap64 (x6_3 + 1)), (by first | rfl | (simp; done) | (simp [*]; done)), H', ⟨by have := HJ2.out; have := HK2.out; have := HK3.out; omega⟩, ⟨bk_ BK109⟩, ⟨bk_ BK110⟩, ⟨bl_ HB⟩⟩
                 ·rw [if_neg c26] at H; exact absurd H (by simp)
                ·rw [if_neg c25] at H; exact absurd H (by simp)
               ·rw [if_neg c24] at H; exact absurd H (by simp)
              ·rw [if_neg c23] at H; have c23b0 : decide (x6_3 < ((rd_L1 l0_1 x5_2).length : Int)) = false := decide_eq_false c23; clear c23; have H' := Aside0.mk H; clear H; have hnb34 := NB109_110.out; have hnc34 := NB110_109.out; have hcz35_0 : wr.cell? ⟨gb109, 0, none⟩ = some (.int .u64 a0_0) := (blk_cell BK109.out 0).trans rfl; have hcz35_1 : wr.cell? ⟨gb109, 1, none⟩ = some (.slice (some ad111) l0_1.length c0_1) := (blk_cell BK109.out 1).trans rfl; have hfz35_0 := blk_frozen BK109.out 0; have hfz35_1 := blk_frozen BK109.out 1; have p113 : 0 ≤ (x5_2 : Int) := of_decide_eq_true (by first | (with_reducible assumption) | assumption); have q113 : x5_2 < (l0_1.length : Int) := of_decide_eq_true (by first | (with_reducible assumption) | assumption); obtain ⟨ad113, A113_0, c113_0, e113, hx113_0, hl113_0, hi113_0⟩ := at_L1 HR0_1.out x5_2 p113 q113; obtain rfl : ad111 = ad113 := (by injection e113); (try replace hx113_0 := (HB.out.cell (World.block_lt_of_cell? w _ hx113_0)).trans hx113_0); have HR113_0 := Aside0.mk hi113_0; have HC113_0 := Aside0.mk hl113_0; clear hi113_0 hl113_0; replace p113 := eq_true p113; replace q113 := eq_true q113
               go_wp2
               repeat (go_quiet (fail); try go_wp2)
               go_roundg k3
               case measure => have := HJ2.out; have := HK2.out; have := HK3.out; omega
               case rel => exact ⟨(wrap64 (x5_2 + 1)), (by first | rfl | (simp; done) | (simp [*]; done)), H', ⟨by have := HJ2.out; have := HK2.out; have := HK3.out; omega⟩, ⟨bk_ BK109⟩, ⟨bk_ BK110⟩, ⟨bl_ HB⟩⟩
             ·rw [if_neg c22] at H; exact absurd H (by simp)
            ·rw [if_neg c21] at H; exact absurd H (by simp)
         ·rw [if_neg c17] at H; have c17b0 : (((rd_L1 l0_1 x5_2).length : Int) == ((rd_L1 l1_1 x5_2).length : Int)) = false := beq_eq_false_iff_ne.mpr c17; have c17b1 : (((rd_L1 l0_1 x5_2).length : Int) != ((rd_L1 l1_1 x5_2).length : Int)) = true := bne_iff_ne.mpr c17
          have c17b2 : ((rd_L1 l0_1 x5_2).length == (rd_L1 l1_1 x5_2).length) = false := by first | simpa using c17 | (simp at c17 ⊢; omega)
          obtain rfl := Option.some.inj H; have hnb36 := NB109_110.out; have hnc36 := NB110_109.out; have hcz37_0 : wr.cell? ⟨gb109, 0, none⟩ = some (.int .u64 a0_0) := (blk_cell BK109.out 0).trans rfl; have hcz37_1 : wr.cell? ⟨gb109, 1, none⟩ = some (.slice A0_1 l0_1.length c0_1) := (blk_cell BK109.out 1).trans rfl; have hfz37_0 := blk_frozen BK109.out 0; have hfz37_1 := blk_frozen BK109.out 1; have p111 : 0 ≤ (x5_2 : Int) := of_decide_eq_true (by first | (with_reducible assumption) | assumption); have q111 : x5_2 < (l0_1.length : Int) := of_decide_eq_true (by first | (with_reducible assumption) | assumption); obtain ⟨ad111, A111_0, c111_0, e111, hx111_0, hl111_0, hi111_0⟩ := at_L1 HR0_1.out x5_2 p111 q111
          cases e111; (try replace hx111_0 := (HB.out.cell (World.block_lt_of_cell? w _ hx111_0)).trans hx111_0); have HR111_0 := Aside0.mk hi111_0; have HC111_0 := Aside0.mk hl111_0; clear hi111_0 hl111_0; replace p111 := eq_true p111; replace q111 := eq_true q111; have hcz38_0 : wr.cell? ⟨gb110, 0, none⟩ = some (.int .u64 a1_0) := (blk_cell BK110.out 0).trans rfl; have hcz38_1 : wr.cell? ⟨gb110, 1, none⟩ = some (.slice A1_1 l1_1.length c1_1) := (blk_cell BK110.out 1).trans rfl; have hfz38_0 := blk_frozen BK110.out 0; have hfz38_1 := blk_frozen BK110.out 1; have p112 : 0 ≤ (x5_2 : Int) := of_decide_eq_true (by first | (with_reducible assumption) | assumption); have q112 : x5_2 < (l1_1.length : Int) := of_decide_eq_true (by first | (with_reducible assumption) | assumption); obtain ⟨ad112, A112_0, c112_0, e112, hx112_0, hl112_0, hi112_0⟩ := at_L1 HR1_1.out x5_2 p112 q112
          cases e112; (try replace hx112_0 := (HB.out.cell (World.block_lt_of_cell? w _ hx112_0)).trans hx112_0); have HR112_0 := Aside0.mk hi112_0; have HC112_0 := Aside0.mk hl112_0; clear hi112_0 hl112_0; replace p112 := eq_true p112; replace q112 := eq_true q112
          go_wp2
          repeat (go_quiet (fail); try go_wp2)
          go_ret; exact ⟨by first | rfl | (simp [errW_none, errW_some] <;> rfl) | (simp [*, errW_none, errW_some] <;> rfl), bl_ HB⟩
        ·rw [if_neg c16] at H; exact absurd H (by simp)
       ·rw [if_neg c15] at H; exact absurd H (by simp)
      ·rw [if_neg c14] at H; have c14b0 : decide (x5_2 < (l0_1.length : Int)) = false := decide_eq_false c14; clear c14; obtain rfl := Option.some.inj H; have hnb39 := NB109_110.out; have hnc39 := NB110_109.out; have hcz40_0 : wr.cell? ⟨gb109, 0, none⟩ = some (.int .u64 a0_0) := (blk_cell BK109.out 0).trans rfl; have hcz40_1 : wr.cell? ⟨gb109, 1, none⟩ = some (.slice A0_1 l0_1.length c0_1) := (blk_cell BK109.out 1).trans rfl; have hfz40_0 := blk_frozen BK109.out 0; have hfz40_1 := blk_frozen BK109.out 1
       go_wp2
       repeat (go_quiet (fail); try go_wp2)
       go_ret; exact ⟨by first | rfl | (simp [errW_none, errW_some] <;> rfl) | (simp [*, errW_none, errW_some] <;> rfl), bl_ HB⟩

/-! ### rillmeterlaw13_ref: function 10 -/
def rillmeterlaw13_ref.f (a0_0 : Int) (l0_1 : List (List Bool)) : Option (Int × (List (List Bool))) := some (a0_0, l0_1)
set_option maxHeartbeats 80000000 in
set_option maxRecDepth 100000 in
theorem rillmeterlaw13_ref.calls (a0_0 : Int) (P0_1_ : Nat → Prop) (A0_1 : Option Addr) (c0_1 : Nat) (l0_1 : List (List Bool)) (r1 : Int) (r2 : List (List Bool)) (w : World) (hs0_1 : Kd.V (Kd.slice 4 Kd.bool) 33 w w.heap.size (fun k_ => P0_1_ k_) (.slice A0_1 l0_1.length c0_1) l0_1) (h : rillmeterlaw13_ref.f a0_0 l0_1 = some (r1, r2)) :
    Calls Tryd.prog 10 #[.agg #[.int .u64 a0_0, .slice A0_1 l0_1.length c0_1]] w fun e w' => ∃ v1_ : Value, e = .returned (.agg #[.int .u64 r1, v1_]) ∧ Kd.V (Kd.slice 4 Kd.bool) 33 w' w.heap.size (fun k_ => (P0_1_ k_ ∨ w.heap.size ≤ k_)) v1_ r2 ∧ Below w.heap.size w w' := by
 have hu25 := Tryd.underlying25; have hu30 := Tryd.underlying30; have HO0_1 := Aside0.mk (show Kd.V (Kd.slice 4 Kd.bool) 33 w w.heap.size (fun k_ => (P0_1_ k_ ∨ w.heap.size ≤ k_)) (.slice A0_1 l0_1.length c0_1) l0_1 from Kd.V_mono hs0_1 (fun k_ hk => .inl hk)); have HB := Aside0.mk (Below.refl w.heap.size w); have H : (some (a0_0, l0_1)) = some (r1, r2) := h; clear h; simp only [Option.some.injEq, Prod.mk.injEq] at H; obtain ⟨rfl, rfl⟩ := H
 go_enter Tryd.func10, Tryd.ntmps10
 go_wp2_with (first | ((with_reducible refine gate_dst (N := 1) rfl ?_); refine box_event ?hg (N := 1) ?hd (cs := #[.int .u64 a0_0, .slice A0_1 l0_1.length c0_1]) (t := 25) ?hr ?_; (case hd => rfl); (case hg => rfl); (case hr => first | (go_simp; done) | (go_simp; rfl)); intro gb118 hg w2 hbox hb; have n0_ := Aside0.mk (Kd.V_below (Kd.V_elderB (vk_ HO0_1) gb118 (Nat.le_of_eq hg.symm)) hb); have n1_ := Aside0.mk (below_step (bl_ HB) hb); have n2_ := Aside0.mk (hbox); have n3_ := Aside0.mk (gl_ hg HB); have n4_ := Aside0.mk (gl_ hg HB); clear HO0_1; clear HB; have HO0_1 := n0_; have HB := n1_; have BK118 := n2_; have GW118 := n3_; have GE118 := n4_; clear n0_ n1_ n2_ n3_ n4_; clear hb hbox hg) | ((with_reducible refine gate_dst (N := 2) rfl ?_); refine box_event ?hg (N := 2) ?hd (cs := #[.int .u64 0, .slice none 0 0]) (t := 30) ?hr ?_; (case hd => rfl); (case hg => rfl); (case hr => first | (go_simp; done) | (go_simp; rfl)); intro gb119 hg w3 hbox hb; have n0_ := Aside0.mk (Kd.V_below (Kd.V_elderB (vk_ HO0_1) gb119 (Nat.le_of_eq hg.symm)) hb); have n1_ := Aside0.mk (blk_below (bk_ BK118) hb); have n2_ := Aside0.mk (below_step (bl_ HB) hb); have n3_ := Aside0.mk (hbox); have n4_ := Aside0.mk (gl_ hg HB); have n5_ := Aside0.mk (gl_ hg HB); have n6_ := Aside0.mk (nl_ hg BK118); have n7_ := Aside0.mk (ng_ hg BK118); clear HO0_1; clear BK118; clear HB; have HO0_1 := n0_; have BK118 := n1_; have HB := n2_; have BK119 := n3_; have GW119 := n4_; have GE119 := n5_; have NB118_119 := n6_; have NB119_118 := n7_; clear n0_ n1_ n2_ n3_ n4_ n5_ n6_ n7_; clear hb hbox hg; have hnb4 := NB118_119.out; have hnc4 := NB119_118.out; have hcz5_0 : w3.cell? ⟨gb118, 0, none⟩ = some (.int .u64 a0_0) := (blk_cell BK118.out 0).trans rfl; have hcz5_1 : w3.cell? ⟨gb118, 1, none⟩ = some (.slice A0_1 l0_1.length c0_1) := (blk_cell BK118.out 1).trans rfl; have hfz5_0 := blk_frozen BK118.out 0; have hfz5_1 := blk_frozen BK118.out 1; have hcz6_0 : w3.cell? ⟨gb119, 0, none⟩ = some (.int .u64 0) := (blk_cell BK119.out 0).trans rfl; have hcz6_1 : w3.cell? ⟨gb119, 1, none⟩ = some (.slice none 0 0) := (blk_cell BK119.out 1).trans rfl; have hfz6_0 := blk_frozen BK119.out 0; have hfz6_1 := blk_frozen BK119.out 1))
 refine bodyPost_ret (results_cell_row rfl _ _ gb119 30 #[.int .u64 a0_0, .slice A0_1 l0_1.length c0_1] (0, 0) _ rfl (by (with_reducible repeat (first | refine blk_drewN ?_ _ | refine blk_drew ?_ | refine blk_alloc ?_ _)); refine blk_put (cs := #[.int .u64 a0_0, .slice none 0 0]) ?_ 1 _ rfl; (with_reducible repeat (first | refine blk_drewN ?_ _ | refine blk_drew ?_ | refine blk_alloc ?_ _)); refine blk_put (cs := #[.int .u64 0, .slice none 0 0]) ?_ 0 _ rfl; (with_reducible repeat (first | refine blk_drewN ?_ _ | refine blk_drew ?_ | refine blk_alloc ?_ _)); exact BK119.out) Tryd.underlying30 rfl (by kernel_rfl)) rfl ?_; exact ⟨_, by first | rfl | (simp [errW_none, errW_some] <;> rfl) | (simp [*, errW_none, errW_some] <;> rfl), by (with_reducible repeat (first | apply Kd.V_alloc | apply Kd.V_drewN | apply Kd.V_drew)); exact Kd.V_mono (Kd.V_far (p := ⟨gb119, 1, none⟩) (Kd.V_far (p := ⟨gb119, 0, none⟩) (Kd.V_mono HO0_1.out (fun k_ hk => (⟨hk, hk.2⟩ : _ ∧ k_ ≠ gb119))) (fun _ hk => hk.2) (.int .u64 a0_0)) (fun _ hk => hk.2) (.slice A0_1 l0_1.length c0_1)) (fun _ hk => hk.1.1.1), bl_ HB⟩

-- NOT PRINTED: function 34 (slices_IndexFunc_bool_bool)

-- NOT PRINTED: function 24 (slices_ContainsFunc_bool_bool)

/-! ### bitmap_Right: function 13 -/
/-- a row as the first one: from 1 to 256 bits -/
def bitmap_Right.row (l : List (List Bool)) (r : List Bool) : Bool := decide (1 ≤ r.length) && (decide (r.length ≤ 256) && decide (r.length = (rd_L1 l 0).length))

def bitmap_Right.f (a0_0 : Int) (l0_1 : List (List Bool)) : Option (Bool) := some (decide (1 ≤ l0_1.length) && (decide (l0_1.length ≤ 16) && l0_1.all (bitmap_Right.row l0_1)))

/-- the literal's own walk -/
theorem bitmap_Right.lit (r : List Bool) (Ar : Option Addr) (cr : Nat) (B : Nat) (a0_0 : Int) (A : Option Addr) (c : Nat) (l : List (List Bool)) (W : World) (hbox : W.heap[B]? = some (.cells #[.int .u64 a0_0, .slice A l.length c] 25 (0, 0)))
    (hr : Kd.C (Kd.slice 4 Kd.bool) W A l.length l) (h0 : 0 < (l.length : Int)) :
    Calls Tryd.prog 25 #[.slice Ar r.length cr, .pointer (some ⟨B, 0, none⟩)] W fun e w' => e = .returned (.bool (!(bitmap_Right.row l r))) ∧ Below W.heap.size W w' := by
  have hu_ := Tryd.underlying25
  have HB := Aside0.mk (Below.refl W.heap.size W)
  obtain ⟨ad, A1, c1, e, hx, hl1, hi1⟩ := at_L1 hr 0 (Int.le_refl _) h0
  cases e
  rw [show ((0 : Int)).toNat = 0 from rfl, Addr.add_zero'] at hx
  have hc : W.cell? ⟨B, 1, none⟩ = some (.slice (some ad) l.length c) := (blk_cell hbox 1).trans rfl
  clear hr hbox hl1 hi1
  generalize hR : rd_L1 l 0 = q at *
  have d0 : decide (0 < (l.length : Int)) = true := decide_eq_true h0
  have d1 : decide (0 < l.length) = true := decide_eq_true (by omega)
  have p0 := eq_true h0
  have e_ : bitmap_Right.row l r = (decide (1 ≤ r.length) && (decide (r.length ≤ 256) && decide (r.length = q.length))) := by unfold bitmap_Right.row; rw [hR]
  rw [e_]
  clear e_ hR
  by_cases g0 : (r.length : Int) < 1
  · have b0 : decide ((r.length : Int) < 1) = true := decide_eq_true g0
    have b1 : decide (1 ≤ r.length) = false := decide_eq_false (by omega)
    rw [b1]
    clear b1
    go_enter Tryd.func25, Tryd.ntmps25
    go_wp2
    go_ret
    exact ⟨rfl, bl_ HB⟩
  · have b0 : decide ((r.length : Int) < 1) = false := decide_eq_false g0
    have b1 : decide (1 ≤ r.length) = true := decide_eq_true (by omega)
    rw [b1]
    clear b1
    by_cases g1 : (r.length : Int) > 256
    · have b2 : decide ((r.length : Int) > 256) = true := decide_eq_true g1
      have b3 : decide (r.length ≤ 256) = false := decide_eq_false (by omega)
      rw [b3]
      clear b3
      go_enter Tryd.func25, Tryd.ntmps25
      go_wp2
      go_ret
      exact ⟨rfl, bl_ HB⟩
    · have b2 : decide ((r.length : Int) > 256) = false := decide_eq_false g1
      have b3 : decide (r.length ≤ 256) = true := decide_eq_true (by omega)
      rw [b3]
      clear b3
      by_cases g2 : (r.length : Int) = (q.length : Int)
      · have b4 : ((r.length : Int) != (q.length : Int)) = false := bne_eq_false_iff_eq.mpr g2
        have b5 : decide (r.length = q.length) = true := decide_eq_true (by omega)
        have b6 : ((r.length : Int) == (q.length : Int)) = true := beq_iff_eq.mpr g2
        have b7 : (r.length == q.length) = true := by first | simpa using g2 | (simp at g2 ⊢; omega)
        rw [b5]
        clear g2 b5
        go_enter Tryd.func25, Tryd.ntmps25
        go_wp2
        go_ret
        exact ⟨rfl, bl_ HB⟩
      · have b4 : ((r.length : Int) != (q.length : Int)) = true := bne_iff_ne.mpr g2
        have b5 : decide (r.length = q.length) = false := decide_eq_false (by omega)
        have b6 : ((r.length : Int) == (q.length : Int)) = false := beq_eq_false_iff_ne.mpr g2
        have b7 : (r.length == q.length) = false := by first | simpa using g2 | (simp at g2 ⊢; omega)
        rw [b5]
        go_enter Tryd.func25, Tryd.ntmps25
        go_wp2
        go_ret
        exact ⟨rfl, bl_ HB⟩

def bitmap_Right.Tells (r : Bool) (w : World) (e : Ending) (w' : World) : Prop := ∃ n : Int, e = .returned (.int .i64 n) ∧ decide (0 ≤ n) = !r ∧ Below w.heap.size w w'

theorem bitmap_Right.drop_cons (l : List (List Bool)) (k : Nat) (h : k < l.length) : l.drop k = rd_L1 l (k : Int) :: l.drop (k + 1) := by
  rw [List.drop_eq_getElem_cons h]
  simp [rd_L1, List.getD_eq_getElem?_getD, h]

set_option maxHeartbeats 2000000 in
theorem bitmap_Right.index (B : Nat) (a0_0 : Int) (A : Option Addr) (c : Nat) (l : List (List Bool)) (w : World)
    (hbox : w.heap[B]? = some (.cells #[.int .u64 a0_0, .slice A l.length c] 25 (0, 0)))
    (hr : Kd.C (Kd.slice 4 Kd.bool) w A l.length l) (hlen : l.length ≤ 9223372036854775807) :
    Calls Tryd.prog 34 #[.slice A l.length c, .func (.func 25) #[] #[.pointer (some ⟨B, 0, none⟩)]] w (bitmap_Right.Tells (l.all (bitmap_Right.row l)) w) := by
  have HR := Aside0.mk hr
  have HX := Aside0.mk hbox
  clear hr hbox
  have e31_ : ∀ (args : Array Value) (w : World), (callFunc 25 args).run Tryd.prog w = .ok (.enter 25 args) w := fun args w => enters_ Tryd.func25 (by kernel_rfl) rfl args w
  go_enter Tryd.func34, Tryd.ntmps34
  go_wp2
  go_loopg [5, 8] l.length (fun gg _ s8 wr => ∃ kk : Nat, kk ≤ l.length ∧ l.length - kk ≤ gg ∧ s8 = .int .i64 kk ∧ Aside0 (Below w.heap.size w wr) ∧ Aside0 ((l.drop kk).all (bitmap_Right.row l) = l.all (bitmap_Right.row l)))
  case atStart => exact ⟨0, Nat.zero_le _, by omega, rfl, ⟨Below.refl _ w⟩, ⟨by rw [List.drop_zero]⟩⟩
  case round =>
    obtain ⟨kk, hkk, hg, rfl, BW, HA⟩ := hrel
    by_cases hlt : kk < l.length
    · have h2 := HA.out
      rw [bitmap_Right.drop_cons l kk hlt, List.all_cons] at h2
      have hltz : (kk : Int) < (l.length : Int) := by omega
      have hk0 : (0 : Int) ≤ (kk : Int) := by omega
      obtain ⟨ad, A1, c1, e, hx, hl1, hi1⟩ := at_L1 HR.out (kk : Int) hk0 hltz
      have hx' := (BW.out.cell (World.block_lt_of_cell? w _ hx)).trans hx
      clear hx hl1 hi1
      rw [Int.toNat_natCast] at hx'
      cases e
      have hcall := bitmap_Right.lit (rd_L1 l (kk : Int)) A1 c1 B a0_0 (some ad) c l wr (blk_below HX.out BW.out) (Kd.C_below HR.out BW.out) (by omega)
      obtain ⟨b, hb⟩ : ∃ b, b = bitmap_Right.row l (rd_L1 l (kk : Int)) := ⟨_, rfl⟩
      rw [← hb] at h2 hcall
      clear hb
      generalize rd_L1 l (kk : Int) = y at *
      cases b with
      | true =>
        rw [Bool.true_and] at h2
        have H2 := Aside0.mk h2
        clear h2
        go_wp2_with (go_at_fn 25; refine hcall.mono ?_; rintro e w' ⟨rfl, hb'⟩)
        go_roundg (l.length - (kk + 1))
        case measure => omega
        case rel => exact ⟨kk + 1, by omega, by omega, by go_num, ⟨BW.out.trans (hb'.mono BW.out.size)⟩, H2⟩
      | false =>
        rw [Bool.false_and] at h2
        rw [← h2]
        clear h2
        go_wp2_with (go_at_fn 25; refine hcall.mono ?_; rintro e w' ⟨rfl, hb'⟩)
        go_ret
        exact ⟨(kk : Int), rfl, decide_eq_true (by omega), BW.out.trans (hb'.mono BW.out.size)⟩
    · have hltz : ¬ (kk : Int) < (l.length : Int) := by omega
      have : kk = l.length := by omega
      subst this
      have h2 := HA.out
      rw [List.drop_length, List.all_nil] at h2
      have H2 := Aside0.mk h2
      clear h2
      go_wp2
      go_ret
      exact ⟨-1, rfl, by rw [← H2.out]; rfl, BW.out⟩

theorem bitmap_Right.contains (B : Nat) (a0_0 : Int) (A : Option Addr) (c : Nat) (l : List (List Bool)) (w : World)
    (hbox : w.heap[B]? = some (.cells #[.int .u64 a0_0, .slice A l.length c] 25 (0, 0)))
    (hr : Kd.C (Kd.slice 4 Kd.bool) w A l.length l) (hlen : l.length ≤ 9223372036854775807) :
    Calls Tryd.prog 24 #[.slice A l.length c, .func (.func 25) #[] #[.pointer (some ⟨B, 0, none⟩)]] w fun e w' => e = .returned (.bool (!(l.all (bitmap_Right.row l)))) ∧ Below w.heap.size w w' := by
  have hcall := bitmap_Right.index B a0_0 A c l w hbox hr hlen
  clear hbox hr
  have e40_ : ∀ (args : Array Value) (w : World), (callFunc 34 args).run Tryd.prog w = .ok (.enter 34 args) w := fun args w => enters_ Tryd.func34 (by kernel_rfl) rfl args w
  generalize l.all (bitmap_Right.row l) = r at *
  go_enter Tryd.func24, Tryd.ntmps24
  go_wp2_with (go_at_fn 34; refine hcall.mono ?_; rintro e w' ⟨n, rfl, hn, hb⟩; have HN := Aside0.mk hn; clear hn)
  go_ret
  rw [HN.out]
  exact ⟨rfl, hb⟩
set_option maxHeartbeats 80000000 in
set_option maxRecDepth 100000 in
theorem bitmap_Right.calls (a0_0 : Int) (A0_1 : Option Addr) (c0_1 : Nat) (l0_1 : List (List Bool)) (r : Bool) (w : World) (hr0_1 : Kd.C (Kd.slice 4 Kd.bool) w A0_1 l0_1.length l0_1) (hc0_1 : l0_1.length ≤ c0_1) (h : bitmap_Right.f a0_0 l0_1 = some r) :
    Calls Tryd.prog 13 #[.agg #[.int .u64 a0_0, .slice A0_1 l0_1.length c0_1]] w fun e w' => e = .returned (.bool r) ∧ Below w.heap.size w w' := by
 have hu_ := Tryd.underlying25; have HR := Aside0.mk hr0_1; have HC := Aside0.mk hc0_1; clear hr0_1 hc0_1
 unfold bitmap_Right.f at h
 obtain rfl := Option.some.inj h; clear h
 have e24_ : ∀ (args : Array Value) (w : World), (callFunc 24 args).run Tryd.prog w = .ok (.enter 24 args) w := fun args w => enters_ Tryd.func24 (by kernel_rfl) rfl args w
 by_cases g0 : (l0_1.length : Int) ≥ 1
 ·have b0 : decide ((l0_1.length : Int) ≥ 1) = true := decide_eq_true g0; have b1 : decide (1 ≤ l0_1.length) = true := decide_eq_true (by omega); rw [b1, Bool.true_and]
  by_cases g1 : (l0_1.length : Int) ≤ 16
  ·have b2 : decide ((l0_1.length : Int) ≤ 16) = true := decide_eq_true g1; have b3 : decide (l0_1.length ≤ 16) = true := decide_eq_true (by omega); rw [b3, Bool.true_and]
   have hlen : l0_1.length ≤ 9223372036854775807 := by omega
   go_enter Tryd.func13, Tryd.ntmps13
   go_wp2_with (first | ((with_reducible refine gate_dst (N := 1) rfl ?_); refine box_event ?hg (N := 1) ?hd (cs := #[.int .u64 a0_0, .slice A0_1 l0_1.length c0_1]) (t := 25) ?hr ?_; (case hd => rfl); (case hg => rfl); (case hr => first | (go_simp; done) | (go_simp; rfl)); intro gb hgb w2 hbox hb; have BK := Aside0.mk hbox; have HB := Aside0.mk hb; have hz1 : w2.cell? ⟨gb, 1, none⟩ = some (.slice A0_1 l0_1.length c0_1) := (blk_cell hbox 1).trans rfl; clear hbox hb hgb) | (go_at_fn 24; refine (bitmap_Right.contains gb a0_0 A0_1 c0_1 l0_1 _ (by first | exact BK.out | exact blk_drew BK.out) (by first | exact Kd.C_below HR.out HB.out | exact Kd.C_drew (Kd.C_below HR.out HB.out)) hlen).mono ?_; rintro e w3 ⟨rfl, hb3⟩; have HB3 := Aside0.mk (below_step (bl_ HB) hb3); clear hb3))
   go_ret; exact ⟨by first | rfl | simp, bl_ HB3⟩
  ·have b2 : decide ((l0_1.length : Int) ≤ 16) = false := decide_eq_false g1; have b3 : decide (l0_1.length ≤ 16) = false := decide_eq_false (by omega); rw [b3, Bool.false_and]
   go_enter Tryd.func13, Tryd.ntmps13
   go_wp2_with (first | ((with_reducible refine gate_dst (N := 1) rfl ?_); refine box_event ?hg (N := 1) ?hd (cs := #[.int .u64 a0_0, .slice A0_1 l0_1.length c0_1]) (t := 25) ?hr ?_; (case hd => rfl); (case hg => rfl); (case hr => first | (go_simp; done) | (go_simp; rfl)); intro gb hgb w2 hbox hb; have BK := Aside0.mk hbox; have HB := Aside0.mk hb; have hz1 : w2.cell? ⟨gb, 1, none⟩ = some (.slice A0_1 l0_1.length c0_1) := (blk_cell hbox 1).trans rfl; clear hbox hb hgb))
   go_ret; exact ⟨by first | rfl | simp, bl_ HB⟩
 ·have b0 : decide ((l0_1.length : Int) ≥ 1) = false := decide_eq_false g0; have b1 : decide (1 ≤ l0_1.length) = false := decide_eq_false (by omega); rw [b1, Bool.false_and]
  go_enter Tryd.func13, Tryd.ntmps13
  go_wp2_with (first | ((with_reducible refine gate_dst (N := 1) rfl ?_); refine box_event ?hg (N := 1) ?hd (cs := #[.int .u64 a0_0, .slice A0_1 l0_1.length c0_1]) (t := 25) ?hr ?_; (case hd => rfl); (case hg => rfl); (case hr => first | (go_simp; done) | (go_simp; rfl)); intro gb hgb w2 hbox hb; have BK := Aside0.mk hbox; have HB := Aside0.mk hb; have hz1 : w2.cell? ⟨gb, 1, none⟩ = some (.slice A0_1 l0_1.length c0_1) := (blk_cell hbox 1).trans rfl; clear hbox hb hgb))
  go_ret; exact ⟨by first | rfl | simp, bl_ HB⟩

/-! ### field_Of: function 44 -/
def field_Of.f (a0 : Int) : Option (Int) := if (IntKind.u64.wrap ((Go.bits .and .u64 a0 2305843009213693951) + (a0 / 2305843009213693952))) ≥ 2305843009213693951 then (some (IntKind.u64.wrap ((IntKind.u64.wrap ((Go.bits .and .u64 a0 2305843009213693951) + (a0 / 2305843009213693952))) - 2305843009213693951))) else (some (IntKind.u64.wrap ((Go.bits .and .u64 a0 2305843009213693951) + (a0 / 2305843009213693952))))
set_option maxHeartbeats 80000000 in
set_option maxRecDepth 100000 in
theorem field_Of.calls (a0 : Int) (r : Int) (w : World) (h : field_Of.f a0 = some r) :
    Calls Tryd.prog 44 #[.int .u64 a0] w fun e w' => e = .returned (.int .u64 r) ∧ Drawn0 w w' := by
 have H : (if (IntKind.u64.wrap ((Go.bits .and .u64 a0 2305843009213693951) + (a0 / 2305843009213693952))) ≥ 2305843009213693951 then (some (IntKind.u64.wrap ((IntKind.u64.wrap ((Go.bits .and .u64 a0 2305843009213693951) + (a0 / 2305843009213693952))) - 2305843009213693951))) else (some (IntKind.u64.wrap ((Go.bits .and .u64 a0 2305843009213693951) + (a0 / 2305843009213693952))))) = some r := h; clear h
 by_cases c2 : (IntKind.u64.wrap ((Go.bits .and .u64 a0 2305843009213693951) + (a0 / 2305843009213693952))) ≥ 2305843009213693951
 ·rw [if_pos c2] at H; have c2b0 : decide (2305843009213693951 ≤ (IntKind.u64.wrap ((Go.bits .and .u64 a0 2305843009213693951) + (a0 / 2305843009213693952)))) = true := decide_eq_true c2; clear c2; obtain rfl := Option.some.inj H
  go_enter Tryd.func44, Tryd.ntmps44
  go_wp2
  go_ret; exact ⟨by first | rfl | (simp; done) | (simp [*]; done), by repeat (first | exact Drawn0.refl _ | apply Drawn0.step)⟩
 ·rw [if_neg c2] at H; have c2b0 : decide (2305843009213693951 ≤ (IntKind.u64.wrap ((Go.bits .and .u64 a0 2305843009213693951) + (a0 / 2305843009213693952)))) = false := decide_eq_false c2; clear c2; obtain rfl := Option.some.inj H
  go_enter Tryd.func44, Tryd.ntmps44
  go_wp2
  go_ret; exact ⟨by first | rfl | (simp; done) | (simp [*]; done), by repeat (first | exact Drawn0.refl _ | apply Drawn0.step)⟩

/-! ### field_Add: function 37 -/
def field_Add.f (a0 : Int) (a1 : Int) : Option (Int) := (field_Of.f a0).bind fun t121 => ((field_Of.f a1).bind fun t122 => ((field_Of.f (IntKind.u64.wrap (t121 + t122))).bind fun t123 => (some t123)))
set_option maxHeartbeats 80000000 in
set_option maxRecDepth 100000 in
theorem field_Add.calls (a0 : Int) (a1 : Int) (r : Int) (w : World) (h : field_Add.f a0 a1 = some r) :
    Calls Tryd.prog 37 #[.int .u64 a0, .int .u64 a1] w fun e w' => e = .returned (.int .u64 r) ∧ Drawn0 w w' := by
 have H : ((field_Of.f a0).bind fun t121 => ((field_Of.f a1).bind fun t122 => ((field_Of.f (IntKind.u64.wrap (t121 + t122))).bind fun t123 => (some t123)))) = some r := h; clear h; replace H := Option.bind_eq_some_iff.mp H; obtain ⟨t121, A30, H⟩ := H; replace H : ((field_Of.f a1).bind fun t122 => ((field_Of.f (IntKind.u64.wrap (t121 + t122))).bind fun t123 => (some t123))) = some r := H; have A3 := Aside0.mk A30; clear A30; replace H := Option.bind_eq_some_iff.mp H; obtain ⟨t122, A40, H⟩ := H; replace H : ((field_Of.f (IntKind.u64.wrap (t121 + t122))).bind fun t123 => (some t123)) = some r := H; have A4 := Aside0.mk A40; clear A40; replace H := Option.bind_eq_some_iff.mp H; obtain ⟨t123, A50, H⟩ := H; replace H : (some t123) = some r := H; have A5 := Aside0.mk A50; clear A50; obtain rfl := Option.some.inj H
 go_enter Tryd.func37, Tryd.ntmps37
 go_wp2_with (first | ((with_reducible refine gate_callee (f := 44) rfl ?_); refine goesL_ (some 6) rfl rfl Tryd.func44 (by kernel_rfl) rfl #[.int .u64 a0] rfl (by (try simp only [List.map_toArray, List.map_cons, List.map_nil]); first | done | rfl | (simp only [List.length_drop, List.length_take]; rfl)) ?_; (with_reducible refine (field_Of.calls a0 t121 _ A3.out).mono ?_); rintro e w' ⟨rfl, ⟨nd, rfl⟩⟩; refine ⟨_, rfl, ?_⟩) | ((with_reducible refine gate_callee (f := 44) rfl ?_); refine goesL_ (some 8) rfl rfl Tryd.func44 (by kernel_rfl) rfl #[.int .u64 a1] rfl (by (try simp only [List.map_toArray, List.map_cons, List.map_nil]); first | done | rfl | (simp only [List.length_drop, List.length_take]; rfl)) ?_; (with_reducible refine (field_Of.calls a1 t122 _ A4.out).mono ?_); rintro e w' ⟨rfl, ⟨nd, rfl⟩⟩; refine ⟨_, rfl, ?_⟩) | ((with_reducible refine gate_callee (f := 44) rfl ?_); refine goesL_ (some 10) rfl rfl Tryd.func44 (by kernel_rfl) rfl #[.int .u64 (IntKind.u64.wrap (t121 + t122))] rfl (by (try simp only [List.map_toArray, List.map_cons, List.map_nil]); first | done | rfl | (simp only [List.length_drop, List.length_take]; rfl)) ?_; (with_reducible refine (field_Of.calls (IntKind.u64.wrap (t121 + t122)) t123 _ A5.out).mono ?_); rintro e w' ⟨rfl, ⟨nd, rfl⟩⟩; refine ⟨_, rfl, ?_⟩))
 go_ret; exact ⟨by first | rfl | (simp; done) | (simp [*]; done), by repeat (first | exact Drawn0.refl _ | apply Drawn0.step)⟩

/-! ### bits_Mul64: function 45 -/
def bits_Mul64.f (a0 : Int) (a1 : Int) : Option (Int × Int) := some (IntKind.u64.wrap ((IntKind.u64.wrap ((IntKind.u64.wrap ((a0 / 4294967296) * (a1 / 4294967296))) + ((IntKind.u64.wrap ((IntKind.u64.wrap ((a0 / 4294967296) * (Go.bits .and .u64 a1 4294967295))) + ((IntKind.u64.wrap ((Go.bits .and .u64 a0 4294967295) * (Go.bits .and .u64 a1 4294967295))) / 4294967296))) / 4294967296))) + ((IntKind.u64.wrap ((Go.bits .and .u64 (IntKind.u64.wrap ((IntKind.u64.wrap ((a0 / 4294967296) * (Go.bits .and .u64 a1 4294967295))) + ((IntKind.u64.wrap ((Go.bits .and .u64 a0 4294967295) * (Go.bits .and .u64 a1 4294967295))) / 4294967296))) 4294967295) + (IntKind.u64.wrap ((Go.bits .and .u64 a0 4294967295) * (a1 / 4294967296))))) / 4294967296)), IntKind.u64.wrap (a0 * a1))
set_option maxHeartbeats 80000000 in
set_option maxRecDepth 100000 in
theorem bits_Mul64.calls (a0 : Int) (a1 : Int) (r1 : Int) (r2 : Int) (w : World) (h : bits_Mul64.f a0 a1 = some (r1, r2)) :
    Calls Tryd.prog 45 #[.int .u64 a0, .int .u64 a1] w fun e w' => e = .returned (.tuple #[.int .u64 r1, .int .u64 r2]) ∧ Drawn0 w w' := by
 have H : (some (IntKind.u64.wrap ((IntKind.u64.wrap ((IntKind.u64.wrap ((a0 / 4294967296) * (a1 / 4294967296))) + ((IntKind.u64.wrap ((IntKind.u64.wrap ((a0 / 4294967296) * (Go.bits .and .u64 a1 4294967295))) + ((IntKind.u64.wrap ((Go.bits .and .u64 a0 4294967295) * (Go.bits .and .u64 a1 4294967295))) / 4294967296))) / 4294967296))) + ((IntKind.u64.wrap ((Go.bits .and .u64 (IntKind.u64.wrap ((IntKind.u64.wrap ((a0 / 4294967296) * (Go.bits .and .u64 a1 4294967295))) + ((IntKind.u64.wrap ((Go.bits .and .u64 a0 4294967295) * (Go.bits .and .u64 a1 4294967295))) / 4294967296))) 4294967295) + (IntKind.u64.wrap ((Go.bits .and .u64 a0 4294967295) * (a1 / 4294967296))))) / 4294967296)), IntKind.u64.wrap (a0 * a1))) = some (r1, r2) := h; clear h; simp only [Option.some.injEq, Prod.mk.injEq] at H; obtain ⟨rfl, rfl⟩ := H
 go_enter Tryd.func45, Tryd.ntmps45
 go_wp2
 go_ret2
 exact ⟨by first | rfl | (simp; done) | (simp [*]; done), by repeat (first | exact Drawn0.refl _ | apply Drawn0.step)⟩

/-! ### field_Mul: function 38 -/
def field_Mul.f (a0 : Int) (a1 : Int) : Option (Int) := (field_Of.f a0).bind fun t124 => ((field_Of.f a1).bind fun t125 => ((bits_Mul64.f t124 t125).bind fun bt126 => ((field_Of.f (IntKind.u64.wrap ((Go.bits .and .u64 bt126.2 2305843009213693951) + (Go.bits .or .u64 (bt126.2 / 2305843009213693952) (IntKind.u64.wrap (bt126.1 * 8)))))).bind fun t128 => (some t128))))
set_option maxHeartbeats 80000000 in
set_option maxRecDepth 100000 in
theorem field_Mul.calls (a0 : Int) (a1 : Int) (r : Int) (w : World) (h : field_Mul.f a0 a1 = some r) :
    Calls Tryd.prog 38 #[.int .u64 a0, .int .u64 a1] w fun e w' => e = .returned (.int .u64 r) ∧ Drawn0 w w' := by
 have H : ((field_Of.f a0).bind fun t124 => ((field_Of.f a1).bind fun t125 => ((bits_Mul64.f t124 t125).bind fun bt126 => ((field_Of.f (IntKind.u64.wrap ((Go.bits .and .u64 bt126.2 2305843009213693951) + (Go.bits .or .u64 (bt126.2 / 2305843009213693952) (IntKind.u64.wrap (bt126.1 * 8)))))).bind fun t128 => (some t128))))) = some r := h; clear h; replace H := Option.bind_eq_some_iff.mp H; obtain ⟨t124, A30, H⟩ := H; replace H : ((field_Of.f a1).bind fun t125 => ((bits_Mul64.f t124 t125).bind fun bt126 => ((field_Of.f (IntKind.u64.wrap ((Go.bits .and .u64 bt126.2 2305843009213693951) + (Go.bits .or .u64 (bt126.2 / 2305843009213693952) (IntKind.u64.wrap (bt126.1 * 8)))))).bind fun t128 => (some t128)))) = some r := H; have A3 := Aside0.mk A30; clear A30; replace H := Option.bind_eq_some_iff.mp H; obtain ⟨t125, A40, H⟩ := H; replace H : ((bits_Mul64.f t124 t125).bind fun bt126 => ((field_Of.f (IntKind.u64.wrap ((Go.bits .and .u64 bt126.2 2305843009213693951) + (Go.bits .or .u64 (bt126.2 / 2305843009213693952) (IntKind.u64.wrap (bt126.1 * 8)))))).bind fun t128 => (some t128))) = some r := H; have A4 := Aside0.mk A40; clear A40; replace H := Option.bind_eq_some_iff.mp H; obtain ⟨⟨t126, t127⟩, A50, H⟩ := H; replace H : ((field_Of.f (IntKind.u64.wrap ((Go.bits .and .u64 t127 2305843009213693951) + (Go.bits .or .u64 (t127 / 2305843009213693952) (IntKind.u64.wrap (t126 * 8)))))).bind fun t128 => (some t128)) = some r := H; have A5 := Aside0.mk A50; clear A50
 replace H := Option.bind_eq_some_iff.mp H; obtain ⟨t128, A60, H⟩ := H; replace H : (some t128) = some r := H; have A6 := Aside0.mk A60; clear A60; obtain rfl := Option.some.inj H
 go_enter Tryd.func38, Tryd.ntmps38
 go_wp2_with (first | ((with_reducible refine gate_callee (f := 44) rfl ?_); refine goesL_ (some 9) rfl rfl Tryd.func44 (by kernel_rfl) rfl #[.int .u64 a0] rfl (by (try simp only [List.map_toArray, List.map_cons, List.map_nil]); first | done | rfl | (simp only [List.length_drop, List.length_take]; rfl)) ?_; (with_reducible refine (field_Of.calls a0 t124 _ A3.out).mono ?_); rintro e w' ⟨rfl, ⟨nd, rfl⟩⟩; refine ⟨_, rfl, ?_⟩) | ((with_reducible refine gate_callee (f := 44) rfl ?_); refine goesL_ (some 11) rfl rfl Tryd.func44 (by kernel_rfl) rfl #[.int .u64 a1] rfl (by (try simp only [List.map_toArray, List.map_cons, List.map_nil]); first | done | rfl | (simp only [List.length_drop, List.length_take]; rfl)) ?_; (with_reducible refine (field_Of.calls a1 t125 _ A4.out).mono ?_); rintro e w' ⟨rfl, ⟨nd, rfl⟩⟩; refine ⟨_, rfl, ?_⟩) | ((with_reducible refine gate_callee (f := 45) rfl ?_); refine goesL_ (some 12) rfl rfl Tryd.func45 (by kernel_rfl) rfl #[.int .u64 t124, .int .u64 t125] rfl (by (try simp only [List.map_toArray, List.map_cons, List.map_nil]); first | done | rfl | (simp only [List.length_drop, List.length_take]; rfl)) ?_; (with_reducible refine (bits_Mul64.calls t124 t125 t126 t127 _ A5.out).mono ?_); rintro e w' ⟨rfl, ⟨nd, rfl⟩⟩; refine ⟨_, rfl, ?_⟩) | ((with_reducible refine gate_callee (f := 44) rfl ?_); refine goesL_ (some 23) rfl rfl Tryd.func44 (by kernel_rfl) rfl #[.int .u64 (IntKind.u64.wrap ((Go.bits .and .u64 t127 2305843009213693951) + (Go.bits .or .u64 (t127 / 2305843009213693952) (IntKind.u64.wrap (t126 * 8)))))] rfl (by (try simp only [List.map_toArray, List.map_cons, List.map_nil]); first | done | rfl | (simp only [List.length_drop, List.length_take]; rfl)) ?_; (with_reducible refine (field_Of.calls (IntKind.u64.wrap ((Go.bits .and .u64 t127 2305843009213693951) + (Go.bits .or .u64 (t127 / 2305843009213693952) (IntKind.u64.wrap (t126 * 8))))) t128 _ A6.out).mono ?_); rintro e w' ⟨rfl, ⟨nd, rfl⟩⟩; refine ⟨_, rfl, ?_⟩))
 go_ret; exact ⟨by first | rfl | (simp; done) | (simp [*]; done), by repeat (first | exact Drawn0.refl _ | apply Drawn0.step)⟩

/-! ### field_Pow: function 43 -/
def field_Pow.l0 : Nat → Int → Int → Int → Option (Int)
  | 0, _, _, _ => none
  | k + 1, x0, x1, x5 => if x1 > 0 then (if (Go.bits .and .u64 x1 1) = 1 then ((field_Mul.f x5 x0).bind fun t130 => ((field_Mul.f x0 x0).bind fun t131 => (field_Pow.l0 k t131 (x1 / 2) t130))) else ((field_Mul.f x0 x0).bind fun t132 => (field_Pow.l0 k t132 (x1 / 2) x5))) else (some x5)
def field_Pow.f (k : Nat) (a0 : Int) (a1 : Int) : Option (Int) := (field_Of.f a0).bind fun t129 => (field_Pow.l0 k t129 a1 1)
theorem field_Pow.mono_l : ∀ k, (∀ y0 y1 y2, LeO (field_Pow.l0 k y0 y1 y2) (field_Pow.l0 (k + 1) y0 y1 y2))
  | 0 => fun _ _ _ r h => by simp [field_Pow.l0] at h
  | k + 1 => by
    have ih0 := field_Pow.mono_l k
    · intro y0 y1 y2
      unfold field_Pow.l0
      repeat' first
      | (with_reducible exact ih0 _ _ _)
      | (with_reducible exact LeO.refl _)
      | (with_reducible exact LeO.none _)
      | (with_reducible refine LeO.ite ?_ ?_)
      | (with_reducible refine LeO.bind ?_ (fun _ => ?_))
      | exact ih0 _ _ _
      | exact LeO.none _
      | refine LeO.ite ?_ ?_
      | refine LeO.bind ?_ (fun _ => ?_)
theorem field_Pow.mono : ∀ a0 a1 k, LeO (field_Pow.f k a0 a1) (field_Pow.f (k + 1) a0 a1) := by
  intro a0 a1 k
  have ih0 := field_Pow.mono_l k
  unfold field_Pow.f
  repeat' first
      | (with_reducible exact ih0 _ _ _)
      | (with_reducible exact LeO.refl _)
      | (with_reducible exact LeO.none _)
      | (with_reducible refine LeO.ite ?_ ?_)
      | (with_reducible refine LeO.bind ?_ (fun _ => ?_))
      | exact ih0 _ _ _
      | exact LeO.none _
      | refine LeO.ite ?_ ?_
      | refine LeO.bind ?_ (fun _ => ?_)
set_option maxHeartbeats 80000000 in
set_option maxRecDepth 100000 in
theorem field_Pow.calls (k : Nat) (a0 : Int) (a1 : Int) (r : Int) (w : World) (h : field_Pow.f k a0 a1 = some r) :
    Calls Tryd.prog 43 #[.int .u64 a0, .int .u64 a1] w fun e w' => e = .returned (.int .u64 r) ∧ Drawn0 w w' := by
 have H : ((field_Of.f a0).bind fun t129 => (field_Pow.l0 k t129 a1 1)) = some r := h; clear h; replace H := Option.bind_eq_some_iff.mp H; obtain ⟨t129, A30, H⟩ := H; replace H : (field_Pow.l0 k t129 a1 1) = some r := H; have A3 := Aside0.mk A30; clear A30; have H' := Aside0.mk H; clear H
 go_enter Tryd.func43, Tryd.ntmps43
 go_wp2_with (first | ((with_reducible refine gate_callee (f := 44) rfl ?_); refine goesL_ (some 7) rfl rfl Tryd.func44 (by kernel_rfl) rfl #[.int .u64 a0] rfl (by (try simp only [List.map_toArray, List.map_cons, List.map_nil]); first | done | rfl | (simp only [List.length_drop, List.length_take]; rfl)) ?_; (with_reducible refine (field_Of.calls a0 t129 _ A3.out).mono ?_); rintro e w' ⟨rfl, ⟨nd, rfl⟩⟩; refine ⟨_, rfl, ?_⟩))
 go_loopg [0, 1, 5] k (fun kq v0 v1 v5 w' => ∃ (x0_1 : Int) (x1_1 : Int) (x5_1 : Int), v0 = .int .u64 x0_1 ∧ v1 = .int .u64 x1_1 ∧ v5 = .int .u64 x5_1 ∧ Aside0 (field_Pow.l0 kq x0_1 x1_1 x5_1 = some r) ∧ Aside0 (kq ≤ k) ∧ Drawn0 w w')
 case atStart => exact ⟨(t129), (a1), (1), (by first | rfl | (simp; done) | (simp [*]; done)), (by first | rfl | (simp; done) | (simp [*]; done)), (by first | rfl | (simp; done) | (simp [*]; done)), H', ⟨Nat.le_refl _⟩, by repeat (first | exact Drawn0.refl _ | apply Drawn0.step)⟩
 case round =>
  clear H'; (try clear p2); obtain ⟨x0_1, x1_1, x5_1, rfl, rfl, rfl, HA, HK1, ⟨m1, rfl⟩⟩ := hrel
  cases gk with
  | zero => exact absurd HA.out (by simp [field_Pow.l0])
  | succ k1 =>
   have H := HA.out; clear HA; simp only [field_Pow.l0] at H
   by_cases c4 : x1_1 > 0
   ·rw [if_pos c4] at H; have c4b0 : decide (0 < x1_1) = true := decide_eq_true c4; clear c4
    by_cases c5 : (Go.bits .and .u64 x1_1 1) = 1
    ·rw [if_pos c5] at H; have c5b0 : ((Go.bits .and .u64 x1_1 1) == 1) = true := beq_iff_eq.mpr c5; have c5b1 : ((Go.bits .and .u64 x1_1 1) != 1) = false := bne_eq_false_iff_eq.mpr c5; clear c5; replace H := Option.bind_eq_some_iff.mp H; obtain ⟨t130, A60, H⟩ := H; replace H : ((field_Mul.f x0_1 x0_1).bind fun t131 => (field_Pow.l0 k1 t131 (x1_1 / 2) t130)) = some r := H; have A6 := Aside0.mk A60; clear A60; replace H := Option.bind_eq_some_iff.mp H; obtain ⟨t131, A70, H⟩ := H; replace H : (field_Pow.l0 k1 t131 (x1_1 / 2) t130) = some r := H; have A7 := Aside0.mk A70; clear A70; have H' := Aside0.mk H; clear H
     go_wp2_with (first | ((with_reducible refine gate_callee (f := 38) rfl ?_); refine goesL_ (some 17) rfl rfl Tryd.func38 (by kernel_rfl) rfl #[.int .u64 x5_1, .int .u64 x0_1] rfl (by (try simp only [List.map_toArray, List.map_cons, List.map_nil]); first | done | rfl | (simp only [List.length_drop, List.length_take]; rfl)) ?_; (with_reducible refine (field_Mul.calls x5_1 x0_1 t130 _ A6.out).mono ?_); rintro e w' ⟨rfl, ⟨nd, rfl⟩⟩; refine ⟨_, rfl, ?_⟩) | ((with_reducible refine gate_callee (f := 38) rfl ?_); refine goesL_ (some 20) rfl rfl Tryd.func38 (by kernel_rfl) rfl #[.int .u64 x0_1, .int .u64 x0_1] rfl (by (try simp only [List.map_toArray, List.map_cons, List.map_nil]); first | done | rfl | (simp only [List.length_drop, List.length_take]; rfl)) ?_; (with_reducible refine (field_Mul.calls x0_1 x0_1 t131 _ A7.out).mono ?_); rintro e w' ⟨rfl, ⟨nd, rfl⟩⟩; refine ⟨_, rfl, ?_⟩))
     go_roundg k1
     case measure => have := HK1.out; omega
     case rel => exact ⟨(t131), (x1_1 / 2), (t130), (by first | rfl | (simp; done) | (simp [*]; done)), (by first | rfl | (simp; done) | (simp [*]; done)), (by first | rfl | (simp; done) | (simp [*]; done)), H', ⟨by have := HK1.out; omega⟩, by repeat (first | exact Drawn0.refl _ | apply Drawn0.step)⟩
    ·rw [if_neg c5] at H; have c5b0 : ((Go.bits .and .u64 x1_1 1) == 1) = false := beq_eq_false_iff_ne.mpr c5; have c5b1 : ((Go.bits .and .u64 x1_1 1) != 1) = true := bne_iff_ne.mpr c5; replace H := Option.bind_eq_some_iff.mp H; obtain ⟨t132, A80, H⟩ := H; replace H : (field_Pow.l0 k1 t132 (x1_1 / 2) x5_1) = some r := H; have A8 := Aside0.mk A80; clear A80; have H' := Aside0.mk H; clear H
     go_wp2_with (first | ((with_reducible refine gate_callee (f := 38) rfl ?_); refine goesL_ (some 20) rfl rfl Tryd.func38 (by kernel_rfl) rfl #[.int .u64 x0_1, .int .u64 x0_1] rfl (by (try simp only [List.map_toArray, List.map_cons, List.map_nil]); first | done | rfl | (simp only [List.length_drop, List.length_take]; rfl)) ?_; (with_reducible refine (field_Mul.calls x0_1 x0_1 t132 _ A8.out).mono ?_); rintro e w' ⟨rfl, ⟨nd, rfl⟩⟩; refine ⟨_, rfl, ?_⟩))
     go_roundg k1
     case measure => have := HK1.out; omega
     case rel => exact ⟨(t132), (x1_1 / 2), (x5_1), (by first | rfl | (simp; done) | (simp [*]; done)), (by first | rfl | (simp; done) | (simp [*]; done)), (by first | rfl | (simp; done) | (simp [*]; done)), H', ⟨by have := HK1.out; omega⟩, by repeat (first | exact Drawn0.refl _ | apply Drawn0.step)⟩
   ·rw [if_neg c4] at H; have c4b0 : decide (0 < x1_1) = false := decide_eq_false c4; clear c4; obtain rfl := Option.some.inj H
    go_wp2
    go_ret; exact ⟨by first | rfl | (simp; done) | (simp [*]; done), by repeat (first | exact Drawn0.refl _ | apply Drawn0.step)⟩

end Go.Proofs.YteakbghjhckoeaaDoor.PBitmapGrows
