/- The functions that a law uses, each as a plain function, with the proof that a call of the Go function comes to its answer. Condition of each: the arguments read as the data that it names, and the plain function has an answer. Written by a program of this session (standin.py). -/
import Derived.Test.YtojmpdjbhplgkaaPIpfixJoinsx0
import Derived.Test.YtojmpdjbhplgkaaPIpfixJoinsx1
import Derived.Test.YtojmpdjbhplgkaaPIpfixJoinsx3
import Derived.Lib.SliceRun
namespace Go.Proofs.Ytojmpdjbhplgkaa.PIpfixJoins
open Go.RowKit Go.Proofs.YtojmpdjbhplgkaaW.PrintWords Go.Proofs.YtojmpdjbhplgkaaW.PrintLast Go.Proofs.YtojmpdjbhplgkaaW.PrintMore
attribute [local go_sem] max2_int min2_int max_two min_two max_three min_three max_four min_four   -- for this text's walks alone
set_option linter.unusedVariables false
set_option linter.unusedSimpArgs false

/-! ### ipfix_Record: function 13 -/
mutual
def ipfix_Record.j0 : Nat → List ByteArray → Bool → Int → List (S82) → Option (ByteArray × Int)
  | 0, _, _, _, _ => none
  | k + 1, x1, x20, x195000, x195001 => if x20 = true then (some ((⟨#[]⟩ : ByteArray), 1)) else ((abi_NoEscape.f (⟨#[]⟩ : ByteArray)).bind fun bt196 => (ipfix_Record.l0 k x1 (x1.length : Int) 0 x195000 x195001 bt196.1 bt196.2))
def ipfix_Record.l0 : Nat → List ByteArray → Int → Int → Int → List (S82) → ByteArray → Bool → Option (ByteArray × Int)
  | 0, _, _, _, _, _, _, _ => none
  | k + 1, x21, x22, x23, x195000, x195001, x199000, x199001 => if x23 < x22 then (if 0 ≤ x23 then (if x23 < (x21.length : Int) then (if x23 < (x195001.length : Int) then (if ((rd_T82 x195001 x23).f1) = 65535 then (ipfix_Record.j2 k (rdOf ByteArray.empty x21 x23) ((rd_T82 x195001 x23).f1) x21 x22 x23 (decide (((rdOf ByteArray.empty x21 x23).size : Int) > 65535)) x195000 x195001 x199000 x199001) else (if ((rdOf ByteArray.empty x21 x23).size : Int) = ((rd_T82 x195001 x23).f1) then (ipfix_Record.j2 k (rdOf ByteArray.empty x21 x23) ((rd_T82 x195001 x23).f1) x21 x22 x23 (decide (((rdOf ByteArray.empty x21 x23).size : Int) > 65535)) x195000 x195001 x199000 x199001) else (ipfix_Record.j2 k (rdOf ByteArray.empty x21 x23) ((rd_T82 x195001 x23).f1) x21 x22 x23 true x195000 x195001 x199000 x199001))) else (none)) else (none)) else (none)) else ((strings_Builder_String.f x199000 x199001).bind fun bt199 => (some (bt199.1, 0)))
def ipfix_Record.j2 : Nat → ByteArray → Int → List ByteArray → Int → Int → Bool → Int → List (S82) → ByteArray → Bool → Option (ByteArray × Int)
  | 0, _, _, _, _, _, _, _, _, _, _ => none
  | k + 1, x8, x9, x21, x22, x23, x34, x195000, x195001, x199000, x199001 => if x34 = true then (some ((⟨#[]⟩ : ByteArray), 1)) else (if x9 = 65535 then (ipfix_Record.j3 k x8 x9 x21 x22 x23 (decide ((x8.size : Int) < 255)) x195000 x195001 x199000 x199001) else (ipfix_Record.j3 k x8 x9 x21 x22 x23 false x195000 x195001 x199000 x199001))
def ipfix_Record.j3 : Nat → ByteArray → Int → List ByteArray → Int → Int → Bool → Int → List (S82) → ByteArray → Bool → Option (ByteArray × Int)
  | 0, _, _, _, _, _, _, _, _, _, _ => none
  | k + 1, x8, x9, x21, x22, x23, x48, x195000, x195001, x199000, x199001 => if x48 = true then ((ipfix_put.f k (x8.size : Int) 1).bind fun t204 => ((strings_Builder_WriteString.f x199000 x199001 t204).bind fun bt205 => ((strings_Builder_WriteString.f bt205.2.2.1 bt205.2.2.2 x8).bind fun bt209 => (ipfix_Record.l0 k x21 x22 (wrap64 (x23 + 1)) x195000 x195001 bt209.2.2.1 bt209.2.2.2)))) else (if x9 = 65535 then ((ipfix_put.f k 255 1).bind fun t213 => ((ipfix_put.f k (x8.size : Int) 2).bind fun t214 => (if t213.size + t214.size ≤ 9223372036854775807 then ((strings_Builder_WriteString.f x199000 x199001 (t213 ++ t214)).bind fun bt215 => ((strings_Builder_WriteString.f bt215.2.2.1 bt215.2.2.2 x8).bind fun bt219 => (ipfix_Record.l0 k x21 x22 (wrap64 (x23 + 1)) x195000 x195001 bt219.2.2.1 bt219.2.2.2))) else (none)))) else ((strings_Builder_WriteString.f x199000 x199001 x8).bind fun bt223 => (ipfix_Record.l0 k x21 x22 (wrap64 (x23 + 1)) x195000 x195001 bt223.2.2.1 bt223.2.2.2)))
end
def ipfix_Record.f (k : Nat) (a0_0 : Int) (l0_1 : List (S82)) (l1 : List ByteArray) : Option (ByteArray × Int) := (ipfix_Template_right.f a0_0 l0_1).bind fun t195 => (if t195 = true then (ipfix_Record.j0 k l1 ((l1.length : Int) != (l0_1.length : Int)) a0_0 l0_1) else (ipfix_Record.j0 k l1 true a0_0 l0_1))
theorem ipfix_Record.mono_l : ∀ k, (∀ y0 y1 y2 y3, LeO (ipfix_Record.j0 k y0 y1 y2 y3) (ipfix_Record.j0 (k + 1) y0 y1 y2 y3)) ∧ (∀ y0 y1 y2 y3 y4 y5 y6, LeO (ipfix_Record.l0 k y0 y1 y2 y3 y4 y5 y6) (ipfix_Record.l0 (k + 1) y0 y1 y2 y3 y4 y5 y6)) ∧ (∀ y0 y1 y2 y3 y4 y5 y6 y7 y8 y9, LeO (ipfix_Record.j2 k y0 y1 y2 y3 y4 y5 y6 y7 y8 y9) (ipfix_Record.j2 (k + 1) y0 y1 y2 y3 y4 y5 y6 y7 y8 y9)) ∧ (∀ y0 y1 y2 y3 y4 y5 y6 y7 y8 y9, LeO (ipfix_Record.j3 k y0 y1 y2 y3 y4 y5 y6 y7 y8 y9) (ipfix_Record.j3 (k + 1) y0 y1 y2 y3 y4 y5 y6 y7 y8 y9))
  | 0 => ⟨fun _ _ _ _ r h => by simp [ipfix_Record.j0] at h, fun _ _ _ _ _ _ _ r h => by simp [ipfix_Record.l0] at h, fun _ _ _ _ _ _ _ _ _ _ r h => by simp [ipfix_Record.j2] at h, fun _ _ _ _ _ _ _ _ _ _ r h => by simp [ipfix_Record.j3] at h⟩
  | k + 1 => by
    obtain ⟨ih0, ih1, ih2, ih3⟩ := ipfix_Record.mono_l k
    refine ⟨?_, ?_, ?_, ?_⟩
    · intro y0 y1 y2 y3
      unfold ipfix_Record.j0
      repeat' first
      | (with_reducible exact ih0 _ _ _ _)
      | (with_reducible exact ih1 _ _ _ _ _ _ _)
      | (with_reducible exact ih2 _ _ _ _ _ _ _ _ _ _)
      | (with_reducible exact ih3 _ _ _ _ _ _ _ _ _ _)
      | (with_reducible exact ipfix_put.mono _ _ _)
      | (with_reducible exact LeO.refl _)
      | (with_reducible exact LeO.none _)
      | (with_reducible refine LeO.ite ?_ ?_)
      | (with_reducible refine LeO.bind ?_ (fun _ => ?_))
      | exact ih0 _ _ _ _
      | exact ih1 _ _ _ _ _ _ _
      | exact ih2 _ _ _ _ _ _ _ _ _ _
      | exact ih3 _ _ _ _ _ _ _ _ _ _
      | exact ipfix_put.mono _ _ _
      | exact LeO.none _
      | refine LeO.ite ?_ ?_
      | refine LeO.bind ?_ (fun _ => ?_)
    · intro y0 y1 y2 y3 y4 y5 y6
      unfold ipfix_Record.l0
      repeat' first
      | (with_reducible exact ih0 _ _ _ _)
      | (with_reducible exact ih1 _ _ _ _ _ _ _)
      | (with_reducible exact ih2 _ _ _ _ _ _ _ _ _ _)
      | (with_reducible exact ih3 _ _ _ _ _ _ _ _ _ _)
      | (with_reducible exact ipfix_put.mono _ _ _)
      | (with_reducible exact LeO.refl _)
      | (with_reducible exact LeO.none _)
      | (with_reducible refine LeO.ite ?_ ?_)
      | (with_reducible refine LeO.bind ?_ (fun _ => ?_))
      | exact ih0 _ _ _ _
      | exact ih1 _ _ _ _ _ _ _
      | exact ih2 _ _ _ _ _ _ _ _ _ _
      | exact ih3 _ _ _ _ _ _ _ _ _ _
      | exact ipfix_put.mono _ _ _
      | exact LeO.none _
      | refine LeO.ite ?_ ?_
      | refine LeO.bind ?_ (fun _ => ?_)
    · intro y0 y1 y2 y3 y4 y5 y6 y7 y8 y9
      unfold ipfix_Record.j2
      repeat' first
      | (with_reducible exact ih0 _ _ _ _)
      | (with_reducible exact ih1 _ _ _ _ _ _ _)
      | (with_reducible exact ih2 _ _ _ _ _ _ _ _ _ _)
      | (with_reducible exact ih3 _ _ _ _ _ _ _ _ _ _)
      | (with_reducible exact ipfix_put.mono _ _ _)
      | (with_reducible exact LeO.refl _)
      | (with_reducible exact LeO.none _)
      | (with_reducible refine LeO.ite ?_ ?_)
      | (with_reducible refine LeO.bind ?_ (fun _ => ?_))
      | exact ih0 _ _ _ _
      | exact ih1 _ _ _ _ _ _ _
      | exact ih2 _ _ _ _ _ _ _ _ _ _
      | exact ih3 _ _ _ _ _ _ _ _ _ _
      | exact ipfix_put.mono _ _ _
      | exact LeO.none _
      | refine LeO.ite ?_ ?_
      | refine LeO.bind ?_ (fun _ => ?_)
    · intro y0 y1 y2 y3 y4 y5 y6 y7 y8 y9
      unfold ipfix_Record.j3
      repeat' first
      | (with_reducible exact ih0 _ _ _ _)
      | (with_reducible exact ih1 _ _ _ _ _ _ _)
      | (with_reducible exact ih2 _ _ _ _ _ _ _ _ _ _)
      | (with_reducible exact ih3 _ _ _ _ _ _ _ _ _ _)
      | (with_reducible exact ipfix_put.mono _ _ _)
      | (with_reducible exact LeO.refl _)
      | (with_reducible exact LeO.none _)
      | (with_reducible refine LeO.ite ?_ ?_)
      | (with_reducible refine LeO.bind ?_ (fun _ => ?_))
      | exact ih0 _ _ _ _
      | exact ih1 _ _ _ _ _ _ _
      | exact ih2 _ _ _ _ _ _ _ _ _ _
      | exact ih3 _ _ _ _ _ _ _ _ _ _
      | exact ipfix_put.mono _ _ _
      | exact LeO.none _
      | refine LeO.ite ?_ ?_
      | refine LeO.bind ?_ (fun _ => ?_)
theorem ipfix_Record.mono : ∀ a0 a1 a2 k, LeO (ipfix_Record.f k a0 a1 a2) (ipfix_Record.f (k + 1) a0 a1 a2) := by
  intro a0 a1 a2 k
  obtain ⟨ih0, ih1, ih2, ih3⟩ := ipfix_Record.mono_l k
  unfold ipfix_Record.f
  repeat' first
      | (with_reducible exact ih0 _ _ _ _)
      | (with_reducible exact ih1 _ _ _ _ _ _ _)
      | (with_reducible exact ih2 _ _ _ _ _ _ _ _ _ _)
      | (with_reducible exact ih3 _ _ _ _ _ _ _ _ _ _)
      | (with_reducible exact ipfix_put.mono _ _ _)
      | (with_reducible exact LeO.refl _)
      | (with_reducible exact LeO.none _)
      | (with_reducible refine LeO.ite ?_ ?_)
      | (with_reducible refine LeO.bind ?_ (fun _ => ?_))
      | exact ih0 _ _ _ _
      | exact ih1 _ _ _ _ _ _ _
      | exact ih2 _ _ _ _ _ _ _ _ _ _
      | exact ih3 _ _ _ _ _ _ _ _ _ _
      | exact ipfix_put.mono _ _ _
      | exact LeO.none _
      | refine LeO.ite ?_ ?_
      | refine LeO.bind ?_ (fun _ => ?_)
set_option maxHeartbeats 8000000 in
set_option maxRecDepth 100000 in
theorem ipfix_Record.calls (k : Nat) (a0_0 : Int) (A0_1 : Option Addr) (c0_1 : Nat) (l0_1 : List (S82)) (A1 : Option Addr) (c1 : Nat) (l1 : List ByteArray) (r1 : ByteArray) (r2 : Int) (w : World) (hr0_1 : Kd.C k82 w A0_1 l0_1.length l0_1) (hc0_1 : l0_1.length ≤ c0_1) (hr1 : Kd.C Kd.string w A1 l1.length l1) (hc1 : l1.length ≤ c1) (h : ipfix_Record.f k a0_0 l0_1 l1 = some (r1, r2)) :
    Calls Try.prog 13 #[.agg #[.int .i64 a0_0, .slice A0_1 l0_1.length c0_1], .slice A1 l1.length c1] w fun e w' => e = .returned (.tuple #[.string r1, .int .i64 r2]) ∧ Below w.heap.size w w' := by
  have hu37 := Try.underlying37
  have HR0_1 := Aside0.mk hr0_1
  have HC0_1 := Aside0.mk hc0_1
  clear hr0_1 hc0_1
  have HR1 := Aside0.mk hr1
  have HC1 := Aside0.mk hc1
  clear hr1 hc1
  have HB := Aside0.mk (Below.refl w.heap.size w)
  have H : ((ipfix_Template_right.f a0_0 l0_1).bind fun t195 => (if t195 = true then (ipfix_Record.j0 k l1 ((l1.length : Int) != (l0_1.length : Int)) a0_0 l0_1) else (ipfix_Record.j0 k l1 true a0_0 l0_1))) = some (r1, r2) := h
  clear h
  have HC3 := Aside0.mk H
  clear H
  go_enter Try.func13, Try.ntmps13
  go_upto_region 1 with (first | ((with_reducible refine gate_dst (N := 2) rfl ?_); (try (refine gate_guard (by rfl) ?_; dsimp only)); refine box_event ?hg (N := 2) ?hd (cs := #[.int .i64 a0_0, .slice A0_1 l0_1.length c0_1]) (t := 37) ?hr ?_; (case hd => rfl); (case hg => rfl); (case hr => first | (go_simp; done) | (go_simp; rfl)); intro gb194 hg w4 hbox hb; have n0_ := Aside0.mk (below_step (by repeat (first | (with_reducible first | exact HB.out | apply below_alloc | apply pw_below_drewN | apply below_drew1) | exact HB.out)) hb); have n1_ := Aside0.mk (hbox); have n2_ := Aside0.mk ((by rw [hg]; exact (below_size (by repeat (first | (with_reducible first | exact HB.out | apply below_alloc | apply pw_below_drewN | apply below_drew1) | exact HB.out))) : w.heap.size ≤ gb194)); have n3_ := Aside0.mk ((by rw [hg]; exact (below_size (by repeat (first | (with_reducible first | exact HB.out | apply below_alloc | apply pw_below_drewN | apply below_drew1) | exact HB.out))) : w.heap.size ≤ gb194)); clear HB; have HB := n0_; have BK194 := n1_; have GW194 := n2_; have GE194 := n3_; clear n0_ n1_ n2_ n3_; clear hb hbox hg))
  (try simp only [Act.put, List.setIfInBounds_toArray, List.set_cons_zero, List.set_cons_succ])
  go_cut [20] (fun v20 wc => ∃ (kq : Nat) (x20_2 : Bool), v20 = .bool x20_2 ∧ Aside0 (ipfix_Record.j0 kq l1 x20_2 a0_0 l0_1 = some (r1, r2)) ∧ Aside0 (kq ≤ k) ∧ Aside0 (wc.heap[gb194]? = some (.cells #[.int .i64 a0_0, (.slice A0_1 l0_1.length c0_1)] 37 (0, 0))) ∧ Aside0 (Below w.heap.size w wc))
  case first =>
    have H := HC3.out
    clear HC3
    replace H := Option.bind_eq_some_iff.mp H
    obtain ⟨t195, A50, H⟩ := H
    replace H : (if t195 = true then (ipfix_Record.j0 k l1 ((l1.length : Int) != (l0_1.length : Int)) a0_0 l0_1) else (ipfix_Record.j0 k l1 true a0_0 l0_1)) = some (r1, r2) := H
    have A5 := Aside0.mk A50
    clear A50
    by_cases c6 : t195 = true
    · subst c6
      have H1 : (ipfix_Record.j0 k l1 ((l1.length : Int) != (l0_1.length : Int)) a0_0 l0_1) = some (r1, r2) := by rw [if_pos rfl] at H; exact H
      clear H
      have H := H1
      clear H1
      have H' := Aside0.mk H
      clear H
      have hcz7_0 : w4.cell? ⟨gb194, 0, none⟩ = some (.int .i64 a0_0) := (blk_cell BK194.out 0).trans rfl
      have hcz7_1 : w4.cell? ⟨gb194, 1, none⟩ = some (.slice A0_1 l0_1.length c0_1) := (blk_cell BK194.out 1).trans rfl
      have hfz7_0 := blk_frozen BK194.out 0
      have hfz7_1 := blk_frozen BK194.out 1
      go_wp2_with (first | ((with_reducible refine gate_callee (f := 34) rfl ?_); refine goesL_ (some 11) rfl rfl Try.func34 (by kernel_rfl) rfl #[.agg #[.int .i64 a0_0, .slice A0_1 l0_1.length c0_1]] rfl (by (try simp only [List.map_toArray, List.map_cons, List.map_nil]); first | done | rfl | (simp only [List.length_drop, List.length_take]; rfl)) ?_; (with_reducible refine (ipfix_Template_right.calls a0_0 _ _ l0_1 true _ ?side1 ?side2 A5.out).mono ?_); (case side1 => repeat (first | exact (Kd.C_below HR0_1.out HB.out) | (with_reducible refine Kd.C_alloc ?_ _) | (with_reducible refine Kd.C_drewN ?_ _) | (with_reducible refine Kd.C_drew ?_))); (case side2 => exact HC0_1.out); rintro e w8 ⟨rfl, hb⟩; refine ⟨_, rfl, ?_⟩; have n0_ := Aside0.mk (blk_below (g := gb194) (o := .cells #[.int .i64 a0_0, .slice A0_1 l0_1.length c0_1] 37 (0, 0)) (by (with_reducible repeat (first | refine blk_drewN ?_ _ | refine blk_drew ?_ | refine blk_alloc ?_ _)); exact BK194.out) hb); have n1_ := Aside0.mk (below_step (by repeat (first | (with_reducible first | exact HB.out | apply below_alloc | apply pw_below_drewN | apply below_drew1 | refine below_set ?_ GE194.out) | exact HB.out)) hb); clear BK194; clear HB; have BK194 := n0_; have HB := n1_; clear n0_ n1_; (try clear hb); (try clear hb2); (try clear hk); (try clear hi); have hcz9_0 : w8.cell? ⟨gb194, 0, none⟩ = some (.int .i64 a0_0) := (blk_cell BK194.out 0).trans rfl; have hcz9_1 : w8.cell? ⟨gb194, 1, none⟩ = some (.slice A0_1 l0_1.length c0_1) := (blk_cell BK194.out 1).trans rfl; have hfz9_0 := blk_frozen BK194.out 0; have hfz9_1 := blk_frozen BK194.out 1))
      go_meet
      case rel => exact ⟨_, (((l1.length : Int) != (l0_1.length : Int))), (by first | rfl | (simp; done) | (simp [*]; done)), H', ⟨by first | omega | exact Nat.le_refl _⟩, ⟨by (with_reducible repeat (first | refine blk_drewN ?_ _ | refine blk_drew ?_ | refine blk_alloc ?_ _)); exact BK194.out⟩, ⟨by repeat (first | (with_reducible first | exact HB.out | apply below_alloc | apply pw_below_drewN | apply below_drew1 | refine below_set ?_ GE194.out) | exact HB.out)⟩⟩
    · replace c6 := Bool.eq_false_iff.mpr c6
      subst c6
      have H1 : (ipfix_Record.j0 k l1 true a0_0 l0_1) = some (r1, r2) := by rw [if_neg (show ¬ (false = true) by decide)] at H; exact H
      clear H
      have H := H1
      clear H1
      have H' := Aside0.mk H
      clear H
      have hcz10_0 : w4.cell? ⟨gb194, 0, none⟩ = some (.int .i64 a0_0) := (blk_cell BK194.out 0).trans rfl
      have hcz10_1 : w4.cell? ⟨gb194, 1, none⟩ = some (.slice A0_1 l0_1.length c0_1) := (blk_cell BK194.out 1).trans rfl
      have hfz10_0 := blk_frozen BK194.out 0
      have hfz10_1 := blk_frozen BK194.out 1
      go_wp2_with (first | ((with_reducible refine gate_callee (f := 34) rfl ?_); refine goesL_ (some 11) rfl rfl Try.func34 (by kernel_rfl) rfl #[.agg #[.int .i64 a0_0, .slice A0_1 l0_1.length c0_1]] rfl (by (try simp only [List.map_toArray, List.map_cons, List.map_nil]); first | done | rfl | (simp only [List.length_drop, List.length_take]; rfl)) ?_; (with_reducible refine (ipfix_Template_right.calls a0_0 _ _ l0_1 false _ ?side1 ?side2 A5.out).mono ?_); (case side1 => repeat (first | exact (Kd.C_below HR0_1.out HB.out) | (with_reducible refine Kd.C_alloc ?_ _) | (with_reducible refine Kd.C_drewN ?_ _) | (with_reducible refine Kd.C_drew ?_))); (case side2 => exact HC0_1.out); rintro e w11 ⟨rfl, hb⟩; refine ⟨_, rfl, ?_⟩; have n0_ := Aside0.mk (blk_below (g := gb194) (o := .cells #[.int .i64 a0_0, .slice A0_1 l0_1.length c0_1] 37 (0, 0)) (by (with_reducible repeat (first | refine blk_drewN ?_ _ | refine blk_drew ?_ | refine blk_alloc ?_ _)); exact BK194.out) hb); have n1_ := Aside0.mk (below_step (by repeat (first | (with_reducible first | exact HB.out | apply below_alloc | apply pw_below_drewN | apply below_drew1 | refine below_set ?_ GE194.out) | exact HB.out)) hb); clear BK194; clear HB; have BK194 := n0_; have HB := n1_; clear n0_ n1_; (try clear hb); (try clear hb2); (try clear hk); (try clear hi)))
      go_meet
      case rel => exact ⟨_, (true), (by first | rfl | (simp; done) | (simp [*]; done)), H', ⟨by first | omega | exact Nat.le_refl _⟩, ⟨by (with_reducible repeat (first | refine blk_drewN ?_ _ | refine blk_drew ?_ | refine blk_alloc ?_ _)); exact BK194.out⟩, ⟨by repeat (first | (with_reducible first | exact HB.out | apply below_alloc | apply pw_below_drewN | apply below_drew1 | refine below_set ?_ GE194.out) | exact HB.out)⟩⟩
  case rest =>
    clear HC3
    try clear c1
    try clear p2
    try clear c3
    try clear c6
    try clear hcz10_0
    try clear hcz10_1
    try clear hcz7_0
    try clear hcz7_1
    try clear hcz9_0
    try clear hcz9_1
    try clear hfz10_0
    try clear hfz10_1
    try clear hfz7_0
    try clear hfz7_1
    try clear hfz9_0
    try clear hfz9_1
    obtain ⟨kq, x20_2, rfl, HA, HJ2, BK194, HB⟩ := hcut
    cases kq with
    | zero => exact absurd HA.out (by simp [ipfix_Record.j0])
    | succ kj2 =>
      have H := HA.out
      clear HA
      simp only [ipfix_Record.j0] at H
      by_cases c12 : x20_2 = true
      · subst c12
        have H1 : (some ((⟨#[]⟩ : ByteArray), 1)) = some (r1, r2) := by rw [if_pos rfl] at H; exact H
        clear H
        have H := H1
        clear H1
        simp only [Option.some.injEq, Prod.mk.injEq] at H
        obtain ⟨rfl, rfl⟩ := H
        go_wp2
        go_ret2
        exact ⟨by first | rfl | (simp [errW_none, errW_some] <;> rfl) | (simp [*, errW_none, errW_some] <;> rfl), by repeat (first | (with_reducible first | exact HB.out | apply below_alloc | apply pw_below_drewN | apply below_drew1 | refine below_set ?_ GE194.out) | exact HB.out)⟩
      · replace c12 := Bool.eq_false_iff.mpr c12
        subst c12
        have H1 : ((abi_NoEscape.f (⟨#[]⟩ : ByteArray)).bind fun bt196 => (ipfix_Record.l0 kj2 l1 (l1.length : Int) 0 a0_0 l0_1 bt196.1 bt196.2)) = some (r1, r2) := by rw [if_neg (show ¬ (false = true) by decide)] at H; exact H
        clear H
        have H := H1
        clear H1
        replace H := Option.bind_eq_some_iff.mp H
        obtain ⟨⟨t196, t197⟩, A130, H⟩ := H
        replace H : (ipfix_Record.l0 kj2 l1 (l1.length : Int) 0 a0_0 l0_1 t196 t197) = some (r1, r2) := H
        have A13 := Aside0.mk A130
        clear A130
        have H' := Aside0.mk H
        clear H
        go_wp2_with (first | ((with_reducible refine gate_dst (N := 6) rfl ?_); refine box_event ?hg (N := 6) ?hd (cs := #[.pointer none, .slice none 0 0]) (t := 72) ?hr ?_; (case hd => rfl); (case hg => rfl); (case hr => first | (go_simp; done) | (go_simp; rfl)); intro g198 hg_ w14 hbox_ hb2; have hb := below_step (by repeat (first | (with_reducible first | exact HB.out | apply below_alloc | apply pw_below_drewN | apply below_drew1 | refine below_set ?_ GE194.out) | exact HB.out)) hb2; have hge_ : w.heap.size ≤ g198 := (by rw [hg_]; exact (below_size (by repeat (first | (with_reducible first | exact HB.out | apply below_alloc | apply pw_below_drewN | apply below_drew1 | refine below_set ?_ GE194.out) | exact HB.out)))); have hi := Built.IsBld.new (w0 := w) (W := w14) (g := g198) (f0 := t196) (f1 := t197) hbox_ hge_ (by have h_ := A13.out; simp only [abi_NoEscape.f, Option.some.injEq, Prod.mk.injEq] at h_; exact h_.1.symm); clear hge_ hbox_ hg_; have n0_ := Aside0.mk (blk_below (g := gb194) (o := .cells #[.int .i64 a0_0, .slice A0_1 l0_1.length c0_1] 37 (0, 0)) (by (with_reducible repeat (first | refine blk_drewN ?_ _ | refine blk_drew ?_ | refine blk_alloc ?_ _)); exact BK194.out) hb2); have n1_ := Aside0.mk (hb); have n2_ := Aside0.mk (hi); have n3_ := Aside0.mk (Built.IsBld.ne_blk hi (blk_below (g := gb194) (o := .cells #[.int .i64 a0_0, .slice A0_1 l0_1.length c0_1] 37 (0, 0)) (by (with_reducible repeat (first | refine blk_drewN ?_ _ | refine blk_drew ?_ | refine blk_alloc ?_ _)); exact BK194.out) hb2) (by decide)); have n4_ := Aside0.mk (Ne.symm (Built.IsBld.ne_blk hi (blk_below (g := gb194) (o := .cells #[.int .i64 a0_0, .slice A0_1 l0_1.length c0_1] 37 (0, 0)) (by (with_reducible repeat (first | refine blk_drewN ?_ _ | refine blk_drew ?_ | refine blk_alloc ?_ _)); exact BK194.out) hb2) (by decide))); clear BK194; clear HB; have BK194 := n0_; have HB := n1_; have HI198 := n2_; have NB198_194 := n3_; have NB194_198 := n4_; clear n0_ n1_ n2_ n3_ n4_; (try clear hb); (try clear hb2); (try clear hk); (try clear hi)))
        go_loopg [23] kj2 (fun kq v23 w' => ∃ (x23_2 : Int) (x199000_2 : ByteArray) (x199001_2 : Bool), v23 = .int .i64 x23_2 ∧ Aside0 (ipfix_Record.l0 kq l1 (l1.length : Int) x23_2 a0_0 l0_1 x199000_2 x199001_2 = some (r1, r2)) ∧ Aside0 (kq ≤ kj2) ∧ Aside0 (w'.heap[gb194]? = some (.cells #[.int .i64 a0_0, (.slice A0_1 l0_1.length c0_1)] 37 (0, 0))) ∧ Aside0 (Built.IsBld w w' g198 x199000_2 x199001_2) ∧ Aside0 (Below w.heap.size w w'))
        case atStart => exact ⟨(0), (t196), (t197), (by first | rfl | (simp; done) | (simp [*]; done)), H', ⟨Nat.le_refl _⟩, ⟨by (with_reducible repeat (first | refine blk_drewN ?_ _ | refine blk_drew ?_ | refine blk_alloc ?_ _)); exact BK194.out⟩, ⟨by repeat (first | (with_reducible first | exact HI198.out | apply Built.IsBld.alloc | apply Built.IsBld.drewN | apply Built.IsBld.drew | refine Built.IsBld.far ?_ NB198_194.out _ (by (with_reducible repeat (first | apply Built.NonB.set | apply Built.NonB.drewN | apply Built.NonB.drew)); exact Built.NonB.of BK194.out (by simp))) | exact HI198.out)⟩, ⟨by repeat (first | (with_reducible first | exact HB.out | apply below_alloc | apply pw_below_drewN | apply below_drew1 | refine below_set ?_ (Built.IsBld.ge HI198.out) | refine below_set ?_ GE194.out) | exact HB.out)⟩⟩
        case round =>
          clear H'
          try clear c1
          try clear p2
          try clear c3
          try clear c5
          try clear c6
          try clear c12
          try clear c13
          try clear hcz10_0
          try clear hcz10_1
          try clear hcz7_0
          try clear hcz7_1
          try clear hcz9_0
          try clear hcz9_1
          try clear hfz10_0
          try clear hfz10_1
          try clear hfz7_0
          try clear hfz7_1
          try clear hfz9_0
          try clear hfz9_1
          try clear p2
          obtain ⟨x23_2, x199000_2, x199001_2, rfl, HA, HK2, BK194, HI198, HB⟩ := hrel
          cases gk with
          | zero => exact absurd HA.out (by simp [ipfix_Record.l0])
          | succ k2 =>
            have H := HA.out
            clear HA
            simp only [ipfix_Record.l0] at H
            by_cases c15 : x23_2 < (l1.length : Int)
            · rw [if_pos c15] at H
              have c15b0 : decide (x23_2 < (l1.length : Int)) = true := decide_eq_true c15
              clear c15
              by_cases c16 : 0 ≤ x23_2
              · rw [if_pos c16] at H
                have c16b0 : decide (0 ≤ x23_2) = true := decide_eq_true c16
                clear c16
                by_cases c17 : x23_2 < (l1.length : Int)
                · rw [if_pos c17] at H
                  have c17b0 : decide (x23_2 < (l1.length : Int)) = true := decide_eq_true c17
                  clear c17
                  by_cases c18 : x23_2 < (l0_1.length : Int)
                  · rw [if_pos c18] at H
                    have c18b0 : decide (x23_2 < (l0_1.length : Int)) = true := decide_eq_true c18
                    clear c18
                    have HC19 := Aside0.mk H
                    clear H
                    have p202 : 0 ≤ (x23_2 : Int) := of_decide_eq_true (by first | (with_reducible assumption) | assumption)
                    have q202 : x23_2 < (l1.length : Int) := of_decide_eq_true (by first | (with_reducible assumption) | assumption)
                    obtain ⟨ad202, e202, hx202_0⟩ := Kd.at_string HR1.out x23_2 p202 q202
                    cases e202
                    (try replace hx202_0 := (HB.out.cell (World.block_lt_of_cell? w _ hx202_0)).trans hx202_0)
                    replace p202 := eq_true p202
                    replace q202 := eq_true q202
                    have hnb20 := NB194_198.out
                    have hnc20 := NB198_194.out
                    have hcz21_0 : wr.cell? ⟨gb194, 0, none⟩ = some (.int .i64 a0_0) := (blk_cell BK194.out 0).trans rfl
                    have hcz21_1 : wr.cell? ⟨gb194, 1, none⟩ = some (.slice A0_1 l0_1.length c0_1) := (blk_cell BK194.out 1).trans rfl
                    have hfz21_0 := blk_frozen BK194.out 0
                    have hfz21_1 := blk_frozen BK194.out 1
                    have p203 : 0 ≤ (x23_2 : Int) := of_decide_eq_true (by first | (with_reducible assumption) | assumption)
                    have q203 : x23_2 < (l0_1.length : Int) := of_decide_eq_true (by first | (with_reducible assumption) | assumption)
                    obtain ⟨ad203, e203, hx203_0, hx203_1, hx203_2⟩ := at_T82 HR0_1.out x23_2 p203 q203
                    cases e203
                    (try replace hx203_0 := (HB.out.cell (World.block_lt_of_cell? w _ hx203_0)).trans hx203_0)
                    (try replace hx203_1 := (HB.out.cell (World.block_lt_of_cell? w _ hx203_1)).trans hx203_1)
                    (try replace hx203_2 := (HB.out.cell (World.block_lt_of_cell? w _ hx203_2)).trans hx203_2)
                    replace p203 := eq_true p203
                    replace q203 := eq_true q203
                    go_upto_region 8 with (fail)
                    go_cut [34] (fun v34 wc => ∃ (kq : Nat) (x34_18 : Bool), v34 = .bool x34_18 ∧ Aside0 (ipfix_Record.j2 kq (rdOf ByteArray.empty l1 x23_2) ((rd_T82 l0_1 x23_2).f1) l1 (l1.length : Int) x23_2 x34_18 a0_0 l0_1 x199000_2 x199001_2 = some (r1, r2)) ∧ Aside0 (kq ≤ k2) ∧ Aside0 (wc.heap[gb194]? = some (.cells #[.int .i64 a0_0, (.slice (some ad203) l0_1.length c0_1)] 37 (0, 0))) ∧ Aside0 (Built.IsBld w wc g198 x199000_2 x199001_2) ∧ Aside0 (Below w.heap.size w wc))
                    case first =>
                      have H := HC19.out
                      clear HC19
                      by_cases c22 : ((rd_T82 l0_1 x23_2).f1) = 65535
                      · rw [if_pos c22] at H
                        have c22b0 : (((rd_T82 l0_1 x23_2).f1) == 65535) = true := beq_iff_eq.mpr c22
                        have c22b1 : (((rd_T82 l0_1 x23_2).f1) != 65535) = false := bne_eq_false_iff_eq.mpr c22
                        clear c22
                        (first | rw [c22b0] | (simp only [i64_w, i32_w]; rw [c22b0]) | skip)
                        have H' := Aside0.mk H
                        clear H
                        go_wp2
                        go_meet
                        case rel => exact ⟨_, (decide (((rdOf ByteArray.empty l1 x23_2).size : Int) > 65535)), (by first | rfl | (simp; done) | (simp [*]; done)), H', ⟨by have := HJ2.out; have := HK2.out; first | omega | exact Nat.le_refl _⟩, ⟨by (with_reducible repeat (first | refine blk_drewN ?_ _ | refine blk_drew ?_ | refine blk_alloc ?_ _)); exact BK194.out⟩, ⟨by repeat (first | (with_reducible first | exact HI198.out | apply Built.IsBld.alloc | apply Built.IsBld.drewN | apply Built.IsBld.drew | refine Built.IsBld.far ?_ NB198_194.out _ (by (with_reducible repeat (first | apply Built.NonB.set | apply Built.NonB.drewN | apply Built.NonB.drew)); exact Built.NonB.of BK194.out (by simp))) | exact HI198.out)⟩, ⟨by repeat (first | (with_reducible first | exact HB.out | apply below_alloc | apply pw_below_drewN | apply below_drew1 | refine below_set ?_ (Built.IsBld.ge HI198.out) | refine below_set ?_ GE194.out) | exact HB.out)⟩⟩
                      · rw [if_neg c22] at H
                        have c22b0 : (((rd_T82 l0_1 x23_2).f1) == 65535) = false := beq_eq_false_iff_ne.mpr c22
                        have c22b1 : (((rd_T82 l0_1 x23_2).f1) != 65535) = true := bne_iff_ne.mpr c22
                        (first | rw [c22b0] | (simp only [i64_w, i32_w]; rw [c22b0]) | skip)
                        by_cases c23 : ((rdOf ByteArray.empty l1 x23_2).size : Int) = ((rd_T82 l0_1 x23_2).f1)
                        · rw [if_pos c23] at H
                          have c23b0 : (((rdOf ByteArray.empty l1 x23_2).size : Int) == ((rd_T82 l0_1 x23_2).f1)) = true := beq_iff_eq.mpr c23
                          have c23b1 : (((rdOf ByteArray.empty l1 x23_2).size : Int) != ((rd_T82 l0_1 x23_2).f1)) = false := bne_eq_false_iff_eq.mpr c23
                          clear c23
                          have H' := Aside0.mk H
                          clear H
                          go_wp2
                          go_meet
                          case rel => exact ⟨_, (decide (((rdOf ByteArray.empty l1 x23_2).size : Int) > 65535)), (by first | rfl | (simp; done) | (simp [*]; done)), H', ⟨by have := HJ2.out; have := HK2.out; first | omega | exact Nat.le_refl _⟩, ⟨by (with_reducible repeat (first | refine blk_drewN ?_ _ | refine blk_drew ?_ | refine blk_alloc ?_ _)); exact BK194.out⟩, ⟨by repeat (first | (with_reducible first | exact HI198.out | apply Built.IsBld.alloc | apply Built.IsBld.drewN | apply Built.IsBld.drew | refine Built.IsBld.far ?_ NB198_194.out _ (by (with_reducible repeat (first | apply Built.NonB.set | apply Built.NonB.drewN | apply Built.NonB.drew)); exact Built.NonB.of BK194.out (by simp))) | exact HI198.out)⟩, ⟨by repeat (first | (with_reducible first | exact HB.out | apply below_alloc | apply pw_below_drewN | apply below_drew1 | refine below_set ?_ (Built.IsBld.ge HI198.out) | refine below_set ?_ GE194.out) | exact HB.out)⟩⟩
                        · rw [if_neg c23] at H
                          have c23b0 : (((rdOf ByteArray.empty l1 x23_2).size : Int) == ((rd_T82 l0_1 x23_2).f1)) = false := beq_eq_false_iff_ne.mpr c23
                          have c23b1 : (((rdOf ByteArray.empty l1 x23_2).size : Int) != ((rd_T82 l0_1 x23_2).f1)) = true := bne_iff_ne.mpr c23
                          have H' := Aside0.mk H
                          clear H
                          go_wp2
                          go_meet
                          case rel => exact ⟨_, (true), (by first | rfl | (simp; done) | (simp [*]; done)), H', ⟨by have := HJ2.out; have := HK2.out; first | omega | exact Nat.le_refl _⟩, ⟨by (with_reducible repeat (first | refine blk_drewN ?_ _ | refine blk_drew ?_ | refine blk_alloc ?_ _)); exact BK194.out⟩, ⟨by repeat (first | (with_reducible first | exact HI198.out | apply Built.IsBld.alloc | apply Built.IsBld.drewN | apply Built.IsBld.drew | refine Built.IsBld.far ?_ NB198_194.out _ (by (with_reducible repeat (first | apply Built.NonB.set | apply Built.NonB.drewN | apply Built.NonB.drew)); exact Built.NonB.of BK194.out (by simp))) | exact HI198.out)⟩, ⟨by repeat (first | (with_reducible first | exact HB.out | apply below_alloc | apply pw_below_drewN | apply below_drew1 | refine below_set ?_ (Built.IsBld.ge HI198.out) | refine below_set ?_ GE194.out) | exact HB.out)⟩⟩
                    case rest =>
                      clear HC19
                      try clear c1
                      try clear c2
                      try clear p2
                      try clear q2
                      try clear hx2
                      try clear c3
                      try clear c5
                      try clear c6
                      try clear c12
                      try clear c13
                      try clear c15
                      try clear c15b0
                      try clear c16
                      try clear c16b0
                      try clear c17
                      try clear c17b0
                      try clear c18
                      try clear c18b0
                      try clear c20
                      try clear p20
                      try clear q20
                      try clear hx20
                      try clear c22
                      try clear c22b0
                      try clear c22b1
                      try clear c23
                      try clear c23b0
                      try clear c23b1
                      try clear hcz10_0
                      try clear hcz10_1
                      try clear hcz21_0
                      try clear hcz21_1
                      try clear hcz7_0
                      try clear hcz7_1
                      try clear hcz9_0
                      try clear hcz9_1
                      try clear hfz10_0
                      try clear hfz10_1
                      try clear hfz21_0
                      try clear hfz21_1
                      try clear hfz7_0
                      try clear hfz7_1
                      try clear hfz9_0
                      try clear hfz9_1
                      try clear hx202_0
                      try clear hx203_0
                      try clear hx203_1
                      try clear hx203_2
                      try clear p2
                      try clear p202
                      try clear p203
                      try clear q202
                      try clear q203
                      obtain ⟨kq, x34_18, rfl, HA, HJ18, BK194, HI198, HB⟩ := hcut
                      cases kq with
                      | zero => exact absurd HA.out (by simp [ipfix_Record.j2])
                      | succ kj18 =>
                        have H := HA.out
                        clear HA
                        simp only [ipfix_Record.j2] at H
                        by_cases c24 : x34_18 = true
                        · subst c24
                          have H1 : (some ((⟨#[]⟩ : ByteArray), 1)) = some (r1, r2) := by rw [if_pos rfl] at H; exact H
                          clear H
                          have H := H1
                          clear H1
                          simp only [Option.some.injEq, Prod.mk.injEq] at H
                          obtain ⟨rfl, rfl⟩ := H
                          go_wp2
                          go_ret2
                          exact ⟨by first | rfl | (simp [errW_none, errW_some] <;> rfl) | (simp [*, errW_none, errW_some] <;> rfl), by repeat (first | (with_reducible first | exact HB.out | apply below_alloc | apply pw_below_drewN | apply below_drew1 | refine below_set ?_ (Built.IsBld.ge HI198.out) | refine below_set ?_ GE194.out) | exact HB.out)⟩
                        · replace c24 := Bool.eq_false_iff.mpr c24
                          subst c24
                          have H1 : (if ((rd_T82 l0_1 x23_2).f1) = 65535 then (ipfix_Record.j3 kj18 (rdOf ByteArray.empty l1 x23_2) ((rd_T82 l0_1 x23_2).f1) l1 (l1.length : Int) x23_2 (decide (((rdOf ByteArray.empty l1 x23_2).size : Int) < 255)) a0_0 l0_1 x199000_2 x199001_2) else (ipfix_Record.j3 kj18 (rdOf ByteArray.empty l1 x23_2) ((rd_T82 l0_1 x23_2).f1) l1 (l1.length : Int) x23_2 false a0_0 l0_1 x199000_2 x199001_2)) = some (r1, r2) := by rw [if_neg (show ¬ (false = true) by decide)] at H; exact H
                          clear H
                          have H := H1
                          clear H1
                          have HC25 := Aside0.mk H
                          clear H
                          go_upto_region 10 with (fail)
                          go_cut [48] (fun v48 wc => ∃ (kq : Nat) (x48_24 : Bool), v48 = .bool x48_24 ∧ Aside0 (ipfix_Record.j3 kq (rdOf ByteArray.empty l1 x23_2) ((rd_T82 l0_1 x23_2).f1) l1 (l1.length : Int) x23_2 x48_24 a0_0 l0_1 x199000_2 x199001_2 = some (r1, r2)) ∧ Aside0 (kq ≤ kj18) ∧ Aside0 (wc.heap[gb194]? = some (.cells #[.int .i64 a0_0, (.slice (some ad203) l0_1.length c0_1)] 37 (0, 0))) ∧ Aside0 (Built.IsBld w wc g198 x199000_2 x199001_2) ∧ Aside0 (Below w.heap.size w wc))
                          case first =>
                            have H := HC25.out
                            clear HC25
                            by_cases c26 : ((rd_T82 l0_1 x23_2).f1) = 65535
                            · rw [if_pos c26] at H
                              have c26b0 : (((rd_T82 l0_1 x23_2).f1) == 65535) = true := beq_iff_eq.mpr c26
                              have c26b1 : (((rd_T82 l0_1 x23_2).f1) != 65535) = false := bne_eq_false_iff_eq.mpr c26
                              clear c26
                              (first | rw [c26b0] | (simp only [i64_w, i32_w]; rw [c26b0]) | skip)
                              have H' := Aside0.mk H
                              clear H
                              go_wp2
                              go_meet
                              case rel => exact ⟨_, (decide (((rdOf ByteArray.empty l1 x23_2).size : Int) < 255)), (by first | rfl | (simp; done) | (simp [*]; done)), H', ⟨by have := HJ2.out; have := HK2.out; have := HJ18.out; first | omega | exact Nat.le_refl _⟩, ⟨by (with_reducible repeat (first | refine blk_drewN ?_ _ | refine blk_drew ?_ | refine blk_alloc ?_ _)); exact BK194.out⟩, ⟨by repeat (first | (with_reducible first | exact HI198.out | apply Built.IsBld.alloc | apply Built.IsBld.drewN | apply Built.IsBld.drew | refine Built.IsBld.far ?_ NB198_194.out _ (by (with_reducible repeat (first | apply Built.NonB.set | apply Built.NonB.drewN | apply Built.NonB.drew)); exact Built.NonB.of BK194.out (by simp))) | exact HI198.out)⟩, ⟨by repeat (first | (with_reducible first | exact HB.out | apply below_alloc | apply pw_below_drewN | apply below_drew1 | refine below_set ?_ (Built.IsBld.ge HI198.out) | refine below_set ?_ GE194.out) | exact HB.out)⟩⟩
                            · rw [if_neg c26] at H
                              have c26b0 : (((rd_T82 l0_1 x23_2).f1) == 65535) = false := beq_eq_false_iff_ne.mpr c26
                              have c26b1 : (((rd_T82 l0_1 x23_2).f1) != 65535) = true := bne_iff_ne.mpr c26
                              (first | rw [c26b0] | (simp only [i64_w, i32_w]; rw [c26b0]) | skip)
                              have H' := Aside0.mk H
                              clear H
                              go_wp2
                              go_meet
                              case rel => exact ⟨_, (false), (by first | rfl | (simp; done) | (simp [*]; done)), H', ⟨by have := HJ2.out; have := HK2.out; have := HJ18.out; first | omega | exact Nat.le_refl _⟩, ⟨by (with_reducible repeat (first | refine blk_drewN ?_ _ | refine blk_drew ?_ | refine blk_alloc ?_ _)); exact BK194.out⟩, ⟨by repeat (first | (with_reducible first | exact HI198.out | apply Built.IsBld.alloc | apply Built.IsBld.drewN | apply Built.IsBld.drew | refine Built.IsBld.far ?_ NB198_194.out _ (by (with_reducible repeat (first | apply Built.NonB.set | apply Built.NonB.drewN | apply Built.NonB.drew)); exact Built.NonB.of BK194.out (by simp))) | exact HI198.out)⟩, ⟨by repeat (first | (with_reducible first | exact HB.out | apply below_alloc | apply pw_below_drewN | apply below_drew1 | refine below_set ?_ (Built.IsBld.ge HI198.out) | refine below_set ?_ GE194.out) | exact HB.out)⟩⟩
                          case rest =>
                            clear HC25
                            try clear c1
                            try clear c2
                            try clear p2
                            try clear q2
                            try clear hx2
                            try clear c3
                            try clear c5
                            try clear c6
                            try clear c12
                            try clear c13
                            try clear c15
                            try clear c15b0
                            try clear c16
                            try clear c16b0
                            try clear c17
                            try clear c17b0
                            try clear c18
                            try clear c18b0
                            try clear c20
                            try clear p20
                            try clear q20
                            try clear hx20
                            try clear c22
                            try clear c22b0
                            try clear c22b1
                            try clear c23
                            try clear c23b0
                            try clear c23b1
                            try clear c24
                            try clear c26
                            try clear c26b0
                            try clear c26b1
                            try clear hcz10_0
                            try clear hcz10_1
                            try clear hcz21_0
                            try clear hcz21_1
                            try clear hcz7_0
                            try clear hcz7_1
                            try clear hcz9_0
                            try clear hcz9_1
                            try clear hfz10_0
                            try clear hfz10_1
                            try clear hfz21_0
                            try clear hfz21_1
                            try clear hfz7_0
                            try clear hfz7_1
                            try clear hfz9_0
                            try clear hfz9_1
                            try clear hx202_0
                            try clear hx203_0
                            try clear hx203_1
                            try clear hx203_2
                            try clear p2
                            try clear p20
                            try clear p202
                            try clear p203
                            try clear q2
                            try clear q20
                            try clear q202
                            try clear q203
                            obtain ⟨kq, x48_24, rfl, HA, HJ24, BK194, HI198, HB⟩ := hcut
                            cases kq with
                            | zero => exact absurd HA.out (by simp [ipfix_Record.j3])
                            | succ kj24 =>
                              have H := HA.out
                              clear HA
                              simp only [ipfix_Record.j3] at H
                              by_cases c27 : x48_24 = true
                              · subst c27
                                have H1 : ((ipfix_put.f kj24 ((rdOf ByteArray.empty l1 x23_2).size : Int) 1).bind fun t204 => ((strings_Builder_WriteString.f x199000_2 x199001_2 t204).bind fun bt205 => ((strings_Builder_WriteString.f bt205.2.2.1 bt205.2.2.2 (rdOf ByteArray.empty l1 x23_2)).bind fun bt209 => (ipfix_Record.l0 kj24 l1 (l1.length : Int) (wrap64 (x23_2 + 1)) a0_0 l0_1 bt209.2.2.1 bt209.2.2.2)))) = some (r1, r2) := by rw [if_pos rfl] at H; exact H
                                clear H
                                have H := H1
                                clear H1
                                replace H := Option.bind_eq_some_iff.mp H
                                obtain ⟨t204, A280, H⟩ := H
                                replace H : ((strings_Builder_WriteString.f x199000_2 x199001_2 t204).bind fun bt205 => ((strings_Builder_WriteString.f bt205.2.2.1 bt205.2.2.2 (rdOf ByteArray.empty l1 x23_2)).bind fun bt209 => (ipfix_Record.l0 kj24 l1 (l1.length : Int) (wrap64 (x23_2 + 1)) a0_0 l0_1 bt209.2.2.1 bt209.2.2.2))) = some (r1, r2) := H
                                have A28 := Aside0.mk A280
                                clear A280
                                replace H := Option.bind_eq_some_iff.mp H
                                obtain ⟨⟨t205, t206, t207, t208⟩, A290, H⟩ := H
                                replace H : ((strings_Builder_WriteString.f t207 t208 (rdOf ByteArray.empty l1 x23_2)).bind fun bt209 => (ipfix_Record.l0 kj24 l1 (l1.length : Int) (wrap64 (x23_2 + 1)) a0_0 l0_1 bt209.2.2.1 bt209.2.2.2)) = some (r1, r2) := H
                                have A29 := Aside0.mk A290
                                clear A290
                                replace H := Option.bind_eq_some_iff.mp H
                                obtain ⟨⟨t209, t210, t211, t212⟩, A300, H⟩ := H
                                replace H : (ipfix_Record.l0 kj24 l1 (l1.length : Int) (wrap64 (x23_2 + 1)) a0_0 l0_1 t211 t212) = some (r1, r2) := H
                                have A30 := Aside0.mk A300
                                clear A300
                                have H' := Aside0.mk H
                                clear H
                                go_wp2_with (first | ((with_reducible refine gate_callee (f := 31) rfl ?_); refine goesL_ (some 58) rfl rfl Try.func31 (by kernel_rfl) rfl #[.int .i64 ((rdOf ByteArray.empty l1 x23_2).size : Int), .int .i64 1] rfl (by (try simp only [List.map_toArray, List.map_cons, List.map_nil]); first | done | rfl | (simp only [List.length_drop, List.length_take]; rfl)) ?_; (with_reducible refine (ipfix_put.calls kj24 ((rdOf ByteArray.empty l1 x23_2).size : Int) 1 t204 _ A28.out).mono ?_); rintro e w31 ⟨rfl, hb⟩; refine ⟨_, rfl, ?_⟩; have n0_ := Aside0.mk (blk_below (g := gb194) (o := .cells #[.int .i64 a0_0, .slice (some ad203) l0_1.length c0_1] 37 (0, 0)) (by (with_reducible repeat (first | refine blk_drewN ?_ _ | refine blk_drew ?_ | refine blk_alloc ?_ _)); exact BK194.out) hb); have n1_ := Aside0.mk (Built.IsBld.below (by repeat (first | (with_reducible first | exact HI198.out | apply Built.IsBld.alloc | apply Built.IsBld.drewN | apply Built.IsBld.drew | refine Built.IsBld.far ?_ NB198_194.out _ (by (with_reducible repeat (first | apply Built.NonB.set | apply Built.NonB.drewN | apply Built.NonB.drew)); exact Built.NonB.of BK194.out (by simp))) | exact HI198.out)) hb); have n2_ := Aside0.mk (below_step (by repeat (first | (with_reducible first | exact HB.out | apply below_alloc | apply pw_below_drewN | apply below_drew1 | refine below_set ?_ (Built.IsBld.ge HI198.out) | refine below_set ?_ GE194.out) | exact HB.out)) hb); clear BK194; clear HI198; clear HB; have BK194 := n0_; have HI198 := n1_; have HB := n2_; clear n0_ n1_ n2_; (try clear hb); (try clear hb2); (try clear hk); (try clear hi)) | ((with_reducible refine gate_callee (f := 30) rfl ?_); refine goesL_ (some 59) rfl rfl Try.func30 (by kernel_rfl) rfl #[.pointer (some ⟨g198, 0, none⟩), .string t204] rfl (by (try simp only [List.map_toArray, List.map_cons, List.map_nil]); first | done | rfl | (simp only [List.length_drop, List.length_take]; rfl)) ?_; (with_reducible refine (strings_Builder_WriteString.calls g198 x199000_2 x199001_2 t204 t205 t206 t207 t208 w _ ?side1 ?side2 A29.out).mono ?_); (case side1 => repeat (first | (with_reducible first | exact HI198.out | apply Built.IsBld.alloc | apply Built.IsBld.drewN | apply Built.IsBld.drew | refine Built.IsBld.far ?_ NB198_194.out _ (by (with_reducible repeat (first | apply Built.NonB.set | apply Built.NonB.drewN | apply Built.NonB.drew)); exact Built.NonB.of BK194.out (by simp))) | exact HI198.out)); (case side2 => repeat (first | (with_reducible first | exact HB.out | apply below_alloc | apply pw_below_drewN | apply below_drew1 | refine below_set ?_ (Built.IsBld.ge HI198.out) | refine below_set ?_ GE194.out) | exact HB.out)); rintro e w32 ⟨rfl, hi, hb, hk⟩; refine ⟨_, rfl, ?_⟩; have n0_ := Aside0.mk (Built.KeepT.blk hk (g' := gb194) (o := .cells #[.int .i64 a0_0, .slice (some ad203) l0_1.length c0_1] 37 (0, 0)) (by (with_reducible repeat (first | refine blk_drewN ?_ _ | refine blk_drew ?_ | refine blk_alloc ?_ _)); exact BK194.out) NB194_198.out (by simp)); have n1_ := Aside0.mk (hb); have n2_ := Aside0.mk (hi); clear BK194; clear HB; clear HI198; have BK194 := n0_; have HB := n1_; have HI198 := n2_; clear n0_ n1_ n2_; (try clear hb); (try clear hb2); (try clear hk); (try clear hi); (try simp only [errW_none, errW_some])) | ((with_reducible refine gate_callee (f := 30) rfl ?_); refine goesL_ (some 70) rfl rfl Try.func30 (by kernel_rfl) rfl #[.pointer (some ⟨g198, 0, none⟩), .string (rdOf ByteArray.empty l1 x23_2)] rfl (by (try simp only [List.map_toArray, List.map_cons, List.map_nil]); first | done | rfl | (simp only [List.length_drop, List.length_take]; rfl)) ?_; (with_reducible refine (strings_Builder_WriteString.calls g198 t207 t208 (rdOf ByteArray.empty l1 x23_2) t209 t210 t211 t212 w _ ?side1 ?side2 A30.out).mono ?_); (case side1 => repeat (first | (with_reducible first | exact HI198.out | apply Built.IsBld.alloc | apply Built.IsBld.drewN | apply Built.IsBld.drew | refine Built.IsBld.far ?_ NB198_194.out _ (by (with_reducible repeat (first | apply Built.NonB.set | apply Built.NonB.drewN | apply Built.NonB.drew)); exact Built.NonB.of BK194.out (by simp))) | exact HI198.out)); (case side2 => repeat (first | (with_reducible first | exact HB.out | apply below_alloc | apply pw_below_drewN | apply below_drew1 | refine below_set ?_ (Built.IsBld.ge HI198.out) | refine below_set ?_ GE194.out) | exact HB.out)); rintro e w33 ⟨rfl, hi, hb, hk⟩; refine ⟨_, rfl, ?_⟩; have n0_ := Aside0.mk (Built.KeepT.blk hk (g' := gb194) (o := .cells #[.int .i64 a0_0, .slice (some ad203) l0_1.length c0_1] 37 (0, 0)) (by (with_reducible repeat (first | refine blk_drewN ?_ _ | refine blk_drew ?_ | refine blk_alloc ?_ _)); exact BK194.out) NB194_198.out (by simp)); have n1_ := Aside0.mk (hb); have n2_ := Aside0.mk (hi); clear BK194; clear HB; clear HI198; have BK194 := n0_; have HB := n1_; have HI198 := n2_; clear n0_ n1_ n2_; (try clear hb); (try clear hb2); (try clear hk); (try clear hi); (try simp only [errW_none, errW_some])))
                                go_roundg kj24
                                case measure => have := HJ2.out; have := HK2.out; have := HJ18.out; have := HJ24.out; omega
                                case rel => exact ⟨(wrap64 (x23_2 + 1)), (t211), (t212), (by first | rfl | (simp; done) | (simp [*]; done)), H', ⟨by have := HJ2.out; have := HK2.out; have := HJ18.out; have := HJ24.out; omega⟩, ⟨by (with_reducible repeat (first | refine blk_drewN ?_ _ | refine blk_drew ?_ | refine blk_alloc ?_ _)); exact BK194.out⟩, ⟨by repeat (first | (with_reducible first | exact HI198.out | apply Built.IsBld.alloc | apply Built.IsBld.drewN | apply Built.IsBld.drew | refine Built.IsBld.far ?_ NB198_194.out _ (by (with_reducible repeat (first | apply Built.NonB.set | apply Built.NonB.drewN | apply Built.NonB.drew)); exact Built.NonB.of BK194.out (by simp))) | exact HI198.out)⟩, ⟨by repeat (first | (with_reducible first | exact HB.out | apply below_alloc | apply pw_below_drewN | apply below_drew1 | refine below_set ?_ (Built.IsBld.ge HI198.out) | refine below_set ?_ GE194.out) | exact HB.out)⟩⟩
                              · replace c27 := Bool.eq_false_iff.mpr c27
                                subst c27
                                have H1 : (if ((rd_T82 l0_1 x23_2).f1) = 65535 then ((ipfix_put.f kj24 255 1).bind fun t213 => ((ipfix_put.f kj24 ((rdOf ByteArray.empty l1 x23_2).size : Int) 2).bind fun t214 => (if t213.size + t214.size ≤ 9223372036854775807 then ((strings_Builder_WriteString.f x199000_2 x199001_2 (t213 ++ t214)).bind fun bt215 => ((strings_Builder_WriteString.f bt215.2.2.1 bt215.2.2.2 (rdOf ByteArray.empty l1 x23_2)).bind fun bt219 => (ipfix_Record.l0 kj24 l1 (l1.length : Int) (wrap64 (x23_2 + 1)) a0_0 l0_1 bt219.2.2.1 bt219.2.2.2))) else (none)))) else ((strings_Builder_WriteString.f x199000_2 x199001_2 (rdOf ByteArray.empty l1 x23_2)).bind fun bt223 => (ipfix_Record.l0 kj24 l1 (l1.length : Int) (wrap64 (x23_2 + 1)) a0_0 l0_1 bt223.2.2.1 bt223.2.2.2))) = some (r1, r2) := by rw [if_neg (show ¬ (false = true) by decide)] at H; exact H
                                clear H
                                have H := H1
                                clear H1
                                by_cases c34 : ((rd_T82 l0_1 x23_2).f1) = 65535
                                · rw [if_pos c34] at H
                                  have c34b0 : (((rd_T82 l0_1 x23_2).f1) == 65535) = true := beq_iff_eq.mpr c34
                                  have c34b1 : (((rd_T82 l0_1 x23_2).f1) != 65535) = false := bne_eq_false_iff_eq.mpr c34
                                  clear c34
                                  replace H := Option.bind_eq_some_iff.mp H
                                  obtain ⟨t213, A350, H⟩ := H
                                  replace H : ((ipfix_put.f kj24 ((rdOf ByteArray.empty l1 x23_2).size : Int) 2).bind fun t214 => (if t213.size + t214.size ≤ 9223372036854775807 then ((strings_Builder_WriteString.f x199000_2 x199001_2 (t213 ++ t214)).bind fun bt215 => ((strings_Builder_WriteString.f bt215.2.2.1 bt215.2.2.2 (rdOf ByteArray.empty l1 x23_2)).bind fun bt219 => (ipfix_Record.l0 kj24 l1 (l1.length : Int) (wrap64 (x23_2 + 1)) a0_0 l0_1 bt219.2.2.1 bt219.2.2.2))) else (none))) = some (r1, r2) := H
                                  have A35 := Aside0.mk A350
                                  clear A350
                                  replace H := Option.bind_eq_some_iff.mp H
                                  obtain ⟨t214, A360, H⟩ := H
                                  replace H : (if t213.size + t214.size ≤ 9223372036854775807 then ((strings_Builder_WriteString.f x199000_2 x199001_2 (t213 ++ t214)).bind fun bt215 => ((strings_Builder_WriteString.f bt215.2.2.1 bt215.2.2.2 (rdOf ByteArray.empty l1 x23_2)).bind fun bt219 => (ipfix_Record.l0 kj24 l1 (l1.length : Int) (wrap64 (x23_2 + 1)) a0_0 l0_1 bt219.2.2.1 bt219.2.2.2))) else (none)) = some (r1, r2) := H
                                  have A36 := Aside0.mk A360
                                  clear A360
                                  by_cases c37 : t213.size + t214.size ≤ 9223372036854775807
                                  · rw [if_pos c37] at H
                                    have c37b0 := eq_true c37
                                    have c37b1 : decide (t213.size + t214.size ≤ 9223372036854775807) = true := decide_eq_true c37
                                    try have c37b2 : (9223372036854775807 < t213.size + t214.size) = False := eq_false (Nat.not_lt.2 c37)
                                    replace H := Option.bind_eq_some_iff.mp H
                                    obtain ⟨⟨t215, t216, t217, t218⟩, A380, H⟩ := H
                                    replace H : ((strings_Builder_WriteString.f t217 t218 (rdOf ByteArray.empty l1 x23_2)).bind fun bt219 => (ipfix_Record.l0 kj24 l1 (l1.length : Int) (wrap64 (x23_2 + 1)) a0_0 l0_1 bt219.2.2.1 bt219.2.2.2)) = some (r1, r2) := H
                                    have A38 := Aside0.mk A380
                                    clear A380
                                    replace H := Option.bind_eq_some_iff.mp H
                                    obtain ⟨⟨t219, t220, t221, t222⟩, A390, H⟩ := H
                                    replace H : (ipfix_Record.l0 kj24 l1 (l1.length : Int) (wrap64 (x23_2 + 1)) a0_0 l0_1 t221 t222) = some (r1, r2) := H
                                    have A39 := Aside0.mk A390
                                    clear A390
                                    have H' := Aside0.mk H
                                    clear H
                                    go_wp2_with (first | ((with_reducible refine gate_callee (f := 31) rfl ?_); refine goesL_ (some 63) rfl rfl Try.func31 (by kernel_rfl) rfl #[.int .i64 255, .int .i64 1] rfl (by (try simp only [List.map_toArray, List.map_cons, List.map_nil]); first | done | rfl | (simp only [List.length_drop, List.length_take]; rfl)) ?_; (with_reducible refine (ipfix_put.calls kj24 255 1 t213 _ A35.out).mono ?_); rintro e w40 ⟨rfl, hb⟩; refine ⟨_, rfl, ?_⟩; have n0_ := Aside0.mk (blk_below (g := gb194) (o := .cells #[.int .i64 a0_0, .slice (some ad203) l0_1.length c0_1] 37 (0, 0)) (by (with_reducible repeat (first | refine blk_drewN ?_ _ | refine blk_drew ?_ | refine blk_alloc ?_ _)); exact BK194.out) hb); have n1_ := Aside0.mk (Built.IsBld.below (by repeat (first | (with_reducible first | exact HI198.out | apply Built.IsBld.alloc | apply Built.IsBld.drewN | apply Built.IsBld.drew | refine Built.IsBld.far ?_ NB198_194.out _ (by (with_reducible repeat (first | apply Built.NonB.set | apply Built.NonB.drewN | apply Built.NonB.drew)); exact Built.NonB.of BK194.out (by simp))) | exact HI198.out)) hb); have n2_ := Aside0.mk (below_step (by repeat (first | (with_reducible first | exact HB.out | apply below_alloc | apply pw_below_drewN | apply below_drew1 | refine below_set ?_ (Built.IsBld.ge HI198.out) | refine below_set ?_ GE194.out) | exact HB.out)) hb); clear BK194; clear HI198; clear HB; have BK194 := n0_; have HI198 := n1_; have HB := n2_; clear n0_ n1_ n2_; (try clear hb); (try clear hb2); (try clear hk); (try clear hi)) | ((with_reducible refine gate_callee (f := 31) rfl ?_); refine goesL_ (some 66) rfl rfl Try.func31 (by kernel_rfl) rfl #[.int .i64 ((rdOf ByteArray.empty l1 x23_2).size : Int), .int .i64 2] rfl (by (try simp only [List.map_toArray, List.map_cons, List.map_nil]); first | done | rfl | (simp only [List.length_drop, List.length_take]; rfl)) ?_; (with_reducible refine (ipfix_put.calls kj24 ((rdOf ByteArray.empty l1 x23_2).size : Int) 2 t214 _ A36.out).mono ?_); rintro e w41 ⟨rfl, hb⟩; refine ⟨_, rfl, ?_⟩; have n0_ := Aside0.mk (blk_below (g := gb194) (o := .cells #[.int .i64 a0_0, .slice (some ad203) l0_1.length c0_1] 37 (0, 0)) (by (with_reducible repeat (first | refine blk_drewN ?_ _ | refine blk_drew ?_ | refine blk_alloc ?_ _)); exact BK194.out) hb); have n1_ := Aside0.mk (Built.IsBld.below (by repeat (first | (with_reducible first | exact HI198.out | apply Built.IsBld.alloc | apply Built.IsBld.drewN | apply Built.IsBld.drew | refine Built.IsBld.far ?_ NB198_194.out _ (by (with_reducible repeat (first | apply Built.NonB.set | apply Built.NonB.drewN | apply Built.NonB.drew)); exact Built.NonB.of BK194.out (by simp))) | exact HI198.out)) hb); have n2_ := Aside0.mk (below_step (by repeat (first | (with_reducible first | exact HB.out | apply below_alloc | apply pw_below_drewN | apply below_drew1 | refine below_set ?_ (Built.IsBld.ge HI198.out) | refine below_set ?_ GE194.out) | exact HB.out)) hb); clear BK194; clear HI198; clear HB; have BK194 := n0_; have HI198 := n1_; have HB := n2_; clear n0_ n1_ n2_; (try clear hb); (try clear hb2); (try clear hk); (try clear hi)) | ((with_reducible refine gate_callee (f := 30) rfl ?_); refine goesL_ (some 68) rfl rfl Try.func30 (by kernel_rfl) rfl #[.pointer (some ⟨g198, 0, none⟩), .string (t213 ++ t214)] rfl (by (try simp only [List.map_toArray, List.map_cons, List.map_nil]); first | done | rfl | (simp only [List.length_drop, List.length_take]; rfl)) ?_; (with_reducible refine (strings_Builder_WriteString.calls g198 x199000_2 x199001_2 (t213 ++ t214) t215 t216 t217 t218 w _ ?side1 ?side2 A38.out).mono ?_); (case side1 => repeat (first | (with_reducible first | exact HI198.out | apply Built.IsBld.alloc | apply Built.IsBld.drewN | apply Built.IsBld.drew | refine Built.IsBld.far ?_ NB198_194.out _ (by (with_reducible repeat (first | apply Built.NonB.set | apply Built.NonB.drewN | apply Built.NonB.drew)); exact Built.NonB.of BK194.out (by simp))) | exact HI198.out)); (case side2 => repeat (first | (with_reducible first | exact HB.out | apply below_alloc | apply pw_below_drewN | apply below_drew1 | refine below_set ?_ (Built.IsBld.ge HI198.out) | refine below_set ?_ GE194.out) | exact HB.out)); rintro e w42 ⟨rfl, hi, hb, hk⟩; refine ⟨_, rfl, ?_⟩; have n0_ := Aside0.mk (Built.KeepT.blk hk (g' := gb194) (o := .cells #[.int .i64 a0_0, .slice (some ad203) l0_1.length c0_1] 37 (0, 0)) (by (with_reducible repeat (first | refine blk_drewN ?_ _ | refine blk_drew ?_ | refine blk_alloc ?_ _)); exact BK194.out) NB194_198.out (by simp)); have n1_ := Aside0.mk (hb); have n2_ := Aside0.mk (hi); clear BK194; clear HB; clear HI198; have BK194 := n0_; have HB := n1_; have HI198 := n2_; clear n0_ n1_ n2_; (try clear hb); (try clear hb2); (try clear hk); (try clear hi); (try simp only [errW_none, errW_some])) | ((with_reducible refine gate_callee (f := 30) rfl ?_); refine goesL_ (some 70) rfl rfl Try.func30 (by kernel_rfl) rfl #[.pointer (some ⟨g198, 0, none⟩), .string (rdOf ByteArray.empty l1 x23_2)] rfl (by (try simp only [List.map_toArray, List.map_cons, List.map_nil]); first | done | rfl | (simp only [List.length_drop, List.length_take]; rfl)) ?_; (with_reducible refine (strings_Builder_WriteString.calls g198 t217 t218 (rdOf ByteArray.empty l1 x23_2) t219 t220 t221 t222 w _ ?side1 ?side2 A39.out).mono ?_); (case side1 => repeat (first | (with_reducible first | exact HI198.out | apply Built.IsBld.alloc | apply Built.IsBld.drewN | apply Built.IsBld.drew | refine Built.IsBld.far ?_ NB198_194.out _ (by (with_reducible repeat (first | apply Built.NonB.set | apply Built.NonB.drewN | apply Built.NonB.drew)); exact Built.NonB.of BK194.out (by simp))) | exact HI198.out)); (case side2 => repeat (first | (with_reducible first | exact HB.out | apply below_alloc | apply pw_below_drewN | apply below_drew1 | refine below_set ?_ (Built.IsBld.ge HI198.out) | refine below_set ?_ GE194.out) | exact HB.out)); rintro e w43 ⟨rfl, hi, hb, hk⟩; refine ⟨_, rfl, ?_⟩; have n0_ := Aside0.mk (Built.KeepT.blk hk (g' := gb194) (o := .cells #[.int .i64 a0_0, .slice (some ad203) l0_1.length c0_1] 37 (0, 0)) (by (with_reducible repeat (first | refine blk_drewN ?_ _ | refine blk_drew ?_ | refine blk_alloc ?_ _)); exact BK194.out) NB194_198.out (by simp)); have n1_ := Aside0.mk (hb); have n2_ := Aside0.mk (hi); clear BK194; clear HB; clear HI198; have BK194 := n0_; have HB := n1_; have HI198 := n2_; clear n0_ n1_ n2_; (try clear hb); (try clear hb2); (try clear hk); (try clear hi); (try simp only [errW_none, errW_some])))
                                    go_roundg kj24
                                    case measure => have := HJ2.out; have := HK2.out; have := HJ18.out; have := HJ24.out; omega
                                    case rel => exact ⟨(wrap64 (x23_2 + 1)), (t221), (t222), (by first | rfl | (simp; done) | (simp [*]; done)), H', ⟨by have := HJ2.out; have := HK2.out; have := HJ18.out; have := HJ24.out; omega⟩, ⟨by (with_reducible repeat (first | refine blk_drewN ?_ _ | refine blk_drew ?_ | refine blk_alloc ?_ _)); exact BK194.out⟩, ⟨by repeat (first | (with_reducible first | exact HI198.out | apply Built.IsBld.alloc | apply Built.IsBld.drewN | apply Built.IsBld.drew | refine Built.IsBld.far ?_ NB198_194.out _ (by (with_reducible repeat (first | apply Built.NonB.set | apply Built.NonB.drewN | apply Built.NonB.drew)); exact Built.NonB.of BK194.out (by simp))) | exact HI198.out)⟩, ⟨by repeat (first | (with_reducible first | exact HB.out | apply below_alloc | apply pw_below_drewN | apply below_drew1 | refine below_set ?_ (Built.IsBld.ge HI198.out) | refine below_set ?_ GE194.out) | exact HB.out)⟩⟩
                                  · rw [if_neg c37] at H
                                    exact absurd H (by simp)
                                · rw [if_neg c34] at H
                                  have c34b0 : (((rd_T82 l0_1 x23_2).f1) == 65535) = false := beq_eq_false_iff_ne.mpr c34
                                  have c34b1 : (((rd_T82 l0_1 x23_2).f1) != 65535) = true := bne_iff_ne.mpr c34
                                  replace H := Option.bind_eq_some_iff.mp H
                                  obtain ⟨⟨t223, t224, t225, t226⟩, A440, H⟩ := H
                                  replace H : (ipfix_Record.l0 kj24 l1 (l1.length : Int) (wrap64 (x23_2 + 1)) a0_0 l0_1 t225 t226) = some (r1, r2) := H
                                  have A44 := Aside0.mk A440
                                  clear A440
                                  have H' := Aside0.mk H
                                  clear H
                                  go_wp2_with (first | ((with_reducible refine gate_callee (f := 30) rfl ?_); refine goesL_ (some 70) rfl rfl Try.func30 (by kernel_rfl) rfl #[.pointer (some ⟨g198, 0, none⟩), .string (rdOf ByteArray.empty l1 x23_2)] rfl (by (try simp only [List.map_toArray, List.map_cons, List.map_nil]); first | done | rfl | (simp only [List.length_drop, List.length_take]; rfl)) ?_; (with_reducible refine (strings_Builder_WriteString.calls g198 x199000_2 x199001_2 (rdOf ByteArray.empty l1 x23_2) t223 t224 t225 t226 w _ ?side1 ?side2 A44.out).mono ?_); (case side1 => repeat (first | (with_reducible first | exact HI198.out | apply Built.IsBld.alloc | apply Built.IsBld.drewN | apply Built.IsBld.drew | refine Built.IsBld.far ?_ NB198_194.out _ (by (with_reducible repeat (first | apply Built.NonB.set | apply Built.NonB.drewN | apply Built.NonB.drew)); exact Built.NonB.of BK194.out (by simp))) | exact HI198.out)); (case side2 => repeat (first | (with_reducible first | exact HB.out | apply below_alloc | apply pw_below_drewN | apply below_drew1 | refine below_set ?_ (Built.IsBld.ge HI198.out) | refine below_set ?_ GE194.out) | exact HB.out)); rintro e w45 ⟨rfl, hi, hb, hk⟩; refine ⟨_, rfl, ?_⟩; have n0_ := Aside0.mk (Built.KeepT.blk hk (g' := gb194) (o := .cells #[.int .i64 a0_0, .slice (some ad203) l0_1.length c0_1] 37 (0, 0)) (by (with_reducible repeat (first | refine blk_drewN ?_ _ | refine blk_drew ?_ | refine blk_alloc ?_ _)); exact BK194.out) NB194_198.out (by simp)); have n1_ := Aside0.mk (hb); have n2_ := Aside0.mk (hi); clear BK194; clear HB; clear HI198; have BK194 := n0_; have HB := n1_; have HI198 := n2_; clear n0_ n1_ n2_; (try clear hb); (try clear hb2); (try clear hk); (try clear hi); (try simp only [errW_none, errW_some])))
                                  go_roundg kj24
                                  case measure => have := HJ2.out; have := HK2.out; have := HJ18.out; have := HJ24.out; omega
                                  case rel => exact ⟨(wrap64 (x23_2 + 1)), (t225), (t226), (by first | rfl | (simp; done) | (simp [*]; done)), H', ⟨by have := HJ2.out; have := HK2.out; have := HJ18.out; have := HJ24.out; omega⟩, ⟨by (with_reducible repeat (first | refine blk_drewN ?_ _ | refine blk_drew ?_ | refine blk_alloc ?_ _)); exact BK194.out⟩, ⟨by repeat (first | (with_reducible first | exact HI198.out | apply Built.IsBld.alloc | apply Built.IsBld.drewN | apply Built.IsBld.drew | refine Built.IsBld.far ?_ NB198_194.out _ (by (with_reducible repeat (first | apply Built.NonB.set | apply Built.NonB.drewN | apply Built.NonB.drew)); exact Built.NonB.of BK194.out (by simp))) | exact HI198.out)⟩, ⟨by repeat (first | (with_reducible first | exact HB.out | apply below_alloc | apply pw_below_drewN | apply below_drew1 | refine below_set ?_ (Built.IsBld.ge HI198.out) | refine below_set ?_ GE194.out) | exact HB.out)⟩⟩
                  · rw [if_neg c18] at H
                    exact absurd H (by simp)
                · rw [if_neg c17] at H
                  exact absurd H (by simp)
              · rw [if_neg c16] at H
                exact absurd H (by simp)
            · rw [if_neg c15] at H
              have c15b0 : decide (x23_2 < (l1.length : Int)) = false := decide_eq_false c15
              clear c15
              replace H := Option.bind_eq_some_iff.mp H
              obtain ⟨⟨t199, t200, t201⟩, A460, H⟩ := H
              replace H : (some (t199, 0)) = some (r1, r2) := H
              have A46 := Aside0.mk A460
              clear A460
              simp only [Option.some.injEq, Prod.mk.injEq] at H
              obtain ⟨rfl, rfl⟩ := H
              go_wp2_with (first | ((with_reducible refine gate_callee (f := 33) rfl ?_); refine goesL_ (some 72) rfl rfl Try.func33 (by kernel_rfl) rfl #[.pointer (some ⟨g198, 0, none⟩)] rfl (by (try simp only [List.map_toArray, List.map_cons, List.map_nil]); first | done | rfl | (simp only [List.length_drop, List.length_take]; rfl)) ?_; (with_reducible refine (strings_Builder_String.calls g198 x199000_2 x199001_2 t199 t200 t201 w _ ?side1 ?side2 A46.out).mono ?_); (case side1 => repeat (first | (with_reducible first | exact HI198.out | apply Built.IsBld.alloc | apply Built.IsBld.drewN | apply Built.IsBld.drew | refine Built.IsBld.far ?_ NB198_194.out _ (by (with_reducible repeat (first | apply Built.NonB.set | apply Built.NonB.drewN | apply Built.NonB.drew)); exact Built.NonB.of BK194.out (by simp))) | exact HI198.out)); (case side2 => repeat (first | (with_reducible first | exact HB.out | apply below_alloc | apply pw_below_drewN | apply below_drew1 | refine below_set ?_ (Built.IsBld.ge HI198.out) | refine below_set ?_ GE194.out) | exact HB.out)); rintro e w47 ⟨rfl, hi, hb, hk⟩; refine ⟨_, rfl, ?_⟩; have n0_ := Aside0.mk (Built.KeepT.blk hk (g' := gb194) (o := .cells #[.int .i64 a0_0, .slice A0_1 l0_1.length c0_1] 37 (0, 0)) (by (with_reducible repeat (first | refine blk_drewN ?_ _ | refine blk_drew ?_ | refine blk_alloc ?_ _)); exact BK194.out) NB194_198.out (by simp)); have n1_ := Aside0.mk (hb); have n2_ := Aside0.mk (hi); clear BK194; clear HB; clear HI198; have BK194 := n0_; have HB := n1_; have HI198 := n2_; clear n0_ n1_ n2_; (try clear hb); (try clear hb2); (try clear hk); (try clear hi)))
              go_ret2
              exact ⟨by first | rfl | (simp [errW_none, errW_some] <;> rfl) | (simp [*, errW_none, errW_some] <;> rfl), by repeat (first | (with_reducible first | exact HB.out | apply below_alloc | apply pw_below_drewN | apply below_drew1 | refine below_set ?_ (Built.IsBld.ge HI198.out) | refine below_set ?_ GE194.out) | exact HB.out)⟩

/-! ### rillmeterlaw22_awake: function 11 -/
def rillmeterlaw22_awake.f (k : Nat)  : Option (Bool) := (ipfix_Put.f k 0 0 1 ([] : List (S29))).bind fun bt227 => ((ipfix_Record.f k 256 (([(⟨1, 2, 0⟩ : S82), (⟨2, 65535, 0⟩ : S82)] : List (S82))) (([(⟨#[97, 98]⟩ : ByteArray), (⟨#[99]⟩ : ByteArray)] : List ByteArray))).bind fun bt235 => (if bt227.1.toList = ([0, 10, 0, 16, 0, 0, 0, 0, 0, 0, 0, 0, 0, 0, 0, 1] : List UInt8) then (if bt227.2 = 0 then (if bt235.1.toList = ([97, 98, 1, 99] : List UInt8) then (if bt235.2 = 0 then (some true) else (some false)) else (some false)) else (some false)) else (some false)))
theorem rillmeterlaw22_awake.mono : ∀ k, LeO (rillmeterlaw22_awake.f k ) (rillmeterlaw22_awake.f (k + 1) ) := by
  intro  k
  unfold rillmeterlaw22_awake.f
  repeat' first
      | (with_reducible exact ipfix_Put.mono _ _ _ _ _)
      | (with_reducible exact ipfix_Record.mono _ _ _ _)
      | (with_reducible exact LeO.refl _)
      | (with_reducible exact LeO.none _)
      | (with_reducible refine LeO.ite ?_ ?_)
      | (with_reducible refine LeO.bind ?_ (fun _ => ?_))
      | exact ipfix_Put.mono _ _ _ _ _
      | exact ipfix_Record.mono _ _ _ _
      | exact LeO.none _
      | refine LeO.ite ?_ ?_
      | refine LeO.bind ?_ (fun _ => ?_)
set_option maxHeartbeats 8000000 in
set_option maxRecDepth 100000 in
theorem rillmeterlaw22_awake.calls (k : Nat)  (r : Bool) (w : World) (h : rillmeterlaw22_awake.f k  = some r) :
    Calls Try.prog 11 #[] w fun e w' => e = .returned (.bool r) ∧ Below w.heap.size w w' := by
  have hu32 := Try.underlying32
  have hu82 := Try.underlying82
  have hu37 := Try.underlying37
  have HB := Aside0.mk (Below.refl w.heap.size w)
  have H : ((ipfix_Put.f k 0 0 1 ([] : List (S29))).bind fun bt227 => ((ipfix_Record.f k 256 (([(⟨1, 2, 0⟩ : S82), (⟨2, 65535, 0⟩ : S82)] : List (S82))) (([(⟨#[97, 98]⟩ : ByteArray), (⟨#[99]⟩ : ByteArray)] : List ByteArray))).bind fun bt235 => (if bt227.1.toList = ([0, 10, 0, 16, 0, 0, 0, 0, 0, 0, 0, 0, 0, 0, 0, 1] : List UInt8) then (if bt227.2 = 0 then (if bt235.1.toList = ([97, 98, 1, 99] : List UInt8) then (if bt235.2 = 0 then (some true) else (some false)) else (some false)) else (some false)) else (some false)))) = some r := h
  clear h
  replace H := Option.bind_eq_some_iff.mp H
  obtain ⟨⟨t227, t228⟩, A10, H⟩ := H
  replace H : ((ipfix_Record.f k 256 (([(⟨1, 2, 0⟩ : S82), (⟨2, 65535, 0⟩ : S82)] : List (S82))) (([(⟨#[97, 98]⟩ : ByteArray), (⟨#[99]⟩ : ByteArray)] : List ByteArray))).bind fun bt235 => (if t227.toList = ([0, 10, 0, 16, 0, 0, 0, 0, 0, 0, 0, 0, 0, 0, 0, 1] : List UInt8) then (if t228 = 0 then (if bt235.1.toList = ([97, 98, 1, 99] : List UInt8) then (if bt235.2 = 0 then (some true) else (some false)) else (some false)) else (some false)) else (some false))) = some r := H
  have A1 := Aside0.mk A10
  clear A10
  obtain ⟨y229, hy229⟩ : ∃ y_ : List (S82), y_ = (([(⟨1, 2, 0⟩ : S82), (⟨2, 65535, 0⟩ : S82)] : List (S82))) := ⟨_, rfl⟩
  replace H : ((ipfix_Record.f k 256 y229 (([(⟨#[97, 98]⟩ : ByteArray), (⟨#[99]⟩ : ByteArray)] : List ByteArray))).bind fun bt235 => (if t227.toList = ([0, 10, 0, 16, 0, 0, 0, 0, 0, 0, 0, 0, 0, 0, 0, 1] : List UInt8) then (if t228 = 0 then (if bt235.1.toList = ([97, 98, 1, 99] : List UInt8) then (if bt235.2 = 0 then (some true) else (some false)) else (some false)) else (some false)) else (some false))) = some r := by first | (rw [hy229]; with_reducible exact H) | (have H2_ := (Option.bind_some _ _).symm.trans H; rw [hy229]; with_reducible exact H2_) | (have H2_ := (Option.bind_some _ _).symm.trans H; with_reducible exact H2_) | with_reducible exact H | (rw [hy229]; exact H) | exact H
  have Ny229 := Aside0.mk hy229
  clear hy229
  obtain ⟨y232, hy232⟩ : ∃ y_ : List ByteArray, y_ = (([(⟨#[97, 98]⟩ : ByteArray), (⟨#[99]⟩ : ByteArray)] : List ByteArray)) := ⟨_, rfl⟩
  replace H : ((ipfix_Record.f k 256 y229 y232).bind fun bt235 => (if t227.toList = ([0, 10, 0, 16, 0, 0, 0, 0, 0, 0, 0, 0, 0, 0, 0, 1] : List UInt8) then (if t228 = 0 then (if bt235.1.toList = ([97, 98, 1, 99] : List UInt8) then (if bt235.2 = 0 then (some true) else (some false)) else (some false)) else (some false)) else (some false))) = some r := by first | (rw [hy232]; with_reducible exact H) | (have H2_ := (Option.bind_some _ _).symm.trans H; rw [hy232]; with_reducible exact H2_) | (have H2_ := (Option.bind_some _ _).symm.trans H; with_reducible exact H2_) | with_reducible exact H | (rw [hy232]; exact H) | exact H
  have Ny232 := Aside0.mk hy232
  clear hy232
  replace H := Option.bind_eq_some_iff.mp H
  obtain ⟨⟨t235, t236⟩, A20, H⟩ := H
  replace H : (if t227.toList = ([0, 10, 0, 16, 0, 0, 0, 0, 0, 0, 0, 0, 0, 0, 0, 1] : List UInt8) then (if t228 = 0 then (if t235.toList = ([97, 98, 1, 99] : List UInt8) then (if t236 = 0 then (some true) else (some false)) else (some false)) else (some false)) else (some false)) = some r := H
  have A2 := Aside0.mk A20
  clear A20
  by_cases c3 : t227.toList = ([0, 10, 0, 16, 0, 0, 0, 0, 0, 0, 0, 0, 0, 0, 0, 1] : List UInt8)
  · rw [if_pos c3] at H
    have c3b0 : (t227.toList == ([0, 10, 0, 16, 0, 0, 0, 0, 0, 0, 0, 0, 0, 0, 0, 1] : List UInt8)) = true := beq_iff_eq.mpr c3
    have c3b1 : (t227.toList != ([0, 10, 0, 16, 0, 0, 0, 0, 0, 0, 0, 0, 0, 0, 0, 1] : List UInt8)) = false := bne_eq_false_iff_eq.mpr c3
    clear c3
    by_cases c4 : t228 = 0
    · rw [if_pos c4] at H
      have c4b0 : (t228 == 0) = true := beq_iff_eq.mpr c4
      have c4b1 : (t228 != 0) = false := bne_eq_false_iff_eq.mpr c4
      clear c4
      by_cases c5 : t235.toList = ([97, 98, 1, 99] : List UInt8)
      · rw [if_pos c5] at H
        have c5b0 : (t235.toList == ([97, 98, 1, 99] : List UInt8)) = true := beq_iff_eq.mpr c5
        have c5b1 : (t235.toList != ([97, 98, 1, 99] : List UInt8)) = false := bne_eq_false_iff_eq.mpr c5
        clear c5
        by_cases c6 : t236 = 0
        · rw [if_pos c6] at H
          have c6b0 : (t236 == 0) = true := beq_iff_eq.mpr c6
          have c6b1 : (t236 != 0) = false := bne_eq_false_iff_eq.mpr c6
          clear c6
          obtain rfl := Option.some.inj H
          go_enter Try.func11, Try.ntmps11
          go_wp2_with (first | ((with_reducible refine gate_callee (f := 10) rfl ?_); refine goesL_ (some 7) rfl rfl Try.func10 (by kernel_rfl) rfl #[.agg #[.int .i64 0, .int .i64 0, .int .i64 1, .slice none 0 0]] rfl (by (try simp only [List.map_toArray, List.map_cons, List.map_nil]); first | done | rfl | (simp only [List.length_drop, List.length_take]; rfl)) ?_; (refine (ipfix_Put.calls k 0 0 1 _ _ ([] : List (S29)) t227 t228 _ ?side1 ?side2 A1.out).mono ?_); (case side1 => exact Kd.C_nil _ _); (case side2 => exact Nat.le_refl _); rintro e w7 ⟨rfl, hb⟩; refine ⟨_, rfl, ?_⟩; have n0_ := Aside0.mk (below_step (by repeat (first | (with_reducible first | exact HB.out | apply below_alloc | apply pw_below_drewN | apply below_drew1) | exact HB.out)) hb); clear HB; have HB := n0_; clear n0_; (try clear hb); (try clear hb2); (try clear hk); (try clear hi)) | ((with_reducible refine gate_dst (N := 13) rfl ?_); refine Kd.R_lit k82 _ 82 ?hg (N := 13) ?hd (xs := ([(⟨1, 2, 0⟩ : S82), (⟨2, 65535, 0⟩ : S82)] : List (S82))) (inner := [.int .i64 1, .int .i64 2, .int .i64 0, .int .i64 2, .int .i64 65535, .int .i64 0]) (ok := fun _ => True) (okp := fun _ => True) ?hr ?hp (fun _ hk => hk) trivial (Below.refl _ _) (Nat.le_refl _) (by simp) ?_; (case hd => rfl); (case hg => rfl); (case hr => first | (go_simp; done) | (go_simp; rfl)); (case hp => exact (Reps.c3 (show Kd.M k82 _ _ _ (⟨1, 2, 0⟩ : S82) [.int .i64 1, .int .i64 2, .int .i64 0] from (k82_mkM _ _ _ (⟨1, 2, 0⟩ : S82) )) (Reps.c3 (show Kd.M k82 _ _ _ (⟨2, 65535, 0⟩ : S82) [.int .i64 2, .int .i64 65535, .int .i64 0] from (k82_mkM _ _ _ (⟨2, 65535, 0⟩ : S82) )) (Reps.none _ _)))); intro v230 w8 ho9 hb hg_ hnew_; clear hg_ hnew_; (first | rw [← Ny229.out] at ho9 | (simp only [Int.reduceToNat] at ho9; rw [← Ny229.out] at ho9)); have n0_ := Aside0.mk (Kd.R_lower ho9 (below_size (by repeat (first | (with_reducible first | exact HB.out | apply below_alloc | apply pw_below_drewN | apply below_drew1) | exact HB.out)))); have n1_ := Aside0.mk (below_step (by repeat (first | (with_reducible first | exact HB.out | apply below_alloc | apply pw_below_drewN | apply below_drew1) | exact HB.out)) hb); clear HB; have HO231 := n0_; have HB := n1_; clear n0_ n1_; clear hb ho9; obtain ⟨Ao10, co10, eo10⟩ := Kd.R_slice HO231.out; subst eo10) | ((with_reducible refine gate_dst (N := 15) rfl ?_); refine Kd.R_lit Kd.string _ 9 ?hg (N := 15) ?hd (xs := ([(⟨#[97, 98]⟩ : ByteArray), (⟨#[99]⟩ : ByteArray)] : List ByteArray)) (inner := [.string (⟨#[97, 98]⟩ : ByteArray), .string (⟨#[99]⟩ : ByteArray)]) (ok := fun _ => True) (okp := fun _ => True) ?hr ?hp (fun _ hk => hk) trivial (Below.refl _ _) (Nat.le_refl _) (by simp) ?_; (case hd => rfl); (case hg => rfl); (case hr => first | (go_simp; done) | (go_simp; rfl)); (case hp => exact (Reps.one (show Kd.M Kd.string _ _ _ (⟨#[97, 98]⟩ : ByteArray) [.string (⟨#[97, 98]⟩ : ByteArray)] from rfl) (Reps.one (show Kd.M Kd.string _ _ _ (⟨#[99]⟩ : ByteArray) [.string (⟨#[99]⟩ : ByteArray)] from rfl) (Reps.none _ _)))); intro v233 w11 ho12 hb hg_ hnew_; clear hg_ hnew_; (first | rw [← Ny232.out] at ho12 | (simp only [Int.reduceToNat] at ho12; rw [← Ny232.out] at ho12)); have n0_ := Aside0.mk (Kd.R_below (by (with_reducible repeat (first | apply Kd.R_alloc | apply Kd.R_drewN | apply Kd.R_drew)); exact HO231.out) hb); have n1_ := Aside0.mk (Kd.R_lower ho12 (below_size (by repeat (first | (with_reducible first | exact HB.out | apply below_alloc | apply pw_below_drewN | apply below_drew1) | exact HB.out)))); have n2_ := Aside0.mk (below_step (by repeat (first | (with_reducible first | exact HB.out | apply below_alloc | apply pw_below_drewN | apply below_drew1) | exact HB.out)) hb); clear HO231; clear HB; have HO231 := n0_; have HO234 := n1_; have HB := n2_; clear n0_ n1_ n2_; clear hb ho12; obtain ⟨Ao13, co13, eo13⟩ := Kd.R_slice HO234.out; subst eo13) | ((with_reducible refine gate_callee (f := 13) rfl ?_); refine goesL_ (some 16) rfl rfl Try.func13 (by kernel_rfl) rfl #[.agg #[.int .i64 256, .slice Ao10 y229.length co10], .slice Ao13 y232.length co13] rfl (by (try simp only [List.map_toArray, List.map_cons, List.map_nil]); first | done | rfl | (simp only [List.length_drop, List.length_take]; rfl)) ?_; (with_reducible refine (ipfix_Record.calls k 256 _ _ y229 _ _ y232 t235 t236 _ ?side1 ?side2 ?side3 ?side4 A2.out).mono ?_); (case side1 => repeat (first | exact (Kd.R_reads' HO231.out).2.2 | (with_reducible refine Kd.C_alloc ?_ _) | (with_reducible refine Kd.C_drewN ?_ _) | (with_reducible refine Kd.C_drew ?_))); (case side2 => exact (Kd.R_reads' HO231.out).2.1); (case side3 => repeat (first | exact (Kd.R_reads' HO234.out).2.2 | (with_reducible refine Kd.C_alloc ?_ _) | (with_reducible refine Kd.C_drewN ?_ _) | (with_reducible refine Kd.C_drew ?_))); (case side4 => exact (Kd.R_reads' HO234.out).2.1); rintro e w14 ⟨rfl, hb⟩; refine ⟨_, rfl, ?_⟩; have n0_ := Aside0.mk (Kd.R_below (by (with_reducible repeat (first | apply Kd.R_alloc | apply Kd.R_drewN | apply Kd.R_drew)); exact HO231.out) hb); have n1_ := Aside0.mk (Kd.R_below (by (with_reducible repeat (first | apply Kd.R_alloc | apply Kd.R_drewN | apply Kd.R_drew)); exact HO234.out) hb); have n2_ := Aside0.mk (below_step (by repeat (first | (with_reducible first | exact HB.out | apply below_alloc | apply pw_below_drewN | apply below_drew1) | exact HB.out)) hb); clear HO231; clear HO234; clear HB; have HO231 := n0_; have HO234 := n1_; have HB := n2_; clear n0_ n1_ n2_; (try clear hb); (try clear hb2); (try clear hk); (try clear hi)))
          go_ret
          exact ⟨by first | rfl | (simp [errW_none, errW_some] <;> rfl) | (simp [*, errW_none, errW_some] <;> rfl), by repeat (first | (with_reducible first | exact HB.out | apply below_alloc | apply pw_below_drewN | apply below_drew1) | exact HB.out)⟩
        · rw [if_neg c6] at H
          have c6b0 : (t236 == 0) = false := beq_eq_false_iff_ne.mpr c6
          have c6b1 : (t236 != 0) = true := bne_iff_ne.mpr c6
          obtain rfl := Option.some.inj H
          go_enter Try.func11, Try.ntmps11
          go_wp2_with (first | ((with_reducible refine gate_callee (f := 10) rfl ?_); refine goesL_ (some 7) rfl rfl Try.func10 (by kernel_rfl) rfl #[.agg #[.int .i64 0, .int .i64 0, .int .i64 1, .slice none 0 0]] rfl (by (try simp only [List.map_toArray, List.map_cons, List.map_nil]); first | done | rfl | (simp only [List.length_drop, List.length_take]; rfl)) ?_; (refine (ipfix_Put.calls k 0 0 1 _ _ ([] : List (S29)) t227 t228 _ ?side1 ?side2 A1.out).mono ?_); (case side1 => exact Kd.C_nil _ _); (case side2 => exact Nat.le_refl _); rintro e w15 ⟨rfl, hb⟩; refine ⟨_, rfl, ?_⟩; have n0_ := Aside0.mk (below_step (by repeat (first | (with_reducible first | exact HB.out | apply below_alloc | apply pw_below_drewN | apply below_drew1) | exact HB.out)) hb); clear HB; have HB := n0_; clear n0_; (try clear hb); (try clear hb2); (try clear hk); (try clear hi)) | ((with_reducible refine gate_dst (N := 13) rfl ?_); refine Kd.R_lit k82 _ 82 ?hg (N := 13) ?hd (xs := ([(⟨1, 2, 0⟩ : S82), (⟨2, 65535, 0⟩ : S82)] : List (S82))) (inner := [.int .i64 1, .int .i64 2, .int .i64 0, .int .i64 2, .int .i64 65535, .int .i64 0]) (ok := fun _ => True) (okp := fun _ => True) ?hr ?hp (fun _ hk => hk) trivial (Below.refl _ _) (Nat.le_refl _) (by simp) ?_; (case hd => rfl); (case hg => rfl); (case hr => first | (go_simp; done) | (go_simp; rfl)); (case hp => exact (Reps.c3 (show Kd.M k82 _ _ _ (⟨1, 2, 0⟩ : S82) [.int .i64 1, .int .i64 2, .int .i64 0] from (k82_mkM _ _ _ (⟨1, 2, 0⟩ : S82) )) (Reps.c3 (show Kd.M k82 _ _ _ (⟨2, 65535, 0⟩ : S82) [.int .i64 2, .int .i64 65535, .int .i64 0] from (k82_mkM _ _ _ (⟨2, 65535, 0⟩ : S82) )) (Reps.none _ _)))); intro v230 w16 ho17 hb hg_ hnew_; clear hg_ hnew_; (first | rw [← Ny229.out] at ho17 | (simp only [Int.reduceToNat] at ho17; rw [← Ny229.out] at ho17)); have n0_ := Aside0.mk (Kd.R_lower ho17 (below_size (by repeat (first | (with_reducible first | exact HB.out | apply below_alloc | apply pw_below_drewN | apply below_drew1) | exact HB.out)))); have n1_ := Aside0.mk (below_step (by repeat (first | (with_reducible first | exact HB.out | apply below_alloc | apply pw_below_drewN | apply below_drew1) | exact HB.out)) hb); clear HB; have HO231 := n0_; have HB := n1_; clear n0_ n1_; clear hb ho17; obtain ⟨Ao18, co18, eo18⟩ := Kd.R_slice HO231.out; subst eo18) | ((with_reducible refine gate_dst (N := 15) rfl ?_); refine Kd.R_lit Kd.string _ 9 ?hg (N := 15) ?hd (xs := ([(⟨#[97, 98]⟩ : ByteArray), (⟨#[99]⟩ : ByteArray)] : List ByteArray)) (inner := [.string (⟨#[97, 98]⟩ : ByteArray), .string (⟨#[99]⟩ : ByteArray)]) (ok := fun _ => True) (okp := fun _ => True) ?hr ?hp (fun _ hk => hk) trivial (Below.refl _ _) (Nat.le_refl _) (by simp) ?_; (case hd => rfl); (case hg => rfl); (case hr => first | (go_simp; done) | (go_simp; rfl)); (case hp => exact (Reps.one (show Kd.M Kd.string _ _ _ (⟨#[97, 98]⟩ : ByteArray) [.string (⟨#[97, 98]⟩ : ByteArray)] from rfl) (Reps.one (show Kd.M Kd.string _ _ _ (⟨#[99]⟩ : ByteArray) [.string (⟨#[99]⟩ : ByteArray)] from rfl) (Reps.none _ _)))); intro v233 w19 ho20 hb hg_ hnew_; clear hg_ hnew_; (first | rw [← Ny232.out] at ho20 | (simp only [Int.reduceToNat] at ho20; rw [← Ny232.out] at ho20)); have n0_ := Aside0.mk (Kd.R_below (by (with_reducible repeat (first | apply Kd.R_alloc | apply Kd.R_drewN | apply Kd.R_drew)); exact HO231.out) hb); have n1_ := Aside0.mk (Kd.R_lower ho20 (below_size (by repeat (first | (with_reducible first | exact HB.out | apply below_alloc | apply pw_below_drewN | apply below_drew1) | exact HB.out)))); have n2_ := Aside0.mk (below_step (by repeat (first | (with_reducible first | exact HB.out | apply below_alloc | apply pw_below_drewN | apply below_drew1) | exact HB.out)) hb); clear HO231; clear HB; have HO231 := n0_; have HO234 := n1_; have HB := n2_; clear n0_ n1_ n2_; clear hb ho20; obtain ⟨Ao21, co21, eo21⟩ := Kd.R_slice HO234.out; subst eo21) | ((with_reducible refine gate_callee (f := 13) rfl ?_); refine goesL_ (some 16) rfl rfl Try.func13 (by kernel_rfl) rfl #[.agg #[.int .i64 256, .slice Ao18 y229.length co18], .slice Ao21 y232.length co21] rfl (by (try simp only [List.map_toArray, List.map_cons, List.map_nil]); first | done | rfl | (simp only [List.length_drop, List.length_take]; rfl)) ?_; (with_reducible refine (ipfix_Record.calls k 256 _ _ y229 _ _ y232 t235 t236 _ ?side1 ?side2 ?side3 ?side4 A2.out).mono ?_); (case side1 => repeat (first | exact (Kd.R_reads' HO231.out).2.2 | (with_reducible refine Kd.C_alloc ?_ _) | (with_reducible refine Kd.C_drewN ?_ _) | (with_reducible refine Kd.C_drew ?_))); (case side2 => exact (Kd.R_reads' HO231.out).2.1); (case side3 => repeat (first | exact (Kd.R_reads' HO234.out).2.2 | (with_reducible refine Kd.C_alloc ?_ _) | (with_reducible refine Kd.C_drewN ?_ _) | (with_reducible refine Kd.C_drew ?_))); (case side4 => exact (Kd.R_reads' HO234.out).2.1); rintro e w22 ⟨rfl, hb⟩; refine ⟨_, rfl, ?_⟩; have n0_ := Aside0.mk (Kd.R_below (by (with_reducible repeat (first | apply Kd.R_alloc | apply Kd.R_drewN | apply Kd.R_drew)); exact HO231.out) hb); have n1_ := Aside0.mk (Kd.R_below (by (with_reducible repeat (first | apply Kd.R_alloc | apply Kd.R_drewN | apply Kd.R_drew)); exact HO234.out) hb); have n2_ := Aside0.mk (below_step (by repeat (first | (with_reducible first | exact HB.out | apply below_alloc | apply pw_below_drewN | apply below_drew1) | exact HB.out)) hb); clear HO231; clear HO234; clear HB; have HO231 := n0_; have HO234 := n1_; have HB := n2_; clear n0_ n1_ n2_; (try clear hb); (try clear hb2); (try clear hk); (try clear hi)))
          go_ret
          exact ⟨by first | rfl | (simp [errW_none, errW_some] <;> rfl) | (simp [*, errW_none, errW_some] <;> rfl), by repeat (first | (with_reducible first | exact HB.out | apply below_alloc | apply pw_below_drewN | apply below_drew1) | exact HB.out)⟩
      · rw [if_neg c5] at H
        have c5b0 : (t235.toList == ([97, 98, 1, 99] : List UInt8)) = false := beq_eq_false_iff_ne.mpr c5
        have c5b1 : (t235.toList != ([97, 98, 1, 99] : List UInt8)) = true := bne_iff_ne.mpr c5
        obtain rfl := Option.some.inj H
        go_enter Try.func11, Try.ntmps11
        go_wp2_with (first | ((with_reducible refine gate_callee (f := 10) rfl ?_); refine goesL_ (some 7) rfl rfl Try.func10 (by kernel_rfl) rfl #[.agg #[.int .i64 0, .int .i64 0, .int .i64 1, .slice none 0 0]] rfl (by (try simp only [List.map_toArray, List.map_cons, List.map_nil]); first | done | rfl | (simp only [List.length_drop, List.length_take]; rfl)) ?_; (refine (ipfix_Put.calls k 0 0 1 _ _ ([] : List (S29)) t227 t228 _ ?side1 ?side2 A1.out).mono ?_); (case side1 => exact Kd.C_nil _ _); (case side2 => exact Nat.le_refl _); rintro e w23 ⟨rfl, hb⟩; refine ⟨_, rfl, ?_⟩; have n0_ := Aside0.mk (below_step (by repeat (first | (with_reducible first | exact HB.out | apply below_alloc | apply pw_below_drewN | apply below_drew1) | exact HB.out)) hb); clear HB; have HB := n0_; clear n0_; (try clear hb); (try clear hb2); (try clear hk); (try clear hi)) | ((with_reducible refine gate_dst (N := 13) rfl ?_); refine Kd.R_lit k82 _ 82 ?hg (N := 13) ?hd (xs := ([(⟨1, 2, 0⟩ : S82), (⟨2, 65535, 0⟩ : S82)] : List (S82))) (inner := [.int .i64 1, .int .i64 2, .int .i64 0, .int .i64 2, .int .i64 65535, .int .i64 0]) (ok := fun _ => True) (okp := fun _ => True) ?hr ?hp (fun _ hk => hk) trivial (Below.refl _ _) (Nat.le_refl _) (by simp) ?_; (case hd => rfl); (case hg => rfl); (case hr => first | (go_simp; done) | (go_simp; rfl)); (case hp => exact (Reps.c3 (show Kd.M k82 _ _ _ (⟨1, 2, 0⟩ : S82) [.int .i64 1, .int .i64 2, .int .i64 0] from (k82_mkM _ _ _ (⟨1, 2, 0⟩ : S82) )) (Reps.c3 (show Kd.M k82 _ _ _ (⟨2, 65535, 0⟩ : S82) [.int .i64 2, .int .i64 65535, .int .i64 0] from (k82_mkM _ _ _ (⟨2, 65535, 0⟩ : S82) )) (Reps.none _ _)))); intro v230 w24 ho25 hb hg_ hnew_; clear hg_ hnew_; (first | rw [← Ny229.out] at ho25 | (simp only [Int.reduceToNat] at ho25; rw [← Ny229.out] at ho25)); have n0_ := Aside0.mk (Kd.R_lower ho25 (below_size (by repeat (first | (with_reducible first | exact HB.out | apply below_alloc | apply pw_below_drewN | apply below_drew1) | exact HB.out)))); have n1_ := Aside0.mk (below_step (by repeat (first | (with_reducible first | exact HB.out | apply below_alloc | apply pw_below_drewN | apply below_drew1) | exact HB.out)) hb); clear HB; have HO231 := n0_; have HB := n1_; clear n0_ n1_; clear hb ho25; obtain ⟨Ao26, co26, eo26⟩ := Kd.R_slice HO231.out; subst eo26) | ((with_reducible refine gate_dst (N := 15) rfl ?_); refine Kd.R_lit Kd.string _ 9 ?hg (N := 15) ?hd (xs := ([(⟨#[97, 98]⟩ : ByteArray), (⟨#[99]⟩ : ByteArray)] : List ByteArray)) (inner := [.string (⟨#[97, 98]⟩ : ByteArray), .string (⟨#[99]⟩ : ByteArray)]) (ok := fun _ => True) (okp := fun _ => True) ?hr ?hp (fun _ hk => hk) trivial (Below.refl _ _) (Nat.le_refl _) (by simp) ?_; (case hd => rfl); (case hg => rfl); (case hr => first | (go_simp; done) | (go_simp; rfl)); (case hp => exact (Reps.one (show Kd.M Kd.string _ _ _ (⟨#[97, 98]⟩ : ByteArray) [.string (⟨#[97, 98]⟩ : ByteArray)] from rfl) (Reps.one (show Kd.M Kd.string _ _ _ (⟨#[99]⟩ : ByteArray) [.string (⟨#[99]⟩ : ByteArray)] from rfl) (Reps.none _ _)))); intro v233 w27 ho28 hb hg_ hnew_; clear hg_ hnew_; (first | rw [← Ny232.out] at ho28 | (simp only [Int.reduceToNat] at ho28; rw [← Ny232.out] at ho28)); have n0_ := Aside0.mk (Kd.R_below (by (with_reducible repeat (first | apply Kd.R_alloc | apply Kd.R_drewN | apply Kd.R_drew)); exact HO231.out) hb); have n1_ := Aside0.mk (Kd.R_lower ho28 (below_size (by repeat (first | (with_reducible first | exact HB.out | apply below_alloc | apply pw_below_drewN | apply below_drew1) | exact HB.out)))); have n2_ := Aside0.mk (below_step (by repeat (first | (with_reducible first | exact HB.out | apply below_alloc | apply pw_below_drewN | apply below_drew1) | exact HB.out)) hb); clear HO231; clear HB; have HO231 := n0_; have HO234 := n1_; have HB := n2_; clear n0_ n1_ n2_; clear hb ho28; obtain ⟨Ao29, co29, eo29⟩ := Kd.R_slice HO234.out; subst eo29) | ((with_reducible refine gate_callee (f := 13) rfl ?_); refine goesL_ (some 16) rfl rfl Try.func13 (by kernel_rfl) rfl #[.agg #[.int .i64 256, .slice Ao26 y229.length co26], .slice Ao29 y232.length co29] rfl (by (try simp only [List.map_toArray, List.map_cons, List.map_nil]); first | done | rfl | (simp only [List.length_drop, List.length_take]; rfl)) ?_; (with_reducible refine (ipfix_Record.calls k 256 _ _ y229 _ _ y232 t235 t236 _ ?side1 ?side2 ?side3 ?side4 A2.out).mono ?_); (case side1 => repeat (first | exact (Kd.R_reads' HO231.out).2.2 | (with_reducible refine Kd.C_alloc ?_ _) | (with_reducible refine Kd.C_drewN ?_ _) | (with_reducible refine Kd.C_drew ?_))); (case side2 => exact (Kd.R_reads' HO231.out).2.1); (case side3 => repeat (first | exact (Kd.R_reads' HO234.out).2.2 | (with_reducible refine Kd.C_alloc ?_ _) | (with_reducible refine Kd.C_drewN ?_ _) | (with_reducible refine Kd.C_drew ?_))); (case side4 => exact (Kd.R_reads' HO234.out).2.1); rintro e w30 ⟨rfl, hb⟩; refine ⟨_, rfl, ?_⟩; have n0_ := Aside0.mk (Kd.R_below (by (with_reducible repeat (first | apply Kd.R_alloc | apply Kd.R_drewN | apply Kd.R_drew)); exact HO231.out) hb); have n1_ := Aside0.mk (Kd.R_below (by (with_reducible repeat (first | apply Kd.R_alloc | apply Kd.R_drewN | apply Kd.R_drew)); exact HO234.out) hb); have n2_ := Aside0.mk (below_step (by repeat (first | (with_reducible first | exact HB.out | apply below_alloc | apply pw_below_drewN | apply below_drew1) | exact HB.out)) hb); clear HO231; clear HO234; clear HB; have HO231 := n0_; have HO234 := n1_; have HB := n2_; clear n0_ n1_ n2_; (try clear hb); (try clear hb2); (try clear hk); (try clear hi)))
        go_ret
        exact ⟨by first | rfl | (simp [errW_none, errW_some] <;> rfl) | (simp [*, errW_none, errW_some] <;> rfl), by repeat (first | (with_reducible first | exact HB.out | apply below_alloc | apply pw_below_drewN | apply below_drew1) | exact HB.out)⟩
    · rw [if_neg c4] at H
      have c4b0 : (t228 == 0) = false := beq_eq_false_iff_ne.mpr c4
      have c4b1 : (t228 != 0) = true := bne_iff_ne.mpr c4
      obtain rfl := Option.some.inj H
      go_enter Try.func11, Try.ntmps11
      go_wp2_with (first | ((with_reducible refine gate_callee (f := 10) rfl ?_); refine goesL_ (some 7) rfl rfl Try.func10 (by kernel_rfl) rfl #[.agg #[.int .i64 0, .int .i64 0, .int .i64 1, .slice none 0 0]] rfl (by (try simp only [List.map_toArray, List.map_cons, List.map_nil]); first | done | rfl | (simp only [List.length_drop, List.length_take]; rfl)) ?_; (refine (ipfix_Put.calls k 0 0 1 _ _ ([] : List (S29)) t227 t228 _ ?side1 ?side2 A1.out).mono ?_); (case side1 => exact Kd.C_nil _ _); (case side2 => exact Nat.le_refl _); rintro e w31 ⟨rfl, hb⟩; refine ⟨_, rfl, ?_⟩; have n0_ := Aside0.mk (below_step (by repeat (first | (with_reducible first | exact HB.out | apply below_alloc | apply pw_below_drewN | apply below_drew1) | exact HB.out)) hb); clear HB; have HB := n0_; clear n0_; (try clear hb); (try clear hb2); (try clear hk); (try clear hi)) | ((with_reducible refine gate_dst (N := 13) rfl ?_); refine Kd.R_lit k82 _ 82 ?hg (N := 13) ?hd (xs := ([(⟨1, 2, 0⟩ : S82), (⟨2, 65535, 0⟩ : S82)] : List (S82))) (inner := [.int .i64 1, .int .i64 2, .int .i64 0, .int .i64 2, .int .i64 65535, .int .i64 0]) (ok := fun _ => True) (okp := fun _ => True) ?hr ?hp (fun _ hk => hk) trivial (Below.refl _ _) (Nat.le_refl _) (by simp) ?_; (case hd => rfl); (case hg => rfl); (case hr => first | (go_simp; done) | (go_simp; rfl)); (case hp => exact (Reps.c3 (show Kd.M k82 _ _ _ (⟨1, 2, 0⟩ : S82) [.int .i64 1, .int .i64 2, .int .i64 0] from (k82_mkM _ _ _ (⟨1, 2, 0⟩ : S82) )) (Reps.c3 (show Kd.M k82 _ _ _ (⟨2, 65535, 0⟩ : S82) [.int .i64 2, .int .i64 65535, .int .i64 0] from (k82_mkM _ _ _ (⟨2, 65535, 0⟩ : S82) )) (Reps.none _ _)))); intro v230 w32 ho33 hb hg_ hnew_; clear hg_ hnew_; (first | rw [← Ny229.out] at ho33 | (simp only [Int.reduceToNat] at ho33; rw [← Ny229.out] at ho33)); have n0_ := Aside0.mk (Kd.R_lower ho33 (below_size (by repeat (first | (with_reducible first | exact HB.out | apply below_alloc | apply pw_below_drewN | apply below_drew1) | exact HB.out)))); have n1_ := Aside0.mk (below_step (by repeat (first | (with_reducible first | exact HB.out | apply below_alloc | apply pw_below_drewN | apply below_drew1) | exact HB.out)) hb); clear HB; have HO231 := n0_; have HB := n1_; clear n0_ n1_; clear hb ho33; obtain ⟨Ao34, co34, eo34⟩ := Kd.R_slice HO231.out; subst eo34) | ((with_reducible refine gate_dst (N := 15) rfl ?_); refine Kd.R_lit Kd.string _ 9 ?hg (N := 15) ?hd (xs := ([(⟨#[97, 98]⟩ : ByteArray), (⟨#[99]⟩ : ByteArray)] : List ByteArray)) (inner := [.string (⟨#[97, 98]⟩ : ByteArray), .string (⟨#[99]⟩ : ByteArray)]) (ok := fun _ => True) (okp := fun _ => True) ?hr ?hp (fun _ hk => hk) trivial (Below.refl _ _) (Nat.le_refl _) (by simp) ?_; (case hd => rfl); (case hg => rfl); (case hr => first | (go_simp; done) | (go_simp; rfl)); (case hp => exact (Reps.one (show Kd.M Kd.string _ _ _ (⟨#[97, 98]⟩ : ByteArray) [.string (⟨#[97, 98]⟩ : ByteArray)] from rfl) (Reps.one (show Kd.M Kd.string _ _ _ (⟨#[99]⟩ : ByteArray) [.string (⟨#[99]⟩ : ByteArray)] from rfl) (Reps.none _ _)))); intro v233 w35 ho36 hb hg_ hnew_; clear hg_ hnew_; (first | rw [← Ny232.out] at ho36 | (simp only [Int.reduceToNat] at ho36; rw [← Ny232.out] at ho36)); have n0_ := Aside0.mk (Kd.R_below (by (with_reducible repeat (first | apply Kd.R_alloc | apply Kd.R_drewN | apply Kd.R_drew)); exact HO231.out) hb); have n1_ := Aside0.mk (Kd.R_lower ho36 (below_size (by repeat (first | (with_reducible first | exact HB.out | apply below_alloc | apply pw_below_drewN | apply below_drew1) | exact HB.out)))); have n2_ := Aside0.mk (below_step (by repeat (first | (with_reducible first | exact HB.out | apply below_alloc | apply pw_below_drewN | apply below_drew1) | exact HB.out)) hb); clear HO231; clear HB; have HO231 := n0_; have HO234 := n1_; have HB := n2_; clear n0_ n1_ n2_; clear hb ho36; obtain ⟨Ao37, co37, eo37⟩ := Kd.R_slice HO234.out; subst eo37) | ((with_reducible refine gate_callee (f := 13) rfl ?_); refine goesL_ (some 16) rfl rfl Try.func13 (by kernel_rfl) rfl #[.agg #[.int .i64 256, .slice Ao34 y229.length co34], .slice Ao37 y232.length co37] rfl (by (try simp only [List.map_toArray, List.map_cons, List.map_nil]); first | done | rfl | (simp only [List.length_drop, List.length_take]; rfl)) ?_; (with_reducible refine (ipfix_Record.calls k 256 _ _ y229 _ _ y232 t235 t236 _ ?side1 ?side2 ?side3 ?side4 A2.out).mono ?_); (case side1 => repeat (first | exact (Kd.R_reads' HO231.out).2.2 | (with_reducible refine Kd.C_alloc ?_ _) | (with_reducible refine Kd.C_drewN ?_ _) | (with_reducible refine Kd.C_drew ?_))); (case side2 => exact (Kd.R_reads' HO231.out).2.1); (case side3 => repeat (first | exact (Kd.R_reads' HO234.out).2.2 | (with_reducible refine Kd.C_alloc ?_ _) | (with_reducible refine Kd.C_drewN ?_ _) | (with_reducible refine Kd.C_drew ?_))); (case side4 => exact (Kd.R_reads' HO234.out).2.1); rintro e w38 ⟨rfl, hb⟩; refine ⟨_, rfl, ?_⟩; have n0_ := Aside0.mk (Kd.R_below (by (with_reducible repeat (first | apply Kd.R_alloc | apply Kd.R_drewN | apply Kd.R_drew)); exact HO231.out) hb); have n1_ := Aside0.mk (Kd.R_below (by (with_reducible repeat (first | apply Kd.R_alloc | apply Kd.R_drewN | apply Kd.R_drew)); exact HO234.out) hb); have n2_ := Aside0.mk (below_step (by repeat (first | (with_reducible first | exact HB.out | apply below_alloc | apply pw_below_drewN | apply below_drew1) | exact HB.out)) hb); clear HO231; clear HO234; clear HB; have HO231 := n0_; have HO234 := n1_; have HB := n2_; clear n0_ n1_ n2_; (try clear hb); (try clear hb2); (try clear hk); (try clear hi)))
      go_ret
      exact ⟨by first | rfl | (simp [errW_none, errW_some] <;> rfl) | (simp [*, errW_none, errW_some] <;> rfl), by repeat (first | (with_reducible first | exact HB.out | apply below_alloc | apply pw_below_drewN | apply below_drew1) | exact HB.out)⟩
  · rw [if_neg c3] at H
    have c3b0 : (t227.toList == ([0, 10, 0, 16, 0, 0, 0, 0, 0, 0, 0, 0, 0, 0, 0, 1] : List UInt8)) = false := beq_eq_false_iff_ne.mpr c3
    have c3b1 : (t227.toList != ([0, 10, 0, 16, 0, 0, 0, 0, 0, 0, 0, 0, 0, 0, 0, 1] : List UInt8)) = true := bne_iff_ne.mpr c3
    obtain rfl := Option.some.inj H
    go_enter Try.func11, Try.ntmps11
    go_wp2_with (first | ((with_reducible refine gate_callee (f := 10) rfl ?_); refine goesL_ (some 7) rfl rfl Try.func10 (by kernel_rfl) rfl #[.agg #[.int .i64 0, .int .i64 0, .int .i64 1, .slice none 0 0]] rfl (by (try simp only [List.map_toArray, List.map_cons, List.map_nil]); first | done | rfl | (simp only [List.length_drop, List.length_take]; rfl)) ?_; (refine (ipfix_Put.calls k 0 0 1 _ _ ([] : List (S29)) t227 t228 _ ?side1 ?side2 A1.out).mono ?_); (case side1 => exact Kd.C_nil _ _); (case side2 => exact Nat.le_refl _); rintro e w39 ⟨rfl, hb⟩; refine ⟨_, rfl, ?_⟩; have n0_ := Aside0.mk (below_step (by repeat (first | (with_reducible first | exact HB.out | apply below_alloc | apply pw_below_drewN | apply below_drew1) | exact HB.out)) hb); clear HB; have HB := n0_; clear n0_; (try clear hb); (try clear hb2); (try clear hk); (try clear hi)) | ((with_reducible refine gate_dst (N := 13) rfl ?_); refine Kd.R_lit k82 _ 82 ?hg (N := 13) ?hd (xs := ([(⟨1, 2, 0⟩ : S82), (⟨2, 65535, 0⟩ : S82)] : List (S82))) (inner := [.int .i64 1, .int .i64 2, .int .i64 0, .int .i64 2, .int .i64 65535, .int .i64 0]) (ok := fun _ => True) (okp := fun _ => True) ?hr ?hp (fun _ hk => hk) trivial (Below.refl _ _) (Nat.le_refl _) (by simp) ?_; (case hd => rfl); (case hg => rfl); (case hr => first | (go_simp; done) | (go_simp; rfl)); (case hp => exact (Reps.c3 (show Kd.M k82 _ _ _ (⟨1, 2, 0⟩ : S82) [.int .i64 1, .int .i64 2, .int .i64 0] from (k82_mkM _ _ _ (⟨1, 2, 0⟩ : S82) )) (Reps.c3 (show Kd.M k82 _ _ _ (⟨2, 65535, 0⟩ : S82) [.int .i64 2, .int .i64 65535, .int .i64 0] from (k82_mkM _ _ _ (⟨2, 65535, 0⟩ : S82) )) (Reps.none _ _)))); intro v230 w40 ho41 hb hg_ hnew_; clear hg_ hnew_; (first | rw [← Ny229.out] at ho41 | (simp only [Int.reduceToNat] at ho41; rw [← Ny229.out] at ho41)); have n0_ := Aside0.mk (Kd.R_lower ho41 (below_size (by repeat (first | (with_reducible first | exact HB.out | apply below_alloc | apply pw_below_drewN | apply below_drew1) | exact HB.out)))); have n1_ := Aside0.mk (below_step (by repeat (first | (with_reducible first | exact HB.out | apply below_alloc | apply pw_below_drewN | apply below_drew1) | exact HB.out)) hb); clear HB; have HO231 := n0_; have HB := n1_; clear n0_ n1_; clear hb ho41; obtain ⟨Ao42, co42, eo42⟩ := Kd.R_slice HO231.out; subst eo42) | ((with_reducible refine gate_dst (N := 15) rfl ?_); refine Kd.R_lit Kd.string _ 9 ?hg (N := 15) ?hd (xs := ([(⟨#[97, 98]⟩ : ByteArray), (⟨#[99]⟩ : ByteArray)] : List ByteArray)) (inner := [.string (⟨#[97, 98]⟩ : ByteArray), .string (⟨#[99]⟩ : ByteArray)]) (ok := fun _ => True) (okp := fun _ => True) ?hr ?hp (fun _ hk => hk) trivial (Below.refl _ _) (Nat.le_refl _) (by simp) ?_; (case hd => rfl); (case hg => rfl); (case hr => first | (go_simp; done) | (go_simp; rfl)); (case hp => exact (Reps.one (show Kd.M Kd.string _ _ _ (⟨#[97, 98]⟩ : ByteArray) [.string (⟨#[97, 98]⟩ : ByteArray)] from rfl) (Reps.one (show Kd.M Kd.string _ _ _ (⟨#[99]⟩ : ByteArray) [.string (⟨#[99]⟩ : ByteArray)] from rfl) (Reps.none _ _)))); intro v233 w43 ho44 hb hg_ hnew_; clear hg_ hnew_; (first | rw [← Ny232.out] at ho44 | (simp only [Int.reduceToNat] at ho44; rw [← Ny232.out] at ho44)); have n0_ := Aside0.mk (Kd.R_below (by (with_reducible repeat (first | apply Kd.R_alloc | apply Kd.R_drewN | apply Kd.R_drew)); exact HO231.out) hb); have n1_ := Aside0.mk (Kd.R_lower ho44 (below_size (by repeat (first | (with_reducible first | exact HB.out | apply below_alloc | apply pw_below_drewN | apply below_drew1) | exact HB.out)))); have n2_ := Aside0.mk (below_step (by repeat (first | (with_reducible first | exact HB.out | apply below_alloc | apply pw_below_drewN | apply below_drew1) | exact HB.out)) hb); clear HO231; clear HB; have HO231 := n0_; have HO234 := n1_; have HB := n2_; clear n0_ n1_ n2_; clear hb ho44; obtain ⟨Ao45, co45, eo45⟩ := Kd.R_slice HO234.out; subst eo45) | ((with_reducible refine gate_callee (f := 13) rfl ?_); refine goesL_ (some 16) rfl rfl Try.func13 (by kernel_rfl) rfl #[.agg #[.int .i64 256, .slice Ao42 y229.length co42], .slice Ao45 y232.length co45] rfl (by (try simp only [List.map_toArray, List.map_cons, List.map_nil]); first | done | rfl | (simp only [List.length_drop, List.length_take]; rfl)) ?_; (with_reducible refine (ipfix_Record.calls k 256 _ _ y229 _ _ y232 t235 t236 _ ?side1 ?side2 ?side3 ?side4 A2.out).mono ?_); (case side1 => repeat (first | exact (Kd.R_reads' HO231.out).2.2 | (with_reducible refine Kd.C_alloc ?_ _) | (with_reducible refine Kd.C_drewN ?_ _) | (with_reducible refine Kd.C_drew ?_))); (case side2 => exact (Kd.R_reads' HO231.out).2.1); (case side3 => repeat (first | exact (Kd.R_reads' HO234.out).2.2 | (with_reducible refine Kd.C_alloc ?_ _) | (with_reducible refine Kd.C_drewN ?_ _) | (with_reducible refine Kd.C_drew ?_))); (case side4 => exact (Kd.R_reads' HO234.out).2.1); rintro e w46 ⟨rfl, hb⟩; refine ⟨_, rfl, ?_⟩; have n0_ := Aside0.mk (Kd.R_below (by (with_reducible repeat (first | apply Kd.R_alloc | apply Kd.R_drewN | apply Kd.R_drew)); exact HO231.out) hb); have n1_ := Aside0.mk (Kd.R_below (by (with_reducible repeat (first | apply Kd.R_alloc | apply Kd.R_drewN | apply Kd.R_drew)); exact HO234.out) hb); have n2_ := Aside0.mk (below_step (by repeat (first | (with_reducible first | exact HB.out | apply below_alloc | apply pw_below_drewN | apply below_drew1) | exact HB.out)) hb); clear HO231; clear HO234; clear HB; have HO231 := n0_; have HO234 := n1_; have HB := n2_; clear n0_ n1_ n2_; (try clear hb); (try clear hb2); (try clear hk); (try clear hi)))
    go_ret
    exact ⟨by first | rfl | (simp [errW_none, errW_some] <;> rfl) | (simp [*, errW_none, errW_some] <;> rfl), by repeat (first | (with_reducible first | exact HB.out | apply below_alloc | apply pw_below_drewN | apply below_drew1) | exact HB.out)⟩

/-! ### octet_Cut: function 51 -/
def octet_Cut.f (a0 : ByteArray) (a1 : Int) : Option (ByteArray × ByteArray × Int) := if a1 < 0 then (some ((⟨#[]⟩ : ByteArray), (⟨#[]⟩ : ByteArray), 1)) else (if (a0.size : Int) < a1 then (some ((⟨#[]⟩ : ByteArray), (⟨#[]⟩ : ByteArray), 2)) else (if 0 ≤ a1 then (if a1 ≤ (a0.size : Int) then (some (a0.extract 0 (a1 : Int).toNat, a0.extract (a1 : Int).toNat a0.size, 0)) else (none)) else (none)))
set_option maxHeartbeats 8000000 in
set_option maxRecDepth 100000 in
theorem octet_Cut.calls (a0 : ByteArray) (a1 : Int) (r1 : ByteArray) (r2 : ByteArray) (r3 : Int) (w : World) (h : octet_Cut.f a0 a1 = some (r1, r2, r3)) :
    Calls Try.prog 51 #[.string a0, .int .i64 a1] w fun e w' => e = .returned (.tuple #[.string r1, .string r2, .int .i64 r3]) ∧ Drawn0 w w' := by
  have H : (if a1 < 0 then (some ((⟨#[]⟩ : ByteArray), (⟨#[]⟩ : ByteArray), 1)) else (if (a0.size : Int) < a1 then (some ((⟨#[]⟩ : ByteArray), (⟨#[]⟩ : ByteArray), 2)) else (if 0 ≤ a1 then (if a1 ≤ (a0.size : Int) then (some (a0.extract 0 (a1 : Int).toNat, a0.extract (a1 : Int).toNat a0.size, 0)) else (none)) else (none)))) = some (r1, r2, r3) := h
  clear h
  by_cases c3 : a1 < 0
  · rw [if_pos c3] at H
    have c3b0 : decide (a1 < 0) = true := decide_eq_true c3
    clear c3
    simp only [Option.some.injEq, Prod.mk.injEq] at H
    obtain ⟨rfl, rfl, rfl⟩ := H
    go_enter Try.func51, Try.ntmps51
    go_wp2
    repeat (go_quiet (fail); try go_wp2)
    go_ret3
    exact ⟨by first | rfl | (simp; done) | (simp [*]; done), by repeat (first | exact Drawn0.refl _ | apply Drawn0.step)⟩
  · rw [if_neg c3] at H
    have c3b0 : decide (a1 < 0) = false := decide_eq_false c3
    clear c3
    by_cases c4 : (a0.size : Int) < a1
    · rw [if_pos c4] at H
      have c4b0 : decide ((a0.size : Int) < a1) = true := decide_eq_true c4
      clear c4
      simp only [Option.some.injEq, Prod.mk.injEq] at H
      obtain ⟨rfl, rfl, rfl⟩ := H
      go_enter Try.func51, Try.ntmps51
      go_wp2
      repeat (go_quiet (fail); try go_wp2)
      go_ret3
      exact ⟨by first | rfl | (simp; done) | (simp [*]; done), by repeat (first | exact Drawn0.refl _ | apply Drawn0.step)⟩
    · rw [if_neg c4] at H
      have c4b0 : decide ((a0.size : Int) < a1) = false := decide_eq_false c4
      clear c4
      by_cases c5 : 0 ≤ a1
      · rw [if_pos c5] at H
        have c5b0 := eq_true c5
        have c5b1 : decide (0 ≤ a1) = true := decide_eq_true c5
        clear c5
        by_cases c6 : a1 ≤ (a0.size : Int)
        · rw [if_pos c6] at H
          have c6b0 := eq_true c6
          have c6b1 : decide (a1 ≤ (a0.size : Int)) = true := decide_eq_true c6
          clear c6
          have c7b0 := eq_true (of_decide_eq_true (by first | (with_reducible assumption) | assumption) : 0 ≤ a1)
          have c8b0 := eq_true (of_decide_eq_true (by first | (with_reducible assumption) | assumption) : a1 ≤ (a0.size : Int))
          simp only [Option.some.injEq, Prod.mk.injEq] at H
          obtain ⟨rfl, rfl, rfl⟩ := H
          go_enter Try.func51, Try.ntmps51
          go_wp2
          repeat (go_quiet (fail); try go_wp2)
          go_ret3
          exact ⟨by first | rfl | (simp; done) | (simp [*]; done), by repeat (first | exact Drawn0.refl _ | apply Drawn0.step)⟩
        · rw [if_neg c6] at H
          exact absurd H (by simp)
      · rw [if_neg c5] at H
        exact absurd H (by simp)

end Go.Proofs.Ytojmpdjbhplgkaa.PIpfixJoins
