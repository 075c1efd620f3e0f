/- The functions that a law uses, each as a plain function, with the proof that a call of the Go function comes to its answer. Condition of each: the arguments read as the data that it names, and the plain function has an answer. Written by a program of this session (standin.py). -/
import Derived.Test.YtojmpdjbhplgkaaPIpfixJoinsx0
import Derived.Test.YtojmpdjbhplgkaaPIpfixJoinsx1
import Derived.Lib.SliceRun
namespace Go.Proofs.Ytojmpdjbhplgkaa.PIpfixJoins
open Go.RowKit Go.Proofs.YtojmpdjbhplgkaaW.PrintWords Go.Proofs.YtojmpdjbhplgkaaW.PrintLast Go.Proofs.YtojmpdjbhplgkaaW.PrintMore
attribute [local go_sem] max2_int min2_int max_two min_two max_three min_three max_four min_four   -- for this text's walks alone
set_option linter.unusedVariables false
set_option linter.unusedSimpArgs false

/-! ### ipfix_Set_body: function 28 -/
mutual
def ipfix_Set_body.l0 : Nat → List (S37) → Int → Int → ByteArray → Bool → Option (ByteArray)
  | 0, _, _, _, _, _ => none
  | k + 1, x12, x13, x14, x137000, x137001 => if x14 < x13 then (if 0 ≤ x14 then (if x14 < (x12.length : Int) then ((ipfix_put.f k ((rd_T37 x12 x14).f0) 2).bind fun t146 => ((ipfix_put.f k (((rd_T37 x12 x14).f1).length : Int) 2).bind fun t147 => (if t146.size + t147.size ≤ 9223372036854775807 then ((strings_Builder_WriteString.f x137000 x137001 (t146 ++ t147)).bind fun bt148 => (ipfix_Set_body.l1 k x12 x13 x14 ((rd_T37 x12 x14).f1) (((rd_T37 x12 x14).f1).length : Int) 0 bt148.2.2.1 bt148.2.2.2)) else (none)))) else (none)) else (none)) else ((strings_Builder_String.f x137000 x137001).bind fun bt141 => (some bt141.1))
def ipfix_Set_body.l1 : Nat → List (S37) → Int → Int → List (S82) → Int → Int → ByteArray → Bool → Option (ByteArray)
  | 0, _, _, _, _, _, _, _, _ => none
  | k + 1, x12, x13, x14, x28, x29, x30, x137000, x137001 => if x30 < x29 then (if 0 ≤ x30 then (if x30 < (x28.length : Int) then (if ((rd_T82 x28 x30).f2) = 0 then ((ipfix_put.f k ((rd_T82 x28 x30).f0) 2).bind fun t154 => ((ipfix_put.f k ((rd_T82 x28 x30).f1) 2).bind fun t155 => (if t154.size + t155.size ≤ 9223372036854775807 then ((strings_Builder_WriteString.f x137000 x137001 (t154 ++ t155)).bind fun bt156 => (ipfix_Set_body.l1 k x12 x13 x14 x28 x29 (wrap64 (x30 + 1)) bt156.2.2.1 bt156.2.2.2)) else (none)))) else ((ipfix_put.f k (wrap64 (((rd_T82 x28 x30).f0) + 32768)) 2).bind fun t160 => ((ipfix_put.f k ((rd_T82 x28 x30).f1) 2).bind fun t161 => (if t160.size + t161.size ≤ 9223372036854775807 then ((ipfix_put.f k ((rd_T82 x28 x30).f2) 4).bind fun t162 => (if (t160 ++ t161).size + t162.size ≤ 9223372036854775807 then ((strings_Builder_WriteString.f x137000 x137001 ((t160 ++ t161) ++ t162)).bind fun bt163 => (ipfix_Set_body.l1 k x12 x13 x14 x28 x29 (wrap64 (x30 + 1)) bt163.2.2.1 bt163.2.2.2)) else (none))) else (none))))) else (none)) else (none)) else (ipfix_Set_body.l0 k x12 x13 (wrap64 (x14 + 1)) x137000 x137001)
end
def ipfix_Set_body.f (k : Nat) (a0_0 : Int) (l0_1 : List (S37)) (a0_2 : ByteArray) : Option (ByteArray) := (abi_NoEscape.f (⟨#[]⟩ : ByteArray)).bind fun bt134 => ((strings_Builder_WriteString.f bt134.1 bt134.2 a0_2).bind fun bt137 => (ipfix_Set_body.l0 k l0_1 (l0_1.length : Int) 0 bt137.2.2.1 bt137.2.2.2))
theorem ipfix_Set_body.mono_l : ∀ k, (∀ y0 y1 y2 y3 y4, LeO (ipfix_Set_body.l0 k y0 y1 y2 y3 y4) (ipfix_Set_body.l0 (k + 1) y0 y1 y2 y3 y4)) ∧ (∀ y0 y1 y2 y3 y4 y5 y6 y7, LeO (ipfix_Set_body.l1 k y0 y1 y2 y3 y4 y5 y6 y7) (ipfix_Set_body.l1 (k + 1) y0 y1 y2 y3 y4 y5 y6 y7))
  | 0 => ⟨fun _ _ _ _ _ r h => by simp [ipfix_Set_body.l0] at h, fun _ _ _ _ _ _ _ _ r h => by simp [ipfix_Set_body.l1] at h⟩
  | k + 1 => by
    obtain ⟨ih0, ih1⟩ := ipfix_Set_body.mono_l k
    refine ⟨?_, ?_⟩
    · intro y0 y1 y2 y3 y4
      unfold ipfix_Set_body.l0
      repeat' first
      | (with_reducible exact ih0 _ _ _ _ _)
      | (with_reducible exact ih1 _ _ _ _ _ _ _ _)
      | (with_reducible exact ipfix_put.mono _ _ _)
      | (with_reducible exact LeO.refl _)
      | (with_reducible exact LeO.none _)
      | (with_reducible refine LeO.ite ?_ ?_)
      | (with_reducible refine LeO.bind ?_ (fun _ => ?_))
      | exact ih0 _ _ _ _ _
      | exact ih1 _ _ _ _ _ _ _ _
      | exact ipfix_put.mono _ _ _
      | exact LeO.none _
      | refine LeO.ite ?_ ?_
      | refine LeO.bind ?_ (fun _ => ?_)
    · intro y0 y1 y2 y3 y4 y5 y6 y7
      unfold ipfix_Set_body.l1
      repeat' first
      | (with_reducible exact ih0 _ _ _ _ _)
      | (with_reducible exact ih1 _ _ _ _ _ _ _ _)
      | (with_reducible exact ipfix_put.mono _ _ _)
      | (with_reducible exact LeO.refl _)
      | (with_reducible exact LeO.none _)
      | (with_reducible refine LeO.ite ?_ ?_)
      | (with_reducible refine LeO.bind ?_ (fun _ => ?_))
      | exact ih0 _ _ _ _ _
      | exact ih1 _ _ _ _ _ _ _ _
      | exact ipfix_put.mono _ _ _
      | exact LeO.none _
      | refine LeO.ite ?_ ?_
      | refine LeO.bind ?_ (fun _ => ?_)
theorem ipfix_Set_body.mono : ∀ a0 a1 a2 k, LeO (ipfix_Set_body.f k a0 a1 a2) (ipfix_Set_body.f (k + 1) a0 a1 a2) := by
  intro a0 a1 a2 k
  obtain ⟨ih0, ih1⟩ := ipfix_Set_body.mono_l k
  unfold ipfix_Set_body.f
  repeat' first
      | (with_reducible exact ih0 _ _ _ _ _)
      | (with_reducible exact ih1 _ _ _ _ _ _ _ _)
      | (with_reducible exact ipfix_put.mono _ _ _)
      | (with_reducible exact LeO.refl _)
      | (with_reducible exact LeO.none _)
      | (with_reducible refine LeO.ite ?_ ?_)
      | (with_reducible refine LeO.bind ?_ (fun _ => ?_))
      | exact ih0 _ _ _ _ _
      | exact ih1 _ _ _ _ _ _ _ _
      | exact ipfix_put.mono _ _ _
      | exact LeO.none _
      | refine LeO.ite ?_ ?_
      | refine LeO.bind ?_ (fun _ => ?_)
def ipfix_Set_body.T6 : Bool × List (List Nat × List Nat) := (true, [([], []), ([0], [0]), ([1], [1]), ([], []), ([3], [3]), ([4], [4]), ([5, 2], [5]), ([2, 6], [2, 6]), ([7, 6], [7])])
def ipfix_Set_body.B6 : List Nat := [0, 1, 3, 0, 8, 24, 63, 127, 255]
theorem ipfix_Set_body.tab6 : rtab .any (opsOf Try.f28 6) = ipfix_Set_body.T6 := by kernel_rfl
theorem ipfix_Set_body.bits6 : waitsOk ipfix_Set_body.T6.2 ipfix_Set_body.B6 = true := by kernel_rfl
def ipfix_Set_body.T11 : Bool × List (List Nat × List Nat) := (true, [([], []), ([0], [0]), ([1], [1]), ([2], [2]), ([], []), ([4], [4]), ([5, 3], [5]), ([3, 6], [3, 6]), ([], []), ([8], [8]), ([9, 6], [9]), ([7, 10], [7, 10]), ([11, 10], [11])])
def ipfix_Set_body.B11 : List Nat := [0, 1, 3, 7, 0, 16, 63, 127, 0, 256, 895, 2047, 4095]
theorem ipfix_Set_body.tab11 : rtab .any (opsOf Try.f28 11) = ipfix_Set_body.T11 := by kernel_rfl
theorem ipfix_Set_body.bits11 : waitsOk ipfix_Set_body.T11.2 ipfix_Set_body.B11 = true := by kernel_rfl
def ipfix_Set_body.T12 : Bool × List (List Nat × List Nat) := (true, [([], []), ([0], [0]), ([1], [1]), ([], []), ([3], [3]), ([4, 2], [4]), ([2, 5], [2, 5]), ([6, 5], [6])])
def ipfix_Set_body.B12 : List Nat := [0, 1, 3, 0, 8, 31, 63, 127]
theorem ipfix_Set_body.tab12 : rtab .any (opsOf Try.f28 12) = ipfix_Set_body.T12 := by kernel_rfl
theorem ipfix_Set_body.bits12 : waitsOk ipfix_Set_body.T12.2 ipfix_Set_body.B12 = true := by kernel_rfl
set_option maxHeartbeats 8000000 in
set_option maxRecDepth 100000 in
theorem ipfix_Set_body.calls (k : Nat) (a0_0 : Int) (A0_1 : Option Addr) (c0_1 : Nat) (l0_1 : List (S37)) (a0_2 : ByteArray) (r : ByteArray) (w : World) (hr0_1 : Kd.C k37 w A0_1 l0_1.length l0_1) (hc0_1 : l0_1.length ≤ c0_1) (h : ipfix_Set_body.f k a0_0 l0_1 a0_2 = some r) :
    Calls Try.prog 28 #[.agg #[.int .i64 a0_0, .slice A0_1 l0_1.length c0_1, .string a0_2]] w fun e w' => e = .returned (.string r) ∧ Below w.heap.size w w' := by
  have hu29 := Try.underlying29
  have hu37 := Try.underlying37
  have hu82 := Try.underlying82
  have HR0_1 := Aside0.mk hr0_1
  have HC0_1 := Aside0.mk hc0_1
  clear hr0_1 hc0_1
  have HB := Aside0.mk (Below.refl w.heap.size w)
  have H : ((abi_NoEscape.f (⟨#[]⟩ : ByteArray)).bind fun bt134 => ((strings_Builder_WriteString.f bt134.1 bt134.2 a0_2).bind fun bt137 => (ipfix_Set_body.l0 k l0_1 (l0_1.length : Int) 0 bt137.2.2.1 bt137.2.2.2))) = some r := h
  clear h
  replace H := Option.bind_eq_some_iff.mp H
  obtain ⟨⟨t134, t135⟩, A20, H⟩ := H
  replace H : ((strings_Builder_WriteString.f t134 t135 a0_2).bind fun bt137 => (ipfix_Set_body.l0 k l0_1 (l0_1.length : Int) 0 bt137.2.2.1 bt137.2.2.2)) = some r := H
  have A2 := Aside0.mk A20
  clear A20
  replace H := Option.bind_eq_some_iff.mp H
  obtain ⟨⟨t137, t138, t139, t140⟩, A30, H⟩ := H
  replace H : (ipfix_Set_body.l0 k l0_1 (l0_1.length : Int) 0 t139 t140) = some r := H
  have A3 := Aside0.mk A30
  clear A30
  have H' := Aside0.mk H
  clear H
  go_enter Try.func28, Try.ntmps28
  go_wp2_with (first | ((with_reducible refine gate_dst (N := 1) rfl ?_); refine box_event ?hg (N := 1) ?hd (cs := #[.int .i64 a0_0, .slice A0_1 l0_1.length c0_1, .string a0_2]) (t := 29) ?hr ?_; (case hd => rfl); (case hg => rfl); (case hr => first | (go_simp; done) | (go_simp; rfl)); intro gb133 hg w4 hbox hb; have n0_ := Aside0.mk (below_step (by repeat (first | (with_reducible first | exact HB.out | apply below_alloc | apply pw_below_drewN | apply below_drew1) | exact HB.out)) hb); have n1_ := Aside0.mk (hbox); have n2_ := Aside0.mk ((by rw [hg]; exact (below_size (by repeat (first | (with_reducible first | exact HB.out | apply below_alloc | apply pw_below_drewN | apply below_drew1) | exact HB.out))) : w.heap.size ≤ gb133)); have n3_ := Aside0.mk ((by rw [hg]; exact (below_size (by repeat (first | (with_reducible first | exact HB.out | apply below_alloc | apply pw_below_drewN | apply below_drew1) | exact HB.out))) : w.heap.size ≤ gb133)); clear HB; have HB := n0_; have BK133 := n1_; have GW133 := n2_; have GE133 := n3_; clear n0_ n1_ n2_ n3_; clear hb hbox hg) | ((with_reducible refine gate_dst (N := 3) rfl ?_); refine box_event ?hg (N := 3) ?hd (cs := #[.pointer none, .slice none 0 0]) (t := 72) ?hr ?_; (case hd => rfl); (case hg => rfl); (case hr => first | (go_simp; done) | (go_simp; rfl)); intro g136 hg_ w5 hbox_ hb2; have hb := below_step (by repeat (first | (with_reducible first | exact HB.out | apply below_alloc | apply pw_below_drewN | apply below_drew1 | refine below_set ?_ GE133.out) | exact HB.out)) hb2; have hge_ : w.heap.size ≤ g136 := (by rw [hg_]; exact (below_size (by repeat (first | (with_reducible first | exact HB.out | apply below_alloc | apply pw_below_drewN | apply below_drew1 | refine below_set ?_ GE133.out) | exact HB.out)))); have hi := Built.IsBld.new (w0 := w) (W := w5) (g := g136) (f0 := t134) (f1 := t135) hbox_ hge_ (by have h_ := A2.out; simp only [abi_NoEscape.f, Option.some.injEq, Prod.mk.injEq] at h_; exact h_.1.symm); clear hge_ hbox_ hg_; have n0_ := Aside0.mk (blk_below (g := gb133) (o := .cells #[.int .i64 a0_0, .slice A0_1 l0_1.length c0_1, .string a0_2] 29 (0, 0)) (by (with_reducible repeat (first | refine blk_drewN ?_ _ | refine blk_drew ?_ | refine blk_alloc ?_ _)); exact BK133.out) hb2); have n1_ := Aside0.mk (hb); have n2_ := Aside0.mk (hi); have n3_ := Aside0.mk (Built.IsBld.ne_blk hi (blk_below (g := gb133) (o := .cells #[.int .i64 a0_0, .slice A0_1 l0_1.length c0_1, .string a0_2] 29 (0, 0)) (by (with_reducible repeat (first | refine blk_drewN ?_ _ | refine blk_drew ?_ | refine blk_alloc ?_ _)); exact BK133.out) hb2) (by decide)); have n4_ := Aside0.mk (Ne.symm (Built.IsBld.ne_blk hi (blk_below (g := gb133) (o := .cells #[.int .i64 a0_0, .slice A0_1 l0_1.length c0_1, .string a0_2] 29 (0, 0)) (by (with_reducible repeat (first | refine blk_drewN ?_ _ | refine blk_drew ?_ | refine blk_alloc ?_ _)); exact BK133.out) hb2) (by decide))); clear BK133; clear HB; have BK133 := n0_; have HB := n1_; have HI136 := n2_; have NB136_133 := n3_; have NB133_136 := n4_; clear n0_ n1_ n2_ n3_ n4_; (try clear hb); (try clear hb2); (try clear hk); (try clear hi); have hnb6 := NB133_136.out; have hnc6 := NB136_133.out; have hcz7_0 : w5.cell? ⟨gb133, 0, none⟩ = some (.int .i64 a0_0) := (blk_cell BK133.out 0).trans rfl; have hcz7_1 : w5.cell? ⟨gb133, 1, none⟩ = some (.slice A0_1 l0_1.length c0_1) := (blk_cell BK133.out 1).trans rfl; have hcz7_2 : w5.cell? ⟨gb133, 2, none⟩ = some (.string a0_2) := (blk_cell BK133.out 2).trans rfl; have hfz7_0 := blk_frozen BK133.out 0; have hfz7_1 := blk_frozen BK133.out 1; have hfz7_2 := blk_frozen BK133.out 2) | ((with_reducible refine gate_callee (f := 30) rfl ?_); refine goesL_ (some 10) rfl rfl Try.func30 (by kernel_rfl) rfl #[.pointer (some ⟨g136, 0, none⟩), .string a0_2] rfl (by (try simp only [List.map_toArray, List.map_cons, List.map_nil]); first | done | rfl | (simp only [List.length_drop, List.length_take]; rfl)) ?_; (with_reducible refine (strings_Builder_WriteString.calls g136 t134 t135 a0_2 t137 t138 t139 t140 w _ ?side1 ?side2 A3.out).mono ?_); (case side1 => repeat (first | (with_reducible first | exact HI136.out | apply Built.IsBld.alloc | apply Built.IsBld.drewN | apply Built.IsBld.drew | refine Built.IsBld.far ?_ NB136_133.out _ (by (with_reducible repeat (first | apply Built.NonB.set | apply Built.NonB.drewN | apply Built.NonB.drew)); exact Built.NonB.of BK133.out (by simp))) | exact HI136.out)); (case side2 => repeat (first | (with_reducible first | exact HB.out | apply below_alloc | apply pw_below_drewN | apply below_drew1 | refine below_set ?_ (Built.IsBld.ge HI136.out) | refine below_set ?_ GE133.out) | exact HB.out)); rintro e w8 ⟨rfl, hi, hb, hk⟩; refine ⟨_, rfl, ?_⟩; have n0_ := Aside0.mk (Built.KeepT.blk hk (g' := gb133) (o := .cells #[.int .i64 a0_0, .slice A0_1 l0_1.length c0_1, .string a0_2] 29 (0, 0)) (by (with_reducible repeat (first | refine blk_drewN ?_ _ | refine blk_drew ?_ | refine blk_alloc ?_ _)); exact BK133.out) NB133_136.out (by simp)); have n1_ := Aside0.mk (hb); have n2_ := Aside0.mk (hi); clear BK133; clear HB; clear HI136; have BK133 := n0_; have HB := n1_; have HI136 := n2_; clear n0_ n1_ n2_; (try clear hb); (try clear hb2); (try clear hk); (try clear hi); (try simp only [errW_none, errW_some]); have hcz9_0 : w8.cell? ⟨gb133, 0, none⟩ = some (.int .i64 a0_0) := (blk_cell BK133.out 0).trans rfl; have hcz9_1 : w8.cell? ⟨gb133, 1, none⟩ = some (.slice A0_1 l0_1.length c0_1) := (blk_cell BK133.out 1).trans rfl; have hcz9_2 : w8.cell? ⟨gb133, 2, none⟩ = some (.string a0_2) := (blk_cell BK133.out 2).trans rfl; have hfz9_0 := blk_frozen BK133.out 0; have hfz9_1 := blk_frozen BK133.out 1; have hfz9_2 := blk_frozen BK133.out 2))
  go_loopg [14] k (fun kq v14 w' => ∃ (x14_1 : Int) (x137000_1 : ByteArray) (x137001_1 : Bool), v14 = .int .i64 x14_1 ∧ Aside0 (ipfix_Set_body.l0 kq l0_1 (l0_1.length : Int) x14_1 x137000_1 x137001_1 = some r) ∧ Aside0 (kq ≤ k) ∧ Aside0 (w'.heap[gb133]? = some (.cells #[.int .i64 a0_0, (.slice A0_1 l0_1.length c0_1), .string a0_2] 29 (0, 0))) ∧ Aside0 (Built.IsBld w w' g136 x137000_1 x137001_1) ∧ Aside0 (Below w.heap.size w w'))
  case atStart => exact ⟨(0), (t139), (t140), (by first | rfl | (simp; done) | (simp [*]; done)), H', ⟨Nat.le_refl _⟩, ⟨by (with_reducible repeat (first | refine blk_drewN ?_ _ | refine blk_drew ?_ | refine blk_alloc ?_ _)); exact BK133.out⟩, ⟨by repeat (first | (with_reducible first | exact HI136.out | apply Built.IsBld.alloc | apply Built.IsBld.drewN | apply Built.IsBld.drew | refine Built.IsBld.far ?_ NB136_133.out _ (by (with_reducible repeat (first | apply Built.NonB.set | apply Built.NonB.drewN | apply Built.NonB.drew)); exact Built.NonB.of BK133.out (by simp))) | exact HI136.out)⟩, ⟨by repeat (first | (with_reducible first | exact HB.out | apply below_alloc | apply pw_below_drewN | apply below_drew1 | refine below_set ?_ (Built.IsBld.ge HI136.out) | refine below_set ?_ GE133.out) | exact HB.out)⟩⟩
  case round =>
    clear H'
    try clear c2
    try clear p2
    try clear c3
    try clear c5
    try clear c6
    try clear hcz7_0
    try clear hcz7_1
    try clear hcz7_2
    try clear hcz9_0
    try clear hcz9_1
    try clear hcz9_2
    try clear hfz7_0
    try clear hfz7_1
    try clear hfz7_2
    try clear hfz9_0
    try clear hfz9_1
    try clear hfz9_2
    obtain ⟨x14_1, x137000_1, x137001_1, rfl, HA, HK1, BK133, HI136, HB⟩ := hrel
    cases gk with
    | zero => exact absurd HA.out (by simp [ipfix_Set_body.l0])
    | succ k1 =>
      have H := HA.out
      clear HA
      simp only [ipfix_Set_body.l0] at H
      by_cases c10 : x14_1 < (l0_1.length : Int)
      · rw [if_pos c10] at H
        have c10b0 : decide (x14_1 < (l0_1.length : Int)) = true := decide_eq_true c10
        clear c10
        by_cases c11 : 0 ≤ x14_1
        · rw [if_pos c11] at H
          have c11b0 : decide (0 ≤ x14_1) = true := decide_eq_true c11
          clear c11
          by_cases c12 : x14_1 < (l0_1.length : Int)
          · rw [if_pos c12] at H
            have c12b0 : decide (x14_1 < (l0_1.length : Int)) = true := decide_eq_true c12
            clear c12
            replace H := Option.bind_eq_some_iff.mp H
            obtain ⟨t146, A130, H⟩ := H
            replace H : ((ipfix_put.f k1 (((rd_T37 l0_1 x14_1).f1).length : Int) 2).bind fun t147 => (if t146.size + t147.size ≤ 9223372036854775807 then ((strings_Builder_WriteString.f x137000_1 x137001_1 (t146 ++ t147)).bind fun bt148 => (ipfix_Set_body.l1 k1 l0_1 (l0_1.length : Int) x14_1 ((rd_T37 l0_1 x14_1).f1) (((rd_T37 l0_1 x14_1).f1).length : Int) 0 bt148.2.2.1 bt148.2.2.2)) else (none))) = some r := H
            have A13 := Aside0.mk A130
            clear A130
            replace H := Option.bind_eq_some_iff.mp H
            obtain ⟨t147, A140, H⟩ := H
            replace H : (if t146.size + t147.size ≤ 9223372036854775807 then ((strings_Builder_WriteString.f x137000_1 x137001_1 (t146 ++ t147)).bind fun bt148 => (ipfix_Set_body.l1 k1 l0_1 (l0_1.length : Int) x14_1 ((rd_T37 l0_1 x14_1).f1) (((rd_T37 l0_1 x14_1).f1).length : Int) 0 bt148.2.2.1 bt148.2.2.2)) else (none)) = some r := H
            have A14 := Aside0.mk A140
            clear A140
            by_cases c15 : t146.size + t147.size ≤ 9223372036854775807
            · rw [if_pos c15] at H
              have c15b0 := eq_true c15
              have c15b1 : decide (t146.size + t147.size ≤ 9223372036854775807) = true := decide_eq_true c15
              try have c15b2 : (9223372036854775807 < t146.size + t147.size) = False := eq_false (Nat.not_lt.2 c15)
              replace H := Option.bind_eq_some_iff.mp H
              obtain ⟨⟨t148, t149, t150, t151⟩, A160, H⟩ := H
              replace H : (ipfix_Set_body.l1 k1 l0_1 (l0_1.length : Int) x14_1 ((rd_T37 l0_1 x14_1).f1) (((rd_T37 l0_1 x14_1).f1).length : Int) 0 t150 t151) = some r := H
              have A16 := Aside0.mk A160
              clear A160
              have H' := Aside0.mk H
              clear H
              have p144 : 0 ≤ (x14_1 : Int) := of_decide_eq_true (by first | (with_reducible assumption) | assumption)
              have q144 : x14_1 < (l0_1.length : Int) := of_decide_eq_true (by first | (with_reducible assumption) | assumption)
              obtain ⟨ad144, A144_1, c144_1, e144, hx144_0, hx144_1, hl144_1, hi144_1⟩ := at_T37 HR0_1.out x14_1 p144 q144
              cases e144
              (try replace hx144_0 := (HB.out.cell (World.block_lt_of_cell? w _ hx144_0)).trans hx144_0)
              (try replace hx144_1 := (HB.out.cell (World.block_lt_of_cell? w _ hx144_1)).trans hx144_1)
              have HR144_1 := Aside0.mk hi144_1
              have HC144_1 := Aside0.mk hl144_1
              clear hi144_1 hl144_1
              replace p144 := eq_true p144
              replace q144 := eq_true q144
              try go_wp2_with (first | ((with_reducible refine gate_dst (N := 5) rfl ?_); refine box_event ?hg (N := 5) ?hd (cs := #[.int .i64 0, .slice none 0 0]) (t := 37) ?hr ?_; (case hd => rfl); (case hg => rfl); (case hr => first | (go_simp; done) | (go_simp; rfl)); intro gb145 hg w17 hbox hb; have n0_ := Aside0.mk (blk_below (g := gb133) (o := .cells #[.int .i64 a0_0, .slice (some ad144) l0_1.length c0_1, .string a0_2] 29 (0, 0)) (by (with_reducible repeat (first | refine blk_drewN ?_ _ | refine blk_drew ?_ | refine blk_alloc ?_ _)); exact BK133.out) hb); have n1_ := Aside0.mk (Built.IsBld.below (by repeat (first | (with_reducible first | exact HI136.out | apply Built.IsBld.alloc | apply Built.IsBld.drewN | apply Built.IsBld.drew | refine Built.IsBld.far ?_ NB136_133.out _ (by (with_reducible repeat (first | apply Built.NonB.set | apply Built.NonB.drewN | apply Built.NonB.drew)); exact Built.NonB.of BK133.out (by simp))) | exact HI136.out)) hb); have n2_ := Aside0.mk (below_step (by repeat (first | (with_reducible first | exact HB.out | apply below_alloc | apply pw_below_drewN | apply below_drew1 | refine below_set ?_ (Built.IsBld.ge HI136.out) | refine below_set ?_ GE133.out) | exact HB.out)) hb); have n3_ := Aside0.mk (hbox); have n4_ := Aside0.mk ((by rw [hg]; exact (below_size (by repeat (first | (with_reducible first | exact HB.out | apply below_alloc | apply pw_below_drewN | apply below_drew1 | refine below_set ?_ (Built.IsBld.ge HI136.out) | refine below_set ?_ GE133.out) | exact HB.out))) : w.heap.size ≤ gb145)); have n5_ := Aside0.mk ((by rw [hg]; exact (below_size (by repeat (first | (with_reducible first | exact HB.out | apply below_alloc | apply pw_below_drewN | apply below_drew1 | refine below_set ?_ (Built.IsBld.ge HI136.out) | refine below_set ?_ GE133.out) | exact HB.out))) : w.heap.size ≤ gb145)); have n6_ := Aside0.mk ((by rw [hg]; exact Nat.ne_of_lt (blk_lt (g := gb133) (o := .cells #[.int .i64 a0_0, .slice (some ad144) l0_1.length c0_1, .string a0_2] 29 (0, 0)) (by (with_reducible repeat (first | refine blk_drewN ?_ _ | refine blk_drew ?_ | refine blk_alloc ?_ _)); exact BK133.out)) : gb133 ≠ gb145)); have n7_ := Aside0.mk ((by rw [hg]; exact Nat.ne_of_gt (blk_lt (g := gb133) (o := .cells #[.int .i64 a0_0, .slice (some ad144) l0_1.length c0_1, .string a0_2] 29 (0, 0)) (by (with_reducible repeat (first | refine blk_drewN ?_ _ | refine blk_drew ?_ | refine blk_alloc ?_ _)); exact BK133.out)) : gb145 ≠ gb133)); have n8_ := Aside0.mk ((by rw [hg]; exact Nat.ne_of_lt (Built.IsBld.lt (show Built.IsBld w _ g136 x137000_1 x137001_1 from by repeat (first | (with_reducible first | exact HI136.out | apply Built.IsBld.alloc | apply Built.IsBld.drewN | apply Built.IsBld.drew | refine Built.IsBld.far ?_ NB136_133.out _ (by (with_reducible repeat (first | apply Built.NonB.set | apply Built.NonB.drewN | apply Built.NonB.drew)); exact Built.NonB.of BK133.out (by simp))) | exact HI136.out))) : g136 ≠ gb145)); have n9_ := Aside0.mk ((by rw [hg]; exact Nat.ne_of_gt (Built.IsBld.lt (show Built.IsBld w _ g136 x137000_1 x137001_1 from by repeat (first | (with_reducible first | exact HI136.out | apply Built.IsBld.alloc | apply Built.IsBld.drewN | apply Built.IsBld.drew | refine Built.IsBld.far ?_ NB136_133.out _ (by (with_reducible repeat (first | apply Built.NonB.set | apply Built.NonB.drewN | apply Built.NonB.drew)); exact Built.NonB.of BK133.out (by simp))) | exact HI136.out))) : gb145 ≠ g136)); clear BK133; clear HI136; clear HB; have BK133 := n0_; have HI136 := n1_; have HB := n2_; have BK145 := n3_; have GW145 := n4_; have GE145 := n5_; have NB133_145 := n6_; have NB145_133 := n7_; have NB136_145 := n8_; have NB145_136 := n9_; clear n0_ n1_ n2_ n3_ n4_ n5_ n6_ n7_ n8_ n9_; clear hb hbox hg; have hnb18 := NB145_133.out; have hnc18 := NB133_145.out; have hnb19 := NB145_136.out; have hnc19 := NB136_145.out; have hcz20_0 : w17.cell? ⟨gb145, 0, none⟩ = some (.int .i64 0) := (blk_cell BK145.out 0).trans rfl; have hcz20_1 : w17.cell? ⟨gb145, 1, none⟩ = some (.slice none 0 0) := (blk_cell BK145.out 1).trans rfl; have hfz20_0 := blk_frozen BK145.out 0; have hfz20_1 := blk_frozen BK145.out 1))
              have n0_ : Aside0 (((w17.setCell ⟨gb145, 0, none⟩ (.int .i64 ((rd_T37 l0_1 x14_1).f0))).setCell ⟨gb145, 1, none⟩ (.slice A144_1 ((rd_T37 l0_1 x14_1).f1).length c144_1)).heap[gb133]? = some (.cells #[.int .i64 a0_0, .slice (some ad144) l0_1.length c0_1, .string a0_2] 29 (0, 0))) := ⟨by (with_reducible repeat (first | refine blk_drewN ?_ _ | refine blk_drew ?_ | refine blk_alloc ?_ _)); refine blk_far ?_ NB133_145.out _; (with_reducible repeat (first | refine blk_drewN ?_ _ | refine blk_drew ?_ | refine blk_alloc ?_ _)); refine blk_far ?_ NB133_145.out _; (with_reducible repeat (first | refine blk_drewN ?_ _ | refine blk_drew ?_ | refine blk_alloc ?_ _)); exact BK133.out⟩
              have n1_ : Aside0 (((w17.setCell ⟨gb145, 0, none⟩ (.int .i64 ((rd_T37 l0_1 x14_1).f0))).setCell ⟨gb145, 1, none⟩ (.slice A144_1 ((rd_T37 l0_1 x14_1).f1).length c144_1)).heap[gb145]? = some (.cells #[.int .i64 ((rd_T37 l0_1 x14_1).f0), .slice A144_1 ((rd_T37 l0_1 x14_1).f1).length c144_1] 37 (0, 0))) := ⟨by (with_reducible repeat (first | refine blk_drewN ?_ _ | refine blk_drew ?_ | refine blk_alloc ?_ _)); refine blk_put (cs := #[.int .i64 ((rd_T37 l0_1 x14_1).f0), .slice none 0 0]) ?_ 1 _ rfl; (with_reducible repeat (first | refine blk_drewN ?_ _ | refine blk_drew ?_ | refine blk_alloc ?_ _)); refine blk_put (cs := #[.int .i64 0, .slice none 0 0]) ?_ 0 _ rfl; (with_reducible repeat (first | refine blk_drewN ?_ _ | refine blk_drew ?_ | refine blk_alloc ?_ _)); exact BK145.out⟩
              have n2_ : Aside0 (Built.IsBld w ((w17.setCell ⟨gb145, 0, none⟩ (.int .i64 ((rd_T37 l0_1 x14_1).f0))).setCell ⟨gb145, 1, none⟩ (.slice A144_1 ((rd_T37 l0_1 x14_1).f1).length c144_1)) g136 x137000_1 x137001_1) := ⟨by repeat (first | (with_reducible first | exact HI136.out | apply Built.IsBld.alloc | apply Built.IsBld.drewN | apply Built.IsBld.drew | refine Built.IsBld.far ?_ NB136_133.out _ (by (with_reducible repeat (first | apply Built.NonB.set | apply Built.NonB.drewN | apply Built.NonB.drew)); exact Built.NonB.of BK133.out (by simp)) | refine Built.IsBld.far ?_ NB136_145.out _ (by (with_reducible repeat (first | apply Built.NonB.set | apply Built.NonB.drewN | apply Built.NonB.drew)); exact Built.NonB.of BK145.out (by simp))) | exact HI136.out)⟩
              have n3_ : Aside0 (Below w.heap.size w ((w17.setCell ⟨gb145, 0, none⟩ (.int .i64 ((rd_T37 l0_1 x14_1).f0))).setCell ⟨gb145, 1, none⟩ (.slice A144_1 ((rd_T37 l0_1 x14_1).f1).length c144_1))) := ⟨by repeat (first | (with_reducible first | exact HB.out | apply below_alloc | apply pw_below_drewN | apply below_drew1 | refine below_set ?_ (Built.IsBld.ge HI136.out) | refine below_set ?_ GE133.out | refine below_set ?_ GE145.out) | exact HB.out)⟩
              (try clear BK133)
              (try clear BK145)
              (try clear HI136)
              (try clear HB)
              generalize ((w17.setCell ⟨gb145, 0, none⟩ (.int .i64 ((rd_T37 l0_1 x14_1).f0))).setCell ⟨gb145, 1, none⟩ (.slice A144_1 ((rd_T37 l0_1 x14_1).f1).length c144_1)) = w21 at n0_ n1_ n2_ n3_ ⊢
              have BK133 := n0_
              have BK145 := n1_
              have HI136 := n2_
              have HB := n3_
              clear n0_ n1_ n2_ n3_
              have n0_ := Aside0.mk (blk_drew BK133.out)
              have n1_ := Aside0.mk (blk_drew BK145.out)
              have n2_ := Aside0.mk (Built.IsBld.drew HI136.out)
              have n3_ := Aside0.mk (below_drew1 HB.out)
              clear BK133
              clear BK145
              clear HI136
              clear HB
              have BK133 := n0_
              have BK145 := n1_
              have HI136 := n2_
              have HB := n3_
              clear n0_ n1_ n2_ n3_
              refine start_ (n := 9) (S := fun w' => w'.cell? ⟨gb145, 0, none⟩ = some (.int .i64 ((rd_T37 l0_1 x14_1).f0)) ∧ w'.cell? ⟨gb145, 1, none⟩ = some (.slice A144_1 ((rd_T37 l0_1 x14_1).f1).length c144_1)) (ds := []) #[false, false, false, false, false, false, false, false, false] (by kernel_rfl) rfl rfl ⟨(blk_cell BK145.out 0).trans rfl, (blk_cell BK145.out 1).trans rfl⟩ (fun hHeld => ?_); refine with_tabW ipfix_Set_body.tab6 ipfix_Set_body.bits6 (fun HT_ HW_ => ?_)
              generalize w21.drew = w22 at BK133 BK145 HI136 HB hHeld ⊢
              refine pure_ (i := 0) (N := some 18) (v := ?_) (a' := ?_) #[true, false, false, false, false, false, false, false, false] rfl rfl (any_of HT_.out (by kernel_rfl)) (fun _ _ _ h => h) (Or.inl ⟨by rfl, ?_⟩) ?_ ?_
              rotate_left
              · intro w'
                go_simp
                with_reducible rfl
              rotate_left
              · simp only [Act.put, List.setIfInBounds_toArray, List.set_cons_zero, List.set_cons_succ, i64_w, i32_w]
                rfl
              refine pure_ (i := 3) (N := some 21) (v := ?_) (a' := ?_) #[true, false, false, true, false, false, false, false, false] rfl rfl (any_of HT_.out (by kernel_rfl)) (fun _ _ _ h => h) (Or.inl ⟨by rfl, ?_⟩) ?_ ?_
              rotate_left
              · intro w'
                go_simp
                with_reducible rfl
              rotate_left
              · simp only [Act.put, List.setIfInBounds_toArray, List.set_cons_zero, List.set_cons_succ, i64_w, i32_w]
                rfl
              refine take_ (i := 1) (N := some 19) (v := ?_) (a' := ?_) #[true, true, false, true, false, false, false, false, false] rfl rfl (take_ofW HT_.out HW_.out (by kernel_rfl)) (fun _ _ _ h => h) (Or.inl ⟨by rfl, ?_⟩) hHeld ?_ ?_
              rotate_left
              · rintro w' ⟨s0, s1⟩
                go_simp
                with_reducible rfl
              rotate_left
              · simp only [Act.put, List.setIfInBounds_toArray, List.set_cons_zero, List.set_cons_succ, i64_w, i32_w]
                rfl
              refine take_ (i := 4) (N := some 22) (v := ?_) (a' := ?_) #[true, true, false, true, true, false, false, false, false] rfl rfl (take_ofW HT_.out HW_.out (by kernel_rfl)) (fun _ _ _ h => h) (Or.inl ⟨by rfl, ?_⟩) hHeld ?_ ?_
              rotate_left
              · rintro w' ⟨s0, s1⟩
                go_simp
                with_reducible rfl
              rotate_left
              · simp only [Act.put, List.setIfInBounds_toArray, List.set_cons_zero, List.set_cons_succ, i64_w, i32_w]
                rfl
              refine pure_ (i := 5) (N := some 23) (v := ?_) (a' := ?_) #[true, true, false, true, true, true, false, false, false] rfl rfl (any_of HT_.out (by kernel_rfl)) (fun _ _ _ h => h) (Or.inl ⟨by rfl, ?_⟩) ?_ ?_
              rotate_left
              · intro w'
                go_simp
                with_reducible rfl
              rotate_left
              · simp only [Act.put, List.setIfInBounds_toArray, List.set_cons_zero, List.set_cons_succ, i64_w, i32_w]
                rfl
              refine one_ (i := 2) (N := some 20) #[true, true, true, true, true, true, false, false, false] rfl rfl (one_of HT_.out (by kernel_rfl)) (by decide) (fun K hK => ?_)
              refine goes_ Try.func31 (by kernel_rfl) rfl #[.int .i64 ((rd_T37 l0_1 x14_1).f0), .int .i64 2] (by rfl) rfl rfl (by (try simp only [List.map_toArray, List.map_cons, List.map_nil]); first | done | rfl | (simp only [List.length_drop, List.length_take]; rfl)) ?_
              with_reducible refine (ipfix_put.calls k1 ((rd_T37 l0_1 x14_1).f0) 2 t146 _ A13.out).mono ?_
              rintro e w23 ⟨rfl, hb⟩
              refine ⟨_, rfl, ?_⟩
              have n0_ := Aside0.mk (blk_below (g := gb133) (o := .cells #[.int .i64 a0_0, .slice (some ad144) l0_1.length c0_1, .string a0_2] 29 (0, 0)) (by (with_reducible repeat (first | refine blk_drewN ?_ _ | refine blk_drew ?_ | refine blk_alloc ?_ _)); exact BK133.out) hb)
              have n1_ := Aside0.mk (Built.IsBld.below (by repeat (first | (with_reducible first | exact HI136.out | apply Built.IsBld.alloc | apply Built.IsBld.drewN | apply Built.IsBld.drew | refine Built.IsBld.far ?_ NB136_133.out _ (by (with_reducible repeat (first | apply Built.NonB.set | apply Built.NonB.drewN | apply Built.NonB.drew)); exact Built.NonB.of BK133.out (by simp)) | refine Built.IsBld.far ?_ NB136_145.out _ (by (with_reducible repeat (first | apply Built.NonB.set | apply Built.NonB.drewN | apply Built.NonB.drew)); exact Built.NonB.of BK145.out (by simp))) | exact HI136.out)) hb)
              have n2_ := Aside0.mk (blk_below (g := gb145) (o := .cells #[.int .i64 ((rd_T37 l0_1 x14_1).f0), .slice A144_1 ((rd_T37 l0_1 x14_1).f1).length c144_1] 37 (0, 0)) (by (with_reducible repeat (first | refine blk_drewN ?_ _ | refine blk_drew ?_ | refine blk_alloc ?_ _)); exact BK145.out) hb)
              have n3_ := Aside0.mk (below_step (by repeat (first | (with_reducible first | exact HB.out | apply below_alloc | apply pw_below_drewN | apply below_drew1 | refine below_set ?_ (Built.IsBld.ge HI136.out) | refine below_set ?_ GE133.out | refine below_set ?_ GE145.out) | exact HB.out)) hb)
              clear BK133
              clear HI136
              clear BK145
              clear HB
              have BK133 := n0_
              have HI136 := n1_
              have BK145 := n2_
              have HB := n3_
              clear n0_ n1_ n2_ n3_
              (try clear hb)
              (try clear hb2)
              (try clear hk)
              (try clear hi)
              refine hK.out _ _ ⟨(blk_cell BK145.out 0).trans rfl, (blk_cell BK145.out 1).trans rfl⟩ (fun hHeld => ?_)
              clear hK K
              refine norm_ (a' := ?_) ?_ ?_
              rotate_left
              · show Act.put _ (some 20) _ = _
                simp only [Act.put, List.setIfInBounds_toArray, List.set_cons_zero, List.set_cons_succ, i64_w, i32_w]
                rfl
              refine one_ (i := 6) (N := some 24) #[true, true, true, true, true, true, true, false, false] rfl rfl (one_of HT_.out (by kernel_rfl)) (by decide) (fun K hK => ?_)
              refine goes_ Try.func31 (by kernel_rfl) rfl #[.int .i64 (((rd_T37 l0_1 x14_1).f1).length : Int), .int .i64 2] (by rfl) rfl rfl (by (try simp only [List.map_toArray, List.map_cons, List.map_nil]); first | done | rfl | (simp only [List.length_drop, List.length_take]; rfl)) ?_
              with_reducible refine (ipfix_put.calls k1 (((rd_T37 l0_1 x14_1).f1).length : Int) 2 t147 _ A14.out).mono ?_
              rintro e w24 ⟨rfl, hb⟩
              refine ⟨_, rfl, ?_⟩
              have n0_ := Aside0.mk (blk_below (g := gb133) (o := .cells #[.int .i64 a0_0, .slice (some ad144) l0_1.length c0_1, .string a0_2] 29 (0, 0)) (by (with_reducible repeat (first | refine blk_drewN ?_ _ | refine blk_drew ?_ | refine blk_alloc ?_ _)); exact BK133.out) hb)
              have n1_ := Aside0.mk (Built.IsBld.below (by repeat (first | (with_reducible first | exact HI136.out | apply Built.IsBld.alloc | apply Built.IsBld.drewN | apply Built.IsBld.drew | refine Built.IsBld.far ?_ NB136_133.out _ (by (with_reducible repeat (first | apply Built.NonB.set | apply Built.NonB.drewN | apply Built.NonB.drew)); exact Built.NonB.of BK133.out (by simp)) | refine Built.IsBld.far ?_ NB136_145.out _ (by (with_reducible repeat (first | apply Built.NonB.set | apply Built.NonB.drewN | apply Built.NonB.drew)); exact Built.NonB.of BK145.out (by simp))) | exact HI136.out)) hb)
              have n2_ := Aside0.mk (blk_below (g := gb145) (o := .cells #[.int .i64 ((rd_T37 l0_1 x14_1).f0), .slice A144_1 ((rd_T37 l0_1 x14_1).f1).length c144_1] 37 (0, 0)) (by (with_reducible repeat (first | refine blk_drewN ?_ _ | refine blk_drew ?_ | refine blk_alloc ?_ _)); exact BK145.out) hb)
              have n3_ := Aside0.mk (below_step (by repeat (first | (with_reducible first | exact HB.out | apply below_alloc | apply pw_below_drewN | apply below_drew1 | refine below_set ?_ (Built.IsBld.ge HI136.out) | refine below_set ?_ GE133.out | refine below_set ?_ GE145.out) | exact HB.out)) hb)
              clear BK133
              clear HI136
              clear BK145
              clear HB
              have BK133 := n0_
              have HI136 := n1_
              have BK145 := n2_
              have HB := n3_
              clear n0_ n1_ n2_ n3_
              (try clear hb)
              (try clear hb2)
              (try clear hk)
              (try clear hi)
              refine hK.out _ _ ⟨(blk_cell BK145.out 0).trans rfl, (blk_cell BK145.out 1).trans rfl⟩ (fun hHeld => ?_)
              clear hK K
              refine norm_ (a' := ?_) ?_ ?_
              rotate_left
              · show Act.put _ (some 24) _ = _
                simp only [Act.put, List.setIfInBounds_toArray, List.set_cons_zero, List.set_cons_succ, i64_w, i32_w]
                rfl
              refine pure_ (i := 7) (N := some 25) (v := ?_) (a' := ?_) #[true, true, true, true, true, true, true, true, false] rfl rfl (any_of HT_.out (by kernel_rfl)) (fun _ _ _ h => h) (Or.inl ⟨by rfl, ?_⟩) ?_ ?_
              rotate_left
              · intro w'
                go_simp
                with_reducible rfl
              rotate_left
              · simp only [Act.put, List.setIfInBounds_toArray, List.set_cons_zero, List.set_cons_succ, i64_w, i32_w]
                rfl
              refine one_ (i := 8) (N := some 26) #[true, true, true, true, true, true, true, true, true] rfl rfl (one_of HT_.out (by kernel_rfl)) (by decide) (fun K hK => ?_)
              refine goes_ Try.func30 (by kernel_rfl) rfl #[.pointer (some ⟨g136, 0, none⟩), .string (t146 ++ t147)] (by rfl) rfl rfl (by (try simp only [List.map_toArray, List.map_cons, List.map_nil]); first | done | rfl | (simp only [List.length_drop, List.length_take]; rfl)) ?_
              with_reducible refine (strings_Builder_WriteString.calls g136 x137000_1 x137001_1 (t146 ++ t147) t148 t149 t150 t151 w _ ?side1 ?side2 A16.out).mono ?_
              (case side1 => repeat (first | (with_reducible first | exact HI136.out | apply Built.IsBld.alloc | apply Built.IsBld.drewN | apply Built.IsBld.drew | refine Built.IsBld.far ?_ NB136_133.out _ (by (with_reducible repeat (first | apply Built.NonB.set | apply Built.NonB.drewN | apply Built.NonB.drew)); exact Built.NonB.of BK133.out (by simp)) | refine Built.IsBld.far ?_ NB136_145.out _ (by (with_reducible repeat (first | apply Built.NonB.set | apply Built.NonB.drewN | apply Built.NonB.drew)); exact Built.NonB.of BK145.out (by simp))) | exact HI136.out))
              (case side2 => repeat (first | (with_reducible first | exact HB.out | apply below_alloc | apply pw_below_drewN | apply below_drew1 | refine below_set ?_ (Built.IsBld.ge HI136.out) | refine below_set ?_ GE133.out | refine below_set ?_ GE145.out) | exact HB.out))
              rintro e w25 ⟨rfl, hi, hb, hk⟩
              refine ⟨_, rfl, ?_⟩
              have n0_ := Aside0.mk (Built.KeepT.blk hk (g' := gb133) (o := .cells #[.int .i64 a0_0, .slice (some ad144) l0_1.length c0_1, .string a0_2] 29 (0, 0)) (by (with_reducible repeat (first | refine blk_drewN ?_ _ | refine blk_drew ?_ | refine blk_alloc ?_ _)); exact BK133.out) NB133_136.out (by simp))
              have n1_ := Aside0.mk (Built.KeepT.blk hk (g' := gb145) (o := .cells #[.int .i64 ((rd_T37 l0_1 x14_1).f0), .slice A144_1 ((rd_T37 l0_1 x14_1).f1).length c144_1] 37 (0, 0)) (by (with_reducible repeat (first | refine blk_drewN ?_ _ | refine blk_drew ?_ | refine blk_alloc ?_ _)); exact BK145.out) NB145_136.out (by simp))
              have n2_ := Aside0.mk (hb)
              have n3_ := Aside0.mk (hi)
              clear BK133
              clear BK145
              clear HB
              clear HI136
              have BK133 := n0_
              have BK145 := n1_
              have HB := n2_
              have HI136 := n3_
              clear n0_ n1_ n2_ n3_
              (try clear hb)
              (try clear hb2)
              (try clear hk)
              (try clear hi)
              (try simp only [errW_none, errW_some])
              refine hK.out _ _ ⟨(blk_cell BK145.out 0).trans rfl, (blk_cell BK145.out 1).trans rfl⟩ (fun hHeld => ?_)
              clear hK K
              refine norm_ (a' := ?_) ?_ ?_
              rotate_left
              · show Act.put _ (some 26) _ = _
                simp only [Act.put, List.setIfInBounds_toArray, List.set_cons_zero, List.set_cons_succ, i64_w, i32_w]
                rfl
              refine done_ (done_of HT_.out (by kernel_rfl)) ?_
              have hcz26_0 : w25.cell? ⟨gb145, 0, none⟩ = some (.int .i64 ((rd_T37 l0_1 x14_1).f0)) := (blk_cell BK145.out 0).trans rfl
              have hcz26_1 : w25.cell? ⟨gb145, 1, none⟩ = some (.slice A144_1 ((rd_T37 l0_1 x14_1).f1).length c144_1) := (blk_cell BK145.out 1).trans rfl
              have hfz26_0 := blk_frozen BK145.out 0
              have hfz26_1 := blk_frozen BK145.out 1
              try go_wp2
              go_loopg [30] k1 (fun kq v30 w' => ∃ (x30_2 : Int) (x137000_2 : ByteArray) (x137001_2 : Bool), v30 = .int .i64 x30_2 ∧ Aside0 (ipfix_Set_body.l1 kq l0_1 (l0_1.length : Int) x14_1 ((rd_T37 l0_1 x14_1).f1) (((rd_T37 l0_1 x14_1).f1).length : Int) x30_2 x137000_2 x137001_2 = some r) ∧ Aside0 (kq ≤ k1) ∧ Aside0 (w'.heap[gb133]? = some (.cells #[.int .i64 a0_0, (.slice (some ad144) l0_1.length c0_1), .string a0_2] 29 (0, 0))) ∧ Aside0 (w'.heap[gb145]? = some (.cells #[.int .i64 ((rd_T37 l0_1 x14_1).f0), (.slice A144_1 ((rd_T37 l0_1 x14_1).f1).length c144_1)] 37 (0, 0))) ∧ Aside0 (Built.IsBld w w' g136 x137000_2 x137001_2) ∧ Aside0 (Below w.heap.size w w'))
              case atStart => exact ⟨(0), (t150), (t151), (by first | rfl | (simp; done) | (simp [*]; done)), H', ⟨Nat.le_refl _⟩, ⟨by (with_reducible repeat (first | refine blk_drewN ?_ _ | refine blk_drew ?_ | refine blk_alloc ?_ _)); exact BK133.out⟩, ⟨by (with_reducible repeat (first | refine blk_drewN ?_ _ | refine blk_drew ?_ | refine blk_alloc ?_ _)); exact BK145.out⟩, ⟨by repeat (first | (with_reducible first | exact HI136.out | apply Built.IsBld.alloc | apply Built.IsBld.drewN | apply Built.IsBld.drew | refine Built.IsBld.far ?_ NB136_133.out _ (by (with_reducible repeat (first | apply Built.NonB.set | apply Built.NonB.drewN | apply Built.NonB.drew)); exact Built.NonB.of BK133.out (by simp)) | refine Built.IsBld.far ?_ NB136_145.out _ (by (with_reducible repeat (first | apply Built.NonB.set | apply Built.NonB.drewN | apply Built.NonB.drew)); exact Built.NonB.of BK145.out (by simp))) | exact HI136.out)⟩, ⟨by repeat (first | (with_reducible first | exact HB.out | apply below_alloc | apply pw_below_drewN | apply below_drew1 | refine below_set ?_ (Built.IsBld.ge HI136.out) | refine below_set ?_ GE133.out | refine below_set ?_ GE145.out) | exact HB.out)⟩⟩
              case round =>
                clear H'
                try clear c1
                try clear p1
                try clear q1
                try clear hx1
                try clear c2
                try clear p2
                try clear c3
                try clear c5
                try clear c6
                try clear c10
                try clear c10b0
                try clear c11
                try clear c11b0
                try clear c12
                try clear c12b0
                try clear c14
                try clear p14
                try clear q14
                try clear hx14
                try clear c15
                try clear c15b0
                try clear c15b1
                try clear c15b2
                try clear c18
                try clear c19
                try clear hcz20_0
                try clear hcz20_1
                try clear hcz26_0
                try clear hcz26_1
                try clear hcz7_0
                try clear hcz7_1
                try clear hcz7_2
                try clear hcz9_0
                try clear hcz9_1
                try clear hcz9_2
                try clear hfz20_0
                try clear hfz20_1
                try clear hfz26_0
                try clear hfz26_1
                try clear hfz7_0
                try clear hfz7_1
                try clear hfz7_2
                try clear hfz9_0
                try clear hfz9_1
                try clear hfz9_2
                try clear hx144_0
                try clear hx144_1
                try clear p144
                try clear p2
                try clear q144
                obtain ⟨x30_2, x137000_2, x137001_2, rfl, HA, HK2, BK133, BK145, HI136, HB⟩ := hrel
                cases gk with
                | zero => exact absurd HA.out (by simp [ipfix_Set_body.l1])
                | succ k2 =>
                  have H := HA.out
                  clear HA
                  simp only [ipfix_Set_body.l1] at H
                  by_cases c27 : x30_2 < (((rd_T37 l0_1 x14_1).f1).length : Int)
                  · rw [if_pos c27] at H
                    have c27b0 : decide (x30_2 < (((rd_T37 l0_1 x14_1).f1).length : Int)) = true := decide_eq_true c27
                    clear c27
                    by_cases c28 : 0 ≤ x30_2
                    · rw [if_pos c28] at H
                      have c28b0 : decide (0 ≤ x30_2) = true := decide_eq_true c28
                      clear c28
                      by_cases c29 : x30_2 < (((rd_T37 l0_1 x14_1).f1).length : Int)
                      · rw [if_pos c29] at H
                        have c29b0 : decide (x30_2 < (((rd_T37 l0_1 x14_1).f1).length : Int)) = true := decide_eq_true c29
                        clear c29
                        by_cases c30 : ((rd_T82 ((rd_T37 l0_1 x14_1).f1) x30_2).f2) = 0
                        · rw [if_pos c30] at H
                          have c30b0 : (((rd_T82 ((rd_T37 l0_1 x14_1).f1) x30_2).f2) == 0) = true := beq_iff_eq.mpr c30
                          have c30b1 : (((rd_T82 ((rd_T37 l0_1 x14_1).f1) x30_2).f2) != 0) = false := bne_eq_false_iff_eq.mpr c30
                          clear c30
                          replace H := Option.bind_eq_some_iff.mp H
                          obtain ⟨t154, A310, H⟩ := H
                          replace H : ((ipfix_put.f k2 ((rd_T82 ((rd_T37 l0_1 x14_1).f1) x30_2).f1) 2).bind fun t155 => (if t154.size + t155.size ≤ 9223372036854775807 then ((strings_Builder_WriteString.f x137000_2 x137001_2 (t154 ++ t155)).bind fun bt156 => (ipfix_Set_body.l1 k2 l0_1 (l0_1.length : Int) x14_1 ((rd_T37 l0_1 x14_1).f1) (((rd_T37 l0_1 x14_1).f1).length : Int) (wrap64 (x30_2 + 1)) bt156.2.2.1 bt156.2.2.2)) else (none))) = some r := H
                          have A31 := Aside0.mk A310
                          clear A310
                          replace H := Option.bind_eq_some_iff.mp H
                          obtain ⟨t155, A320, H⟩ := H
                          replace H : (if t154.size + t155.size ≤ 9223372036854775807 then ((strings_Builder_WriteString.f x137000_2 x137001_2 (t154 ++ t155)).bind fun bt156 => (ipfix_Set_body.l1 k2 l0_1 (l0_1.length : Int) x14_1 ((rd_T37 l0_1 x14_1).f1) (((rd_T37 l0_1 x14_1).f1).length : Int) (wrap64 (x30_2 + 1)) bt156.2.2.1 bt156.2.2.2)) else (none)) = some r := H
                          have A32 := Aside0.mk A320
                          clear A320
                          by_cases c33 : t154.size + t155.size ≤ 9223372036854775807
                          · rw [if_pos c33] at H
                            have c33b0 := eq_true c33
                            have c33b1 : decide (t154.size + t155.size ≤ 9223372036854775807) = true := decide_eq_true c33
                            try have c33b2 : (9223372036854775807 < t154.size + t155.size) = False := eq_false (Nat.not_lt.2 c33)
                            replace H := Option.bind_eq_some_iff.mp H
                            obtain ⟨⟨t156, t157, t158, t159⟩, A340, H⟩ := H
                            replace H : (ipfix_Set_body.l1 k2 l0_1 (l0_1.length : Int) x14_1 ((rd_T37 l0_1 x14_1).f1) (((rd_T37 l0_1 x14_1).f1).length : Int) (wrap64 (x30_2 + 1)) t158 t159) = some r := H
                            have A34 := Aside0.mk A340
                            clear A340
                            have H' := Aside0.mk H
                            clear H
                            have p152 : 0 ≤ (x30_2 : Int) := of_decide_eq_true (by first | (with_reducible assumption) | assumption)
                            have q152 : x30_2 < (((rd_T37 l0_1 x14_1).f1).length : Int) := of_decide_eq_true (by first | (with_reducible assumption) | assumption)
                            obtain ⟨ad152, e152, hx152_0, hx152_1, hx152_2⟩ := at_T82 HR144_1.out x30_2 p152 q152
                            cases e152
                            (try replace hx152_0 := (HB.out.cell (World.block_lt_of_cell? w _ hx152_0)).trans hx152_0)
                            (try replace hx152_1 := (HB.out.cell (World.block_lt_of_cell? w _ hx152_1)).trans hx152_1)
                            (try replace hx152_2 := (HB.out.cell (World.block_lt_of_cell? w _ hx152_2)).trans hx152_2)
                            replace p152 := eq_true p152
                            replace q152 := eq_true q152
                            try go_wp2_with (first | ((with_reducible refine gate_dst (N := 7) rfl ?_); refine box_event ?hg (N := 7) ?hd (cs := #[.int .i64 0, .int .i64 0, .int .i64 0]) (t := 82) ?hr ?_; (case hd => rfl); (case hg => rfl); (case hr => first | (go_simp; done) | (go_simp; rfl)); intro gb153 hg w35 hbox hb; have n0_ := Aside0.mk (blk_below (g := gb133) (o := .cells #[.int .i64 a0_0, .slice (some ad144) l0_1.length c0_1, .string a0_2] 29 (0, 0)) (by (with_reducible repeat (first | refine blk_drewN ?_ _ | refine blk_drew ?_ | refine blk_alloc ?_ _)); exact BK133.out) hb); have n1_ := Aside0.mk (blk_below (g := gb145) (o := .cells #[.int .i64 ((rd_T37 l0_1 x14_1).f0), .slice (some ad152) ((rd_T37 l0_1 x14_1).f1).length c144_1] 37 (0, 0)) (by (with_reducible repeat (first | refine blk_drewN ?_ _ | refine blk_drew ?_ | refine blk_alloc ?_ _)); exact BK145.out) hb); have n2_ := Aside0.mk (Built.IsBld.below (by repeat (first | (with_reducible first | exact HI136.out | apply Built.IsBld.alloc | apply Built.IsBld.drewN | apply Built.IsBld.drew | refine Built.IsBld.far ?_ NB136_133.out _ (by (with_reducible repeat (first | apply Built.NonB.set | apply Built.NonB.drewN | apply Built.NonB.drew)); exact Built.NonB.of BK133.out (by simp)) | refine Built.IsBld.far ?_ NB136_145.out _ (by (with_reducible repeat (first | apply Built.NonB.set | apply Built.NonB.drewN | apply Built.NonB.drew)); exact Built.NonB.of BK145.out (by simp))) | exact HI136.out)) hb); have n3_ := Aside0.mk (below_step (by repeat (first | (with_reducible first | exact HB.out | apply below_alloc | apply pw_below_drewN | apply below_drew1 | refine below_set ?_ (Built.IsBld.ge HI136.out) | refine below_set ?_ GE133.out | refine below_set ?_ GE145.out) | exact HB.out)) hb); have n4_ := Aside0.mk (hbox); have n5_ := Aside0.mk ((by rw [hg]; exact (below_size (by repeat (first | (with_reducible first | exact HB.out | apply below_alloc | apply pw_below_drewN | apply below_drew1 | refine below_set ?_ (Built.IsBld.ge HI136.out) | refine below_set ?_ GE133.out | refine below_set ?_ GE145.out) | exact HB.out))) : w.heap.size ≤ gb153)); have n6_ := Aside0.mk ((by rw [hg]; exact (below_size (by repeat (first | (with_reducible first | exact HB.out | apply below_alloc | apply pw_below_drewN | apply below_drew1 | refine below_set ?_ (Built.IsBld.ge HI136.out) | refine below_set ?_ GE133.out | refine below_set ?_ GE145.out) | exact HB.out))) : w.heap.size ≤ gb153)); have n7_ := Aside0.mk ((by rw [hg]; exact Nat.ne_of_lt (blk_lt (g := gb133) (o := .cells #[.int .i64 a0_0, .slice (some ad144) l0_1.length c0_1, .string a0_2] 29 (0, 0)) (by (with_reducible repeat (first | refine blk_drewN ?_ _ | refine blk_drew ?_ | refine blk_alloc ?_ _)); exact BK133.out)) : gb133 ≠ gb153)); have n8_ := Aside0.mk ((by rw [hg]; exact Nat.ne_of_gt (blk_lt (g := gb133) (o := .cells #[.int .i64 a0_0, .slice (some ad144) l0_1.length c0_1, .string a0_2] 29 (0, 0)) (by (with_reducible repeat (first | refine blk_drewN ?_ _ | refine blk_drew ?_ | refine blk_alloc ?_ _)); exact BK133.out)) : gb153 ≠ gb133)); have n9_ := Aside0.mk ((by rw [hg]; exact Nat.ne_of_lt (blk_lt (g := gb145) (o := .cells #[.int .i64 ((rd_T37 l0_1 x14_1).f0), .slice (some ad152) ((rd_T37 l0_1 x14_1).f1).length c144_1] 37 (0, 0)) (by (with_reducible repeat (first | refine blk_drewN ?_ _ | refine blk_drew ?_ | refine blk_alloc ?_ _)); exact BK145.out)) : gb145 ≠ gb153)); have n10_ := Aside0.mk ((by rw [hg]; exact Nat.ne_of_gt (blk_lt (g := gb145) (o := .cells #[.int .i64 ((rd_T37 l0_1 x14_1).f0), .slice (some ad152) ((rd_T37 l0_1 x14_1).f1).length c144_1] 37 (0, 0)) (by (with_reducible repeat (first | refine blk_drewN ?_ _ | refine blk_drew ?_ | refine blk_alloc ?_ _)); exact BK145.out)) : gb153 ≠ gb145)); have n11_ := Aside0.mk ((by rw [hg]; exact Nat.ne_of_lt (Built.IsBld.lt (show Built.IsBld w _ g136 x137000_2 x137001_2 from by repeat (first | (with_reducible first | exact HI136.out | apply Built.IsBld.alloc | apply Built.IsBld.drewN | apply Built.IsBld.drew | refine Built.IsBld.far ?_ NB136_133.out _ (by (with_reducible repeat (first | apply Built.NonB.set | apply Built.NonB.drewN | apply Built.NonB.drew)); exact Built.NonB.of BK133.out (by simp)) | refine Built.IsBld.far ?_ NB136_145.out _ (by (with_reducible repeat (first | apply Built.NonB.set | apply Built.NonB.drewN | apply Built.NonB.drew)); exact Built.NonB.of BK145.out (by simp))) | exact HI136.out))) : g136 ≠ gb153)); have n12_ := Aside0.mk ((by rw [hg]; exact Nat.ne_of_gt (Built.IsBld.lt (show Built.IsBld w _ g136 x137000_2 x137001_2 from by repeat (first | (with_reducible first | exact HI136.out | apply Built.IsBld.alloc | apply Built.IsBld.drewN | apply Built.IsBld.drew | refine Built.IsBld.far ?_ NB136_133.out _ (by (with_reducible repeat (first | apply Built.NonB.set | apply Built.NonB.drewN | apply Built.NonB.drew)); exact Built.NonB.of BK133.out (by simp)) | refine Built.IsBld.far ?_ NB136_145.out _ (by (with_reducible repeat (first | apply Built.NonB.set | apply Built.NonB.drewN | apply Built.NonB.drew)); exact Built.NonB.of BK145.out (by simp))) | exact HI136.out))) : gb153 ≠ g136)); clear BK133; clear BK145; clear HI136; clear HB; have BK133 := n0_; have BK145 := n1_; have HI136 := n2_; have HB := n3_; have BK153 := n4_; have GW153 := n5_; have GE153 := n6_; have NB133_153 := n7_; have NB153_133 := n8_; have NB145_153 := n9_; have NB153_145 := n10_; have NB136_153 := n11_; have NB153_136 := n12_; clear n0_ n1_ n2_ n3_ n4_ n5_ n6_ n7_ n8_ n9_ n10_ n11_ n12_; clear hb hbox hg; have hnb36 := NB153_133.out; have hnc36 := NB133_153.out; have hnb37 := NB153_145.out; have hnc37 := NB145_153.out; have hnb38 := NB153_136.out; have hnc38 := NB136_153.out; have hcz39_0 : w35.cell? ⟨gb153, 0, none⟩ = some (.int .i64 0) := (blk_cell BK153.out 0).trans rfl; have hcz39_1 : w35.cell? ⟨gb153, 1, none⟩ = some (.int .i64 0) := (blk_cell BK153.out 1).trans rfl; have hcz39_2 : w35.cell? ⟨gb153, 2, none⟩ = some (.int .i64 0) := (blk_cell BK153.out 2).trans rfl; have hfz39_0 := blk_frozen BK153.out 0; have hfz39_1 := blk_frozen BK153.out 1; have hfz39_2 := blk_frozen BK153.out 2))
                            have n0_ : Aside0 ((((w35.setCell ⟨gb153, 0, none⟩ (.int .i64 ((rd_T82 ((rd_T37 l0_1 x14_1).f1) x30_2).f0))).setCell ⟨gb153, 1, none⟩ (.int .i64 ((rd_T82 ((rd_T37 l0_1 x14_1).f1) x30_2).f1))).setCell ⟨gb153, 2, none⟩ (.int .i64 ((rd_T82 ((rd_T37 l0_1 x14_1).f1) x30_2).f2))).heap[gb133]? = some (.cells #[.int .i64 a0_0, .slice (some ad144) l0_1.length c0_1, .string a0_2] 29 (0, 0))) := ⟨by (with_reducible repeat (first | refine blk_drewN ?_ _ | refine blk_drew ?_ | refine blk_alloc ?_ _)); refine blk_far ?_ NB133_153.out _; (with_reducible repeat (first | refine blk_drewN ?_ _ | refine blk_drew ?_ | refine blk_alloc ?_ _)); refine blk_far ?_ NB133_153.out _; (with_reducible repeat (first | refine blk_drewN ?_ _ | refine blk_drew ?_ | refine blk_alloc ?_ _)); refine blk_far ?_ NB133_153.out _; (with_reducible repeat (first | refine blk_drewN ?_ _ | refine blk_drew ?_ | refine blk_alloc ?_ _)); exact BK133.out⟩
                            have n1_ : Aside0 ((((w35.setCell ⟨gb153, 0, none⟩ (.int .i64 ((rd_T82 ((rd_T37 l0_1 x14_1).f1) x30_2).f0))).setCell ⟨gb153, 1, none⟩ (.int .i64 ((rd_T82 ((rd_T37 l0_1 x14_1).f1) x30_2).f1))).setCell ⟨gb153, 2, none⟩ (.int .i64 ((rd_T82 ((rd_T37 l0_1 x14_1).f1) x30_2).f2))).heap[gb145]? = some (.cells #[.int .i64 ((rd_T37 l0_1 x14_1).f0), .slice (some ad152) ((rd_T37 l0_1 x14_1).f1).length c144_1] 37 (0, 0))) := ⟨by (with_reducible repeat (first | refine blk_drewN ?_ _ | refine blk_drew ?_ | refine blk_alloc ?_ _)); refine blk_far ?_ NB145_153.out _; (with_reducible repeat (first | refine blk_drewN ?_ _ | refine blk_drew ?_ | refine blk_alloc ?_ _)); refine blk_far ?_ NB145_153.out _; (with_reducible repeat (first | refine blk_drewN ?_ _ | refine blk_drew ?_ | refine blk_alloc ?_ _)); refine blk_far ?_ NB145_153.out _; (with_reducible repeat (first | refine blk_drewN ?_ _ | refine blk_drew ?_ | refine blk_alloc ?_ _)); exact BK145.out⟩
                            have n2_ : Aside0 ((((w35.setCell ⟨gb153, 0, none⟩ (.int .i64 ((rd_T82 ((rd_T37 l0_1 x14_1).f1) x30_2).f0))).setCell ⟨gb153, 1, none⟩ (.int .i64 ((rd_T82 ((rd_T37 l0_1 x14_1).f1) x30_2).f1))).setCell ⟨gb153, 2, none⟩ (.int .i64 ((rd_T82 ((rd_T37 l0_1 x14_1).f1) x30_2).f2))).heap[gb153]? = some (.cells #[.int .i64 ((rd_T82 ((rd_T37 l0_1 x14_1).f1) x30_2).f0), .int .i64 ((rd_T82 ((rd_T37 l0_1 x14_1).f1) x30_2).f1), .int .i64 ((rd_T82 ((rd_T37 l0_1 x14_1).f1) x30_2).f2)] 82 (0, 0))) := ⟨by (with_reducible repeat (first | refine blk_drewN ?_ _ | refine blk_drew ?_ | refine blk_alloc ?_ _)); refine blk_put (cs := #[.int .i64 ((rd_T82 ((rd_T37 l0_1 x14_1).f1) x30_2).f0), .int .i64 ((rd_T82 ((rd_T37 l0_1 x14_1).f1) x30_2).f1), .int .i64 0]) ?_ 2 _ rfl; (with_reducible repeat (first | refine blk_drewN ?_ _ | refine blk_drew ?_ | refine blk_alloc ?_ _)); refine blk_put (cs := #[.int .i64 ((rd_T82 ((rd_T37 l0_1 x14_1).f1) x30_2).f0), .int .i64 0, .int .i64 0]) ?_ 1 _ rfl; (with_reducible repeat (first | refine blk_drewN ?_ _ | refine blk_drew ?_ | refine blk_alloc ?_ _)); refine blk_put (cs := #[.int .i64 0, .int .i64 0, .int .i64 0]) ?_ 0 _ rfl; (with_reducible repeat (first | refine blk_drewN ?_ _ | refine blk_drew ?_ | refine blk_alloc ?_ _)); exact BK153.out⟩
                            have n3_ : Aside0 (Built.IsBld w (((w35.setCell ⟨gb153, 0, none⟩ (.int .i64 ((rd_T82 ((rd_T37 l0_1 x14_1).f1) x30_2).f0))).setCell ⟨gb153, 1, none⟩ (.int .i64 ((rd_T82 ((rd_T37 l0_1 x14_1).f1) x30_2).f1))).setCell ⟨gb153, 2, none⟩ (.int .i64 ((rd_T82 ((rd_T37 l0_1 x14_1).f1) x30_2).f2))) g136 x137000_2 x137001_2) := ⟨by repeat (first | (with_reducible first | exact HI136.out | apply Built.IsBld.alloc | apply Built.IsBld.drewN | apply Built.IsBld.drew | refine Built.IsBld.far ?_ NB136_133.out _ (by (with_reducible repeat (first | apply Built.NonB.set | apply Built.NonB.drewN | apply Built.NonB.drew)); exact Built.NonB.of BK133.out (by simp)) | refine Built.IsBld.far ?_ NB136_145.out _ (by (with_reducible repeat (first | apply Built.NonB.set | apply Built.NonB.drewN | apply Built.NonB.drew)); exact Built.NonB.of BK145.out (by simp)) | refine Built.IsBld.far ?_ NB136_153.out _ (by (with_reducible repeat (first | apply Built.NonB.set | apply Built.NonB.drewN | apply Built.NonB.drew)); exact Built.NonB.of BK153.out (by simp))) | exact HI136.out)⟩
                            have n4_ : Aside0 (Below w.heap.size w (((w35.setCell ⟨gb153, 0, none⟩ (.int .i64 ((rd_T82 ((rd_T37 l0_1 x14_1).f1) x30_2).f0))).setCell ⟨gb153, 1, none⟩ (.int .i64 ((rd_T82 ((rd_T37 l0_1 x14_1).f1) x30_2).f1))).setCell ⟨gb153, 2, none⟩ (.int .i64 ((rd_T82 ((rd_T37 l0_1 x14_1).f1) x30_2).f2)))) := ⟨by repeat (first | (with_reducible first | exact HB.out | apply below_alloc | apply pw_below_drewN | apply below_drew1 | refine below_set ?_ (Built.IsBld.ge HI136.out) | refine below_set ?_ GE133.out | refine below_set ?_ GE145.out | refine below_set ?_ GE153.out) | exact HB.out)⟩
                            (try clear BK133)
                            (try clear BK145)
                            (try clear BK153)
                            (try clear HI136)
                            (try clear HB)
                            generalize (((w35.setCell ⟨gb153, 0, none⟩ (.int .i64 ((rd_T82 ((rd_T37 l0_1 x14_1).f1) x30_2).f0))).setCell ⟨gb153, 1, none⟩ (.int .i64 ((rd_T82 ((rd_T37 l0_1 x14_1).f1) x30_2).f1))).setCell ⟨gb153, 2, none⟩ (.int .i64 ((rd_T82 ((rd_T37 l0_1 x14_1).f1) x30_2).f2))) = w40 at n0_ n1_ n2_ n3_ n4_ ⊢
                            have BK133 := n0_
                            have BK145 := n1_
                            have BK153 := n2_
                            have HI136 := n3_
                            have HB := n4_
                            clear n0_ n1_ n2_ n3_ n4_
                            have n0_ := Aside0.mk (blk_drew BK133.out)
                            have n1_ := Aside0.mk (blk_drew BK145.out)
                            have n2_ := Aside0.mk (blk_drew BK153.out)
                            have n3_ := Aside0.mk (Built.IsBld.drew HI136.out)
                            have n4_ := Aside0.mk (below_drew1 HB.out)
                            clear BK133
                            clear BK145
                            clear BK153
                            clear HI136
                            clear HB
                            have BK133 := n0_
                            have BK145 := n1_
                            have BK153 := n2_
                            have HI136 := n3_
                            have HB := n4_
                            clear n0_ n1_ n2_ n3_ n4_
                            refine start_ (n := 8) (S := fun w' => w'.cell? ⟨gb153, 0, none⟩ = some (.int .i64 ((rd_T82 ((rd_T37 l0_1 x14_1).f1) x30_2).f0)) ∧ w'.cell? ⟨gb153, 1, none⟩ = some (.int .i64 ((rd_T82 ((rd_T37 l0_1 x14_1).f1) x30_2).f1)) ∧ w'.cell? ⟨gb153, 2, none⟩ = some (.int .i64 ((rd_T82 ((rd_T37 l0_1 x14_1).f1) x30_2).f2))) (ds := []) #[false, false, false, false, false, false, false, false] (by kernel_rfl) rfl rfl ⟨(blk_cell BK153.out 0).trans rfl, (blk_cell BK153.out 1).trans rfl, (blk_cell BK153.out 2).trans rfl⟩ (fun hHeld => ?_); refine with_tabW ipfix_Set_body.tab12 ipfix_Set_body.bits12 (fun HT_ HW_ => ?_)
                            generalize w40.drew = w41 at BK133 BK145 BK153 HI136 HB hHeld ⊢
                            refine pure_ (i := 0) (N := some 50) (v := ?_) (a' := ?_) #[true, false, false, false, false, false, false, false] rfl rfl (any_of HT_.out (by kernel_rfl)) (fun _ _ _ h => h) (Or.inl ⟨by rfl, ?_⟩) ?_ ?_
                            rotate_left
                            · intro w'
                              go_simp
                              with_reducible rfl
                            rotate_left
                            · simp only [Act.put, List.setIfInBounds_toArray, List.set_cons_zero, List.set_cons_succ, i64_w, i32_w]
                              rfl
                            refine pure_ (i := 3) (N := some 53) (v := ?_) (a' := ?_) #[true, false, false, true, false, false, false, false] rfl rfl (any_of HT_.out (by kernel_rfl)) (fun _ _ _ h => h) (Or.inl ⟨by rfl, ?_⟩) ?_ ?_
                            rotate_left
                            · intro w'
                              go_simp
                              with_reducible rfl
                            rotate_left
                            · simp only [Act.put, List.setIfInBounds_toArray, List.set_cons_zero, List.set_cons_succ, i64_w, i32_w]
                              rfl
                            refine take_ (i := 1) (N := some 51) (v := ?_) (a' := ?_) #[true, true, false, true, false, false, false, false] rfl rfl (take_ofW HT_.out HW_.out (by kernel_rfl)) (fun _ _ _ h => h) (Or.inl ⟨by rfl, ?_⟩) hHeld ?_ ?_
                            rotate_left
                            · rintro w' ⟨s0, s1, s2⟩
                              go_simp
                              with_reducible rfl
                            rotate_left
                            · simp only [Act.put, List.setIfInBounds_toArray, List.set_cons_zero, List.set_cons_succ, i64_w, i32_w]
                              rfl
                            refine take_ (i := 4) (N := some 54) (v := ?_) (a' := ?_) #[true, true, false, true, true, false, false, false] rfl rfl (take_ofW HT_.out HW_.out (by kernel_rfl)) (fun _ _ _ h => h) (Or.inl ⟨by rfl, ?_⟩) hHeld ?_ ?_
                            rotate_left
                            · rintro w' ⟨s0, s1, s2⟩
                              go_simp
                              with_reducible rfl
                            rotate_left
                            · simp only [Act.put, List.setIfInBounds_toArray, List.set_cons_zero, List.set_cons_succ, i64_w, i32_w]
                              rfl
                            refine one_ (i := 2) (N := some 52) #[true, true, true, true, true, false, false, false] rfl rfl (one_of HT_.out (by kernel_rfl)) (by decide) (fun K hK => ?_)
                            refine goes_ Try.func31 (by kernel_rfl) rfl #[.int .i64 ((rd_T82 ((rd_T37 l0_1 x14_1).f1) x30_2).f0), .int .i64 2] (by rfl) rfl rfl (by (try simp only [List.map_toArray, List.map_cons, List.map_nil]); first | done | rfl | (simp only [List.length_drop, List.length_take]; rfl)) ?_
                            with_reducible refine (ipfix_put.calls k2 ((rd_T82 ((rd_T37 l0_1 x14_1).f1) x30_2).f0) 2 t154 _ A31.out).mono ?_
                            rintro e w42 ⟨rfl, hb⟩
                            refine ⟨_, rfl, ?_⟩
                            have n0_ := Aside0.mk (blk_below (g := gb133) (o := .cells #[.int .i64 a0_0, .slice (some ad144) l0_1.length c0_1, .string a0_2] 29 (0, 0)) (by (with_reducible repeat (first | refine blk_drewN ?_ _ | refine blk_drew ?_ | refine blk_alloc ?_ _)); exact BK133.out) hb)
                            have n1_ := Aside0.mk (blk_below (g := gb145) (o := .cells #[.int .i64 ((rd_T37 l0_1 x14_1).f0), .slice (some ad152) ((rd_T37 l0_1 x14_1).f1).length c144_1] 37 (0, 0)) (by (with_reducible repeat (first | refine blk_drewN ?_ _ | refine blk_drew ?_ | refine blk_alloc ?_ _)); exact BK145.out) hb)
                            have n2_ := Aside0.mk (Built.IsBld.below (by repeat (first | (with_reducible first | exact HI136.out | apply Built.IsBld.alloc | apply Built.IsBld.drewN | apply Built.IsBld.drew | refine Built.IsBld.far ?_ NB136_133.out _ (by (with_reducible repeat (first | apply Built.NonB.set | apply Built.NonB.drewN | apply Built.NonB.drew)); exact Built.NonB.of BK133.out (by simp)) | refine Built.IsBld.far ?_ NB136_145.out _ (by (with_reducible repeat (first | apply Built.NonB.set | apply Built.NonB.drewN | apply Built.NonB.drew)); exact Built.NonB.of BK145.out (by simp)) | refine Built.IsBld.far ?_ NB136_153.out _ (by (with_reducible repeat (first | apply Built.NonB.set | apply Built.NonB.drewN | apply Built.NonB.drew)); exact Built.NonB.of BK153.out (by simp))) | exact HI136.out)) hb)
                            have n3_ := Aside0.mk (blk_below (g := gb153) (o := .cells #[.int .i64 ((rd_T82 ((rd_T37 l0_1 x14_1).f1) x30_2).f0), .int .i64 ((rd_T82 ((rd_T37 l0_1 x14_1).f1) x30_2).f1), .int .i64 ((rd_T82 ((rd_T37 l0_1 x14_1).f1) x30_2).f2)] 82 (0, 0)) (by (with_reducible repeat (first | refine blk_drewN ?_ _ | refine blk_drew ?_ | refine blk_alloc ?_ _)); exact BK153.out) hb)
                            have n4_ := Aside0.mk (below_step (by repeat (first | (with_reducible first | exact HB.out | apply below_alloc | apply pw_below_drewN | apply below_drew1 | refine below_set ?_ (Built.IsBld.ge HI136.out) | refine below_set ?_ GE133.out | refine below_set ?_ GE145.out | refine below_set ?_ GE153.out) | exact HB.out)) hb)
                            clear BK133
                            clear BK145
                            clear HI136
                            clear BK153
                            clear HB
                            have BK133 := n0_
                            have BK145 := n1_
                            have HI136 := n2_
                            have BK153 := n3_
                            have HB := n4_
                            clear n0_ n1_ n2_ n3_ n4_
                            (try clear hb)
                            (try clear hb2)
                            (try clear hk)
                            (try clear hi)
                            refine hK.out _ _ ⟨(blk_cell BK153.out 0).trans rfl, (blk_cell BK153.out 1).trans rfl, (blk_cell BK153.out 2).trans rfl⟩ (fun hHeld => ?_)
                            clear hK K
                            refine norm_ (a' := ?_) ?_ ?_
                            rotate_left
                            · show Act.put _ (some 52) _ = _
                              simp only [Act.put, List.setIfInBounds_toArray, List.set_cons_zero, List.set_cons_succ, i64_w, i32_w]
                              rfl
                            refine one_ (i := 5) (N := some 55) #[true, true, true, true, true, true, false, false] rfl rfl (one_of HT_.out (by kernel_rfl)) (by decide) (fun K hK => ?_)
                            refine goes_ Try.func31 (by kernel_rfl) rfl #[.int .i64 ((rd_T82 ((rd_T37 l0_1 x14_1).f1) x30_2).f1), .int .i64 2] (by rfl) rfl rfl (by (try simp only [List.map_toArray, List.map_cons, List.map_nil]); first | done | rfl | (simp only [List.length_drop, List.length_take]; rfl)) ?_
                            with_reducible refine (ipfix_put.calls k2 ((rd_T82 ((rd_T37 l0_1 x14_1).f1) x30_2).f1) 2 t155 _ A32.out).mono ?_
                            rintro e w43 ⟨rfl, hb⟩
                            refine ⟨_, rfl, ?_⟩
                            have n0_ := Aside0.mk (blk_below (g := gb133) (o := .cells #[.int .i64 a0_0, .slice (some ad144) l0_1.length c0_1, .string a0_2] 29 (0, 0)) (by (with_reducible repeat (first | refine blk_drewN ?_ _ | refine blk_drew ?_ | refine blk_alloc ?_ _)); exact BK133.out) hb)
                            have n1_ := Aside0.mk (blk_below (g := gb145) (o := .cells #[.int .i64 ((rd_T37 l0_1 x14_1).f0), .slice (some ad152) ((rd_T37 l0_1 x14_1).f1).length c144_1] 37 (0, 0)) (by (with_reducible repeat (first | refine blk_drewN ?_ _ | refine blk_drew ?_ | refine blk_alloc ?_ _)); exact BK145.out) hb)
                            have n2_ := Aside0.mk (Built.IsBld.below (by repeat (first | (with_reducible first | exact HI136.out | apply Built.IsBld.alloc | apply Built.IsBld.drewN | apply Built.IsBld.drew | refine Built.IsBld.far ?_ NB136_133.out _ (by (with_reducible repeat (first | apply Built.NonB.set | apply Built.NonB.drewN | apply Built.NonB.drew)); exact Built.NonB.of BK133.out (by simp)) | refine Built.IsBld.far ?_ NB136_145.out _ (by (with_reducible repeat (first | apply Built.NonB.set | apply Built.NonB.drewN | apply Built.NonB.drew)); exact Built.NonB.of BK145.out (by simp)) | refine Built.IsBld.far ?_ NB136_153.out _ (by (with_reducible repeat (first | apply Built.NonB.set | apply Built.NonB.drewN | apply Built.NonB.drew)); exact Built.NonB.of BK153.out (by simp))) | exact HI136.out)) hb)
                            have n3_ := Aside0.mk (blk_below (g := gb153) (o := .cells #[.int .i64 ((rd_T82 ((rd_T37 l0_1 x14_1).f1) x30_2).f0), .int .i64 ((rd_T82 ((rd_T37 l0_1 x14_1).f1) x30_2).f1), .int .i64 ((rd_T82 ((rd_T37 l0_1 x14_1).f1) x30_2).f2)] 82 (0, 0)) (by (with_reducible repeat (first | refine blk_drewN ?_ _ | refine blk_drew ?_ | refine blk_alloc ?_ _)); exact BK153.out) hb)
                            have n4_ := Aside0.mk (below_step (by repeat (first | (with_reducible first | exact HB.out | apply below_alloc | apply pw_below_drewN | apply below_drew1 | refine below_set ?_ (Built.IsBld.ge HI136.out) | refine below_set ?_ GE133.out | refine below_set ?_ GE145.out | refine below_set ?_ GE153.out) | exact HB.out)) hb)
                            clear BK133
                            clear BK145
                            clear HI136
                            clear BK153
                            clear HB
                            have BK133 := n0_
                            have BK145 := n1_
                            have HI136 := n2_
                            have BK153 := n3_
                            have HB := n4_
                            clear n0_ n1_ n2_ n3_ n4_
                            (try clear hb)
                            (try clear hb2)
                            (try clear hk)
                            (try clear hi)
                            refine hK.out _ _ ⟨(blk_cell BK153.out 0).trans rfl, (blk_cell BK153.out 1).trans rfl, (blk_cell BK153.out 2).trans rfl⟩ (fun hHeld => ?_)
                            clear hK K
                            refine norm_ (a' := ?_) ?_ ?_
                            rotate_left
                            · show Act.put _ (some 55) _ = _
                              simp only [Act.put, List.setIfInBounds_toArray, List.set_cons_zero, List.set_cons_succ, i64_w, i32_w]
                              rfl
                            refine pure_ (i := 6) (N := some 56) (v := ?_) (a' := ?_) #[true, true, true, true, true, true, true, false] rfl rfl (any_of HT_.out (by kernel_rfl)) (fun _ _ _ h => h) (Or.inl ⟨by rfl, ?_⟩) ?_ ?_
                            rotate_left
                            · intro w'
                              go_simp
                              with_reducible rfl
                            rotate_left
                            · simp only [Act.put, List.setIfInBounds_toArray, List.set_cons_zero, List.set_cons_succ, i64_w, i32_w]
                              rfl
                            refine one_ (i := 7) (N := some 57) #[true, true, true, true, true, true, true, true] rfl rfl (one_of HT_.out (by kernel_rfl)) (by decide) (fun K hK => ?_)
                            refine goes_ Try.func30 (by kernel_rfl) rfl #[.pointer (some ⟨g136, 0, none⟩), .string (t154 ++ t155)] (by rfl) rfl rfl (by (try simp only [List.map_toArray, List.map_cons, List.map_nil]); first | done | rfl | (simp only [List.length_drop, List.length_take]; rfl)) ?_
                            with_reducible refine (strings_Builder_WriteString.calls g136 x137000_2 x137001_2 (t154 ++ t155) t156 t157 t158 t159 w _ ?side1 ?side2 A34.out).mono ?_
                            (case side1 => repeat (first | (with_reducible first | exact HI136.out | apply Built.IsBld.alloc | apply Built.IsBld.drewN | apply Built.IsBld.drew | refine Built.IsBld.far ?_ NB136_133.out _ (by (with_reducible repeat (first | apply Built.NonB.set | apply Built.NonB.drewN | apply Built.NonB.drew)); exact Built.NonB.of BK133.out (by simp)) | refine Built.IsBld.far ?_ NB136_145.out _ (by (with_reducible repeat (first | apply Built.NonB.set | apply Built.NonB.drewN | apply Built.NonB.drew)); exact Built.NonB.of BK145.out (by simp)) | refine Built.IsBld.far ?_ NB136_153.out _ (by (with_reducible repeat (first | apply Built.NonB.set | apply Built.NonB.drewN | apply Built.NonB.drew)); exact Built.NonB.of BK153.out (by simp))) | exact HI136.out))
                            (case side2 => repeat (first | (with_reducible first | exact HB.out | apply below_alloc | apply pw_below_drewN | apply below_drew1 | refine below_set ?_ (Built.IsBld.ge HI136.out) | refine below_set ?_ GE133.out | refine below_set ?_ GE145.out | refine below_set ?_ GE153.out) | exact HB.out))
                            rintro e w44 ⟨rfl, hi, hb, hk⟩
                            refine ⟨_, rfl, ?_⟩
                            have n0_ := Aside0.mk (Built.KeepT.blk hk (g' := gb133) (o := .cells #[.int .i64 a0_0, .slice (some ad144) l0_1.length c0_1, .string a0_2] 29 (0, 0)) (by (with_reducible repeat (first | refine blk_drewN ?_ _ | refine blk_drew ?_ | refine blk_alloc ?_ _)); exact BK133.out) NB133_136.out (by simp))
                            have n1_ := Aside0.mk (Built.KeepT.blk hk (g' := gb145) (o := .cells #[.int .i64 ((rd_T37 l0_1 x14_1).f0), .slice (some ad152) ((rd_T37 l0_1 x14_1).f1).length c144_1] 37 (0, 0)) (by (with_reducible repeat (first | refine blk_drewN ?_ _ | refine blk_drew ?_ | refine blk_alloc ?_ _)); exact BK145.out) NB145_136.out (by simp))
                            have n2_ := Aside0.mk (Built.KeepT.blk hk (g' := gb153) (o := .cells #[.int .i64 ((rd_T82 ((rd_T37 l0_1 x14_1).f1) x30_2).f0), .int .i64 ((rd_T82 ((rd_T37 l0_1 x14_1).f1) x30_2).f1), .int .i64 ((rd_T82 ((rd_T37 l0_1 x14_1).f1) x30_2).f2)] 82 (0, 0)) (by (with_reducible repeat (first | refine blk_drewN ?_ _ | refine blk_drew ?_ | refine blk_alloc ?_ _)); exact BK153.out) NB153_136.out (by simp))
                            have n3_ := Aside0.mk (hb)
                            have n4_ := Aside0.mk (hi)
                            clear BK133
                            clear BK145
                            clear BK153
                            clear HB
                            clear HI136
                            have BK133 := n0_
                            have BK145 := n1_
                            have BK153 := n2_
                            have HB := n3_
                            have HI136 := n4_
                            clear n0_ n1_ n2_ n3_ n4_
                            (try clear hb)
                            (try clear hb2)
                            (try clear hk)
                            (try clear hi)
                            (try simp only [errW_none, errW_some])
                            refine hK.out _ _ ⟨(blk_cell BK153.out 0).trans rfl, (blk_cell BK153.out 1).trans rfl, (blk_cell BK153.out 2).trans rfl⟩ (fun hHeld => ?_)
                            clear hK K
                            refine norm_ (a' := ?_) ?_ ?_
                            rotate_left
                            · show Act.put _ (some 57) _ = _
                              simp only [Act.put, List.setIfInBounds_toArray, List.set_cons_zero, List.set_cons_succ, i64_w, i32_w]
                              rfl
                            refine done_ (done_of HT_.out (by kernel_rfl)) ?_
                            try go_wp2
                            go_roundg k2
                            case measure => have := HK1.out; have := HK2.out; omega
                            case rel => exact ⟨(wrap64 (x30_2 + 1)), (t158), (t159), (by first | rfl | (simp; done) | (simp [*]; done)), H', ⟨by have := HK1.out; have := HK2.out; omega⟩, ⟨by (with_reducible repeat (first | refine blk_drewN ?_ _ | refine blk_drew ?_ | refine blk_alloc ?_ _)); exact BK133.out⟩, ⟨by (with_reducible repeat (first | refine blk_drewN ?_ _ | refine blk_drew ?_ | refine blk_alloc ?_ _)); exact BK145.out⟩, ⟨by repeat (first | (with_reducible first | exact HI136.out | apply Built.IsBld.alloc | apply Built.IsBld.drewN | apply Built.IsBld.drew | refine Built.IsBld.far ?_ NB136_133.out _ (by (with_reducible repeat (first | apply Built.NonB.set | apply Built.NonB.drewN | apply Built.NonB.drew)); exact Built.NonB.of BK133.out (by simp)) | refine Built.IsBld.far ?_ NB136_145.out _ (by (with_reducible repeat (first | apply Built.NonB.set | apply Built.NonB.drewN | apply Built.NonB.drew)); exact Built.NonB.of BK145.out (by simp)) | refine Built.IsBld.far ?_ NB136_153.out _ (by (with_reducible repeat (first | apply Built.NonB.set | apply Built.NonB.drewN | apply Built.NonB.drew)); exact Built.NonB.of BK153.out (by simp))) | exact HI136.out)⟩, ⟨by repeat (first | (with_reducible first | exact HB.out | apply below_alloc | apply pw_below_drewN | apply below_drew1 | refine below_set ?_ (Built.IsBld.ge HI136.out) | refine below_set ?_ GE133.out | refine below_set ?_ GE145.out | refine below_set ?_ GE153.out) | exact HB.out)⟩⟩
                          · rw [if_neg c33] at H
                            exact absurd H (by simp)
                        · rw [if_neg c30] at H
                          have c30b0 : (((rd_T82 ((rd_T37 l0_1 x14_1).f1) x30_2).f2) == 0) = false := beq_eq_false_iff_ne.mpr c30
                          have c30b1 : (((rd_T82 ((rd_T37 l0_1 x14_1).f1) x30_2).f2) != 0) = true := bne_iff_ne.mpr c30
                          replace H := Option.bind_eq_some_iff.mp H
                          obtain ⟨t160, A450, H⟩ := H
                          replace H : ((ipfix_put.f k2 ((rd_T82 ((rd_T37 l0_1 x14_1).f1) x30_2).f1) 2).bind fun t161 => (if t160.size + t161.size ≤ 9223372036854775807 then ((ipfix_put.f k2 ((rd_T82 ((rd_T37 l0_1 x14_1).f1) x30_2).f2) 4).bind fun t162 => (if (t160 ++ t161).size + t162.size ≤ 9223372036854775807 then ((strings_Builder_WriteString.f x137000_2 x137001_2 ((t160 ++ t161) ++ t162)).bind fun bt163 => (ipfix_Set_body.l1 k2 l0_1 (l0_1.length : Int) x14_1 ((rd_T37 l0_1 x14_1).f1) (((rd_T37 l0_1 x14_1).f1).length : Int) (wrap64 (x30_2 + 1)) bt163.2.2.1 bt163.2.2.2)) else (none))) else (none))) = some r := H
                          have A45 := Aside0.mk A450
                          clear A450
                          replace H := Option.bind_eq_some_iff.mp H
                          obtain ⟨t161, A460, H⟩ := H
                          replace H : (if t160.size + t161.size ≤ 9223372036854775807 then ((ipfix_put.f k2 ((rd_T82 ((rd_T37 l0_1 x14_1).f1) x30_2).f2) 4).bind fun t162 => (if (t160 ++ t161).size + t162.size ≤ 9223372036854775807 then ((strings_Builder_WriteString.f x137000_2 x137001_2 ((t160 ++ t161) ++ t162)).bind fun bt163 => (ipfix_Set_body.l1 k2 l0_1 (l0_1.length : Int) x14_1 ((rd_T37 l0_1 x14_1).f1) (((rd_T37 l0_1 x14_1).f1).length : Int) (wrap64 (x30_2 + 1)) bt163.2.2.1 bt163.2.2.2)) else (none))) else (none)) = some r := H
                          have A46 := Aside0.mk A460
                          clear A460
                          by_cases c47 : t160.size + t161.size ≤ 9223372036854775807
                          · rw [if_pos c47] at H
                            have c47b0 := eq_true c47
                            have c47b1 : decide (t160.size + t161.size ≤ 9223372036854775807) = true := decide_eq_true c47
                            try have c47b2 : (9223372036854775807 < t160.size + t161.size) = False := eq_false (Nat.not_lt.2 c47)
                            replace H := Option.bind_eq_some_iff.mp H
                            obtain ⟨t162, A480, H⟩ := H
                            replace H : (if (t160 ++ t161).size + t162.size ≤ 9223372036854775807 then ((strings_Builder_WriteString.f x137000_2 x137001_2 ((t160 ++ t161) ++ t162)).bind fun bt163 => (ipfix_Set_body.l1 k2 l0_1 (l0_1.length : Int) x14_1 ((rd_T37 l0_1 x14_1).f1) (((rd_T37 l0_1 x14_1).f1).length : Int) (wrap64 (x30_2 + 1)) bt163.2.2.1 bt163.2.2.2)) else (none)) = some r := H
                            have A48 := Aside0.mk A480
                            clear A480
                            by_cases c49 : (t160 ++ t161).size + t162.size ≤ 9223372036854775807
                            · rw [if_pos c49] at H
                              have c49b0 := eq_true c49
                              have c49b1 : decide ((t160 ++ t161).size + t162.size ≤ 9223372036854775807) = true := decide_eq_true c49
                              try have c49b2 : (9223372036854775807 < (t160 ++ t161).size + t162.size) = False := eq_false (Nat.not_lt.2 c49)
                              try (have c49b3 := c49b2; simp only [ByteArray.size_append] at c49b3)
                              replace H := Option.bind_eq_some_iff.mp H
                              obtain ⟨⟨t163, t164, t165, t166⟩, A500, H⟩ := H
                              replace H : (ipfix_Set_body.l1 k2 l0_1 (l0_1.length : Int) x14_1 ((rd_T37 l0_1 x14_1).f1) (((rd_T37 l0_1 x14_1).f1).length : Int) (wrap64 (x30_2 + 1)) t165 t166) = some r := H
                              have A50 := Aside0.mk A500
                              clear A500
                              have H' := Aside0.mk H
                              clear H
                              have p152 : 0 ≤ (x30_2 : Int) := of_decide_eq_true (by first | (with_reducible assumption) | assumption)
                              have q152 : x30_2 < (((rd_T37 l0_1 x14_1).f1).length : Int) := of_decide_eq_true (by first | (with_reducible assumption) | assumption)
                              obtain ⟨ad152, e152, hx152_0, hx152_1, hx152_2⟩ := at_T82 HR144_1.out x30_2 p152 q152
                              cases e152
                              (try replace hx152_0 := (HB.out.cell (World.block_lt_of_cell? w _ hx152_0)).trans hx152_0)
                              (try replace hx152_1 := (HB.out.cell (World.block_lt_of_cell? w _ hx152_1)).trans hx152_1)
                              (try replace hx152_2 := (HB.out.cell (World.block_lt_of_cell? w _ hx152_2)).trans hx152_2)
                              replace p152 := eq_true p152
                              replace q152 := eq_true q152
                              try go_wp2_with (first | ((with_reducible refine gate_dst (N := 7) rfl ?_); refine box_event ?hg (N := 7) ?hd (cs := #[.int .i64 0, .int .i64 0, .int .i64 0]) (t := 82) ?hr ?_; (case hd => rfl); (case hg => rfl); (case hr => first | (go_simp; done) | (go_simp; rfl)); intro gb153 hg w51 hbox hb; have n0_ := Aside0.mk (blk_below (g := gb133) (o := .cells #[.int .i64 a0_0, .slice (some ad144) l0_1.length c0_1, .string a0_2] 29 (0, 0)) (by (with_reducible repeat (first | refine blk_drewN ?_ _ | refine blk_drew ?_ | refine blk_alloc ?_ _)); exact BK133.out) hb); have n1_ := Aside0.mk (blk_below (g := gb145) (o := .cells #[.int .i64 ((rd_T37 l0_1 x14_1).f0), .slice (some ad152) ((rd_T37 l0_1 x14_1).f1).length c144_1] 37 (0, 0)) (by (with_reducible repeat (first | refine blk_drewN ?_ _ | refine blk_drew ?_ | refine blk_alloc ?_ _)); exact BK145.out) hb); have n2_ := Aside0.mk (Built.IsBld.below (by repeat (first | (with_reducible first | exact HI136.out | apply Built.IsBld.alloc | apply Built.IsBld.drewN | apply Built.IsBld.drew | refine Built.IsBld.far ?_ NB136_133.out _ (by (with_reducible repeat (first | apply Built.NonB.set | apply Built.NonB.drewN | apply Built.NonB.drew)); exact Built.NonB.of BK133.out (by simp)) | refine Built.IsBld.far ?_ NB136_145.out _ (by (with_reducible repeat (first | apply Built.NonB.set | apply Built.NonB.drewN | apply Built.NonB.drew)); exact Built.NonB.of BK145.out (by simp))) | exact HI136.out)) hb); have n3_ := Aside0.mk (below_step (by repeat (first | (with_reducible first | exact HB.out | apply below_alloc | apply pw_below_drewN | apply below_drew1 | refine below_set ?_ (Built.IsBld.ge HI136.out) | refine below_set ?_ GE133.out | refine below_set ?_ GE145.out) | exact HB.out)) hb); have n4_ := Aside0.mk (hbox); have n5_ := Aside0.mk ((by rw [hg]; exact (below_size (by repeat (first | (with_reducible first | exact HB.out | apply below_alloc | apply pw_below_drewN | apply below_drew1 | refine below_set ?_ (Built.IsBld.ge HI136.out) | refine below_set ?_ GE133.out | refine below_set ?_ GE145.out) | exact HB.out))) : w.heap.size ≤ gb153)); have n6_ := Aside0.mk ((by rw [hg]; exact (below_size (by repeat (first | (with_reducible first | exact HB.out | apply below_alloc | apply pw_below_drewN | apply below_drew1 | refine below_set ?_ (Built.IsBld.ge HI136.out) | refine below_set ?_ GE133.out | refine below_set ?_ GE145.out) | exact HB.out))) : w.heap.size ≤ gb153)); have n7_ := Aside0.mk ((by rw [hg]; exact Nat.ne_of_lt (blk_lt (g := gb133) (o := .cells #[.int .i64 a0_0, .slice (some ad144) l0_1.length c0_1, .string a0_2] 29 (0, 0)) (by (with_reducible repeat (first | refine blk_drewN ?_ _ | refine blk_drew ?_ | refine blk_alloc ?_ _)); exact BK133.out)) : gb133 ≠ gb153)); have n8_ := Aside0.mk ((by rw [hg]; exact Nat.ne_of_gt (blk_lt (g := gb133) (o := .cells #[.int .i64 a0_0, .slice (some ad144) l0_1.length c0_1, .string a0_2] 29 (0, 0)) (by (with_reducible repeat (first | refine blk_drewN ?_ _ | refine blk_drew ?_ | refine blk_alloc ?_ _)); exact BK133.out)) : gb153 ≠ gb133)); have n9_ := Aside0.mk ((by rw [hg]; exact Nat.ne_of_lt (blk_lt (g := gb145) (o := .cells #[.int .i64 ((rd_T37 l0_1 x14_1).f0), .slice (some ad152) ((rd_T37 l0_1 x14_1).f1).length c144_1] 37 (0, 0)) (by (with_reducible repeat (first | refine blk_drewN ?_ _ | refine blk_drew ?_ | refine blk_alloc ?_ _)); exact BK145.out)) : gb145 ≠ gb153)); have n10_ := Aside0.mk ((by rw [hg]; exact Nat.ne_of_gt (blk_lt (g := gb145) (o := .cells #[.int .i64 ((rd_T37 l0_1 x14_1).f0), .slice (some ad152) ((rd_T37 l0_1 x14_1).f1).length c144_1] 37 (0, 0)) (by (with_reducible repeat (first | refine blk_drewN ?_ _ | refine blk_drew ?_ | refine blk_alloc ?_ _)); exact BK145.out)) : gb153 ≠ gb145)); have n11_ := Aside0.mk ((by rw [hg]; exact Nat.ne_of_lt (Built.IsBld.lt (show Built.IsBld w _ g136 x137000_2 x137001_2 from by repeat (first | (with_reducible first | exact HI136.out | apply Built.IsBld.alloc | apply Built.IsBld.drewN | apply Built.IsBld.drew | refine Built.IsBld.far ?_ NB136_133.out _ (by (with_reducible repeat (first | apply Built.NonB.set | apply Built.NonB.drewN | apply Built.NonB.drew)); exact Built.NonB.of BK133.out (by simp)) | refine Built.IsBld.far ?_ NB136_145.out _ (by (with_reducible repeat (first | apply Built.NonB.set | apply Built.NonB.drewN | apply Built.NonB.drew)); exact Built.NonB.of BK145.out (by simp))) | exact HI136.out))) : g136 ≠ gb153)); have n12_ := Aside0.mk ((by rw [hg]; exact Nat.ne_of_gt (Built.IsBld.lt (show Built.IsBld w _ g136 x137000_2 x137001_2 from by repeat (first | (with_reducible first | exact HI136.out | apply Built.IsBld.alloc | apply Built.IsBld.drewN | apply Built.IsBld.drew | refine Built.IsBld.far ?_ NB136_133.out _ (by (with_reducible repeat (first | apply Built.NonB.set | apply Built.NonB.drewN | apply Built.NonB.drew)); exact Built.NonB.of BK133.out (by simp)) | refine Built.IsBld.far ?_ NB136_145.out _ (by (with_reducible repeat (first | apply Built.NonB.set | apply Built.NonB.drewN | apply Built.NonB.drew)); exact Built.NonB.of BK145.out (by simp))) | exact HI136.out))) : gb153 ≠ g136)); clear BK133; clear BK145; clear HI136; clear HB; have BK133 := n0_; have BK145 := n1_; have HI136 := n2_; have HB := n3_; have BK153 := n4_; have GW153 := n5_; have GE153 := n6_; have NB133_153 := n7_; have NB153_133 := n8_; have NB145_153 := n9_; have NB153_145 := n10_; have NB136_153 := n11_; have NB153_136 := n12_; clear n0_ n1_ n2_ n3_ n4_ n5_ n6_ n7_ n8_ n9_ n10_ n11_ n12_; clear hb hbox hg; have hnb52 := NB153_133.out; have hnc52 := NB133_153.out; have hnb53 := NB153_145.out; have hnc53 := NB145_153.out; have hnb54 := NB153_136.out; have hnc54 := NB136_153.out; have hcz55_0 : w51.cell? ⟨gb153, 0, none⟩ = some (.int .i64 0) := (blk_cell BK153.out 0).trans rfl; have hcz55_1 : w51.cell? ⟨gb153, 1, none⟩ = some (.int .i64 0) := (blk_cell BK153.out 1).trans rfl; have hcz55_2 : w51.cell? ⟨gb153, 2, none⟩ = some (.int .i64 0) := (blk_cell BK153.out 2).trans rfl; have hfz55_0 := blk_frozen BK153.out 0; have hfz55_1 := blk_frozen BK153.out 1; have hfz55_2 := blk_frozen BK153.out 2))
                              have n0_ : Aside0 ((((w51.setCell ⟨gb153, 0, none⟩ (.int .i64 ((rd_T82 ((rd_T37 l0_1 x14_1).f1) x30_2).f0))).setCell ⟨gb153, 1, none⟩ (.int .i64 ((rd_T82 ((rd_T37 l0_1 x14_1).f1) x30_2).f1))).setCell ⟨gb153, 2, none⟩ (.int .i64 ((rd_T82 ((rd_T37 l0_1 x14_1).f1) x30_2).f2))).heap[gb133]? = some (.cells #[.int .i64 a0_0, .slice (some ad144) l0_1.length c0_1, .string a0_2] 29 (0, 0))) := ⟨by (with_reducible repeat (first | refine blk_drewN ?_ _ | refine blk_drew ?_ | refine blk_alloc ?_ _)); refine blk_far ?_ NB133_153.out _; (with_reducible repeat (first | refine blk_drewN ?_ _ | refine blk_drew ?_ | refine blk_alloc ?_ _)); refine blk_far ?_ NB133_153.out _; (with_reducible repeat (first | refine blk_drewN ?_ _ | refine blk_drew ?_ | refine blk_alloc ?_ _)); refine blk_far ?_ NB133_153.out _; (with_reducible repeat (first | refine blk_drewN ?_ _ | refine blk_drew ?_ | refine blk_alloc ?_ _)); exact BK133.out⟩
                              have n1_ : Aside0 ((((w51.setCell ⟨gb153, 0, none⟩ (.int .i64 ((rd_T82 ((rd_T37 l0_1 x14_1).f1) x30_2).f0))).setCell ⟨gb153, 1, none⟩ (.int .i64 ((rd_T82 ((rd_T37 l0_1 x14_1).f1) x30_2).f1))).setCell ⟨gb153, 2, none⟩ (.int .i64 ((rd_T82 ((rd_T37 l0_1 x14_1).f1) x30_2).f2))).heap[gb145]? = some (.cells #[.int .i64 ((rd_T37 l0_1 x14_1).f0), .slice (some ad152) ((rd_T37 l0_1 x14_1).f1).length c144_1] 37 (0, 0))) := ⟨by (with_reducible repeat (first | refine blk_drewN ?_ _ | refine blk_drew ?_ | refine blk_alloc ?_ _)); refine blk_far ?_ NB145_153.out _; (with_reducible repeat (first | refine blk_drewN ?_ _ | refine blk_drew ?_ | refine blk_alloc ?_ _)); refine blk_far ?_ NB145_153.out _; (with_reducible repeat (first | refine blk_drewN ?_ _ | refine blk_drew ?_ | refine blk_alloc ?_ _)); refine blk_far ?_ NB145_153.out _; (with_reducible repeat (first | refine blk_drewN ?_ _ | refine blk_drew ?_ | refine blk_alloc ?_ _)); exact BK145.out⟩
                              have n2_ : Aside0 ((((w51.setCell ⟨gb153, 0, none⟩ (.int .i64 ((rd_T82 ((rd_T37 l0_1 x14_1).f1) x30_2).f0))).setCell ⟨gb153, 1, none⟩ (.int .i64 ((rd_T82 ((rd_T37 l0_1 x14_1).f1) x30_2).f1))).setCell ⟨gb153, 2, none⟩ (.int .i64 ((rd_T82 ((rd_T37 l0_1 x14_1).f1) x30_2).f2))).heap[gb153]? = some (.cells #[.int .i64 ((rd_T82 ((rd_T37 l0_1 x14_1).f1) x30_2).f0), .int .i64 ((rd_T82 ((rd_T37 l0_1 x14_1).f1) x30_2).f1), .int .i64 ((rd_T82 ((rd_T37 l0_1 x14_1).f1) x30_2).f2)] 82 (0, 0))) := ⟨by (with_reducible repeat (first | refine blk_drewN ?_ _ | refine blk_drew ?_ | refine blk_alloc ?_ _)); refine blk_put (cs := #[.int .i64 ((rd_T82 ((rd_T37 l0_1 x14_1).f1) x30_2).f0), .int .i64 ((rd_T82 ((rd_T37 l0_1 x14_1).f1) x30_2).f1), .int .i64 0]) ?_ 2 _ rfl; (with_reducible repeat (first | refine blk_drewN ?_ _ | refine blk_drew ?_ | refine blk_alloc ?_ _)); refine blk_put (cs := #[.int .i64 ((rd_T82 ((rd_T37 l0_1 x14_1).f1) x30_2).f0), .int .i64 0, .int .i64 0]) ?_ 1 _ rfl; (with_reducible repeat (first | refine blk_drewN ?_ _ | refine blk_drew ?_ | refine blk_alloc ?_ _)); refine blk_put (cs := #[.int .i64 0, .int .i64 0, .int .i64 0]) ?_ 0 _ rfl; (with_reducible repeat (first | refine blk_drewN ?_ _ | refine blk_drew ?_ | refine blk_alloc ?_ _)); exact BK153.out⟩
                              have n3_ : Aside0 (Built.IsBld w (((w51.setCell ⟨gb153, 0, none⟩ (.int .i64 ((rd_T82 ((rd_T37 l0_1 x14_1).f1) x30_2).f0))).setCell ⟨gb153, 1, none⟩ (.int .i64 ((rd_T82 ((rd_T37 l0_1 x14_1).f1) x30_2).f1))).setCell ⟨gb153, 2, none⟩ (.int .i64 ((rd_T82 ((rd_T37 l0_1 x14_1).f1) x30_2).f2))) g136 x137000_2 x137001_2) := ⟨by repeat (first | (with_reducible first | exact HI136.out | apply Built.IsBld.alloc | apply Built.IsBld.drewN | apply Built.IsBld.drew | refine Built.IsBld.far ?_ NB136_133.out _ (by (with_reducible repeat (first | apply Built.NonB.set | apply Built.NonB.drewN | apply Built.NonB.drew)); exact Built.NonB.of BK133.out (by simp)) | refine Built.IsBld.far ?_ NB136_145.out _ (by (with_reducible repeat (first | apply Built.NonB.set | apply Built.NonB.drewN | apply Built.NonB.drew)); exact Built.NonB.of BK145.out (by simp)) | refine Built.IsBld.far ?_ NB136_153.out _ (by (with_reducible repeat (first | apply Built.NonB.set | apply Built.NonB.drewN | apply Built.NonB.drew)); exact Built.NonB.of BK153.out (by simp))) | exact HI136.out)⟩
                              have n4_ : Aside0 (Below w.heap.size w (((w51.setCell ⟨gb153, 0, none⟩ (.int .i64 ((rd_T82 ((rd_T37 l0_1 x14_1).f1) x30_2).f0))).setCell ⟨gb153, 1, none⟩ (.int .i64 ((rd_T82 ((rd_T37 l0_1 x14_1).f1) x30_2).f1))).setCell ⟨gb153, 2, none⟩ (.int .i64 ((rd_T82 ((rd_T37 l0_1 x14_1).f1) x30_2).f2)))) := ⟨by repeat (first | (with_reducible first | exact HB.out | apply below_alloc | apply pw_below_drewN | apply below_drew1 | refine below_set ?_ (Built.IsBld.ge HI136.out) | refine below_set ?_ GE133.out | refine below_set ?_ GE145.out | refine below_set ?_ GE153.out) | exact HB.out)⟩
                              (try clear BK133)
                              (try clear BK145)
                              (try clear BK153)
                              (try clear HI136)
                              (try clear HB)
                              generalize (((w51.setCell ⟨gb153, 0, none⟩ (.int .i64 ((rd_T82 ((rd_T37 l0_1 x14_1).f1) x30_2).f0))).setCell ⟨gb153, 1, none⟩ (.int .i64 ((rd_T82 ((rd_T37 l0_1 x14_1).f1) x30_2).f1))).setCell ⟨gb153, 2, none⟩ (.int .i64 ((rd_T82 ((rd_T37 l0_1 x14_1).f1) x30_2).f2))) = w56 at n0_ n1_ n2_ n3_ n4_ ⊢
                              have BK133 := n0_
                              have BK145 := n1_
                              have BK153 := n2_
                              have HI136 := n3_
                              have HB := n4_
                              clear n0_ n1_ n2_ n3_ n4_
                              have n0_ := Aside0.mk (blk_drew BK133.out)
                              have n1_ := Aside0.mk (blk_drew BK145.out)
                              have n2_ := Aside0.mk (blk_drew BK153.out)
                              have n3_ := Aside0.mk (Built.IsBld.drew HI136.out)
                              have n4_ := Aside0.mk (below_drew1 HB.out)
                              clear BK133
                              clear BK145
                              clear BK153
                              clear HI136
                              clear HB
                              have BK133 := n0_
                              have BK145 := n1_
                              have BK153 := n2_
                              have HI136 := n3_
                              have HB := n4_
                              clear n0_ n1_ n2_ n3_ n4_
                              refine start_ (n := 13) (S := fun w' => w'.cell? ⟨gb153, 0, none⟩ = some (.int .i64 ((rd_T82 ((rd_T37 l0_1 x14_1).f1) x30_2).f0)) ∧ w'.cell? ⟨gb153, 1, none⟩ = some (.int .i64 ((rd_T82 ((rd_T37 l0_1 x14_1).f1) x30_2).f1)) ∧ w'.cell? ⟨gb153, 2, none⟩ = some (.int .i64 ((rd_T82 ((rd_T37 l0_1 x14_1).f1) x30_2).f2))) (ds := []) #[false, false, false, false, false, false, false, false, false, false, false, false, false] (by kernel_rfl) rfl rfl ⟨(blk_cell BK153.out 0).trans rfl, (blk_cell BK153.out 1).trans rfl, (blk_cell BK153.out 2).trans rfl⟩ (fun hHeld => ?_); refine with_tabW ipfix_Set_body.tab11 ipfix_Set_body.bits11 (fun HT_ HW_ => ?_)
                              generalize w56.drew = w57 at BK133 BK145 BK153 HI136 HB hHeld ⊢
                              refine pure_ (i := 0) (N := some 37) (v := ?_) (a' := ?_) #[true, false, false, false, false, false, false, false, false, false, false, false, false] rfl rfl (any_of HT_.out (by kernel_rfl)) (fun _ _ _ h => h) (Or.inl ⟨by rfl, ?_⟩) ?_ ?_
                              rotate_left
                              · intro w'
                                go_simp
                                with_reducible rfl
                              rotate_left
                              · simp only [Act.put, List.setIfInBounds_toArray, List.set_cons_zero, List.set_cons_succ, i64_w, i32_w]
                                rfl
                              refine pure_ (i := 4) (N := some 41) (v := ?_) (a' := ?_) #[true, false, false, false, true, false, false, false, false, false, false, false, false] rfl rfl (any_of HT_.out (by kernel_rfl)) (fun _ _ _ h => h) (Or.inl ⟨by rfl, ?_⟩) ?_ ?_
                              rotate_left
                              · intro w'
                                go_simp
                                with_reducible rfl
                              rotate_left
                              · simp only [Act.put, List.setIfInBounds_toArray, List.set_cons_zero, List.set_cons_succ, i64_w, i32_w]
                                rfl
                              refine pure_ (i := 8) (N := some 45) (v := ?_) (a' := ?_) #[true, false, false, false, true, false, false, false, true, false, false, false, false] rfl rfl (any_of HT_.out (by kernel_rfl)) (fun _ _ _ h => h) (Or.inl ⟨by rfl, ?_⟩) ?_ ?_
                              rotate_left
                              · intro w'
                                go_simp
                                with_reducible rfl
                              rotate_left
                              · simp only [Act.put, List.setIfInBounds_toArray, List.set_cons_zero, List.set_cons_succ, i64_w, i32_w]
                                rfl
                              refine take_ (i := 1) (N := some 38) (v := ?_) (a' := ?_) #[true, true, false, false, true, false, false, false, true, false, false, false, false] rfl rfl (take_ofW HT_.out HW_.out (by kernel_rfl)) (fun _ _ _ h => h) (Or.inl ⟨by rfl, ?_⟩) hHeld ?_ ?_
                              rotate_left
                              · rintro w' ⟨s0, s1, s2⟩
                                go_simp
                                with_reducible rfl
                              rotate_left
                              · simp only [Act.put, List.setIfInBounds_toArray, List.set_cons_zero, List.set_cons_succ, i64_w, i32_w]
                                rfl
                              refine pure_ (i := 2) (N := some 39) (v := ?_) (a' := ?_) #[true, true, true, false, true, false, false, false, true, false, false, false, false] rfl rfl (any_of HT_.out (by kernel_rfl)) (fun _ _ _ h => h) (Or.inl ⟨by rfl, ?_⟩) ?_ ?_
                              rotate_left
                              · intro w'
                                go_simp
                                with_reducible rfl
                              rotate_left
                              · simp only [Act.put, List.setIfInBounds_toArray, List.set_cons_zero, List.set_cons_succ, i64_w, i32_w]
                                rfl
                              refine take_ (i := 5) (N := some 42) (v := ?_) (a' := ?_) #[true, true, true, false, true, true, false, false, true, false, false, false, false] rfl rfl (take_ofW HT_.out HW_.out (by kernel_rfl)) (fun _ _ _ h => h) (Or.inl ⟨by rfl, ?_⟩) hHeld ?_ ?_
                              rotate_left
                              · rintro w' ⟨s0, s1, s2⟩
                                go_simp
                                with_reducible rfl
                              rotate_left
                              · simp only [Act.put, List.setIfInBounds_toArray, List.set_cons_zero, List.set_cons_succ, i64_w, i32_w]
                                rfl
                              refine take_ (i := 9) (N := some 46) (v := ?_) (a' := ?_) #[true, true, true, false, true, true, false, false, true, true, false, false, false] rfl rfl (take_ofW HT_.out HW_.out (by kernel_rfl)) (fun _ _ _ h => h) (Or.inl ⟨by rfl, ?_⟩) hHeld ?_ ?_
                              rotate_left
                              · rintro w' ⟨s0, s1, s2⟩
                                go_simp
                                with_reducible rfl
                              rotate_left
                              · simp only [Act.put, List.setIfInBounds_toArray, List.set_cons_zero, List.set_cons_succ, i64_w, i32_w]
                                rfl
                              refine one_ (i := 3) (N := some 40) #[true, true, true, true, true, true, false, false, true, true, false, false, false] rfl rfl (one_of HT_.out (by kernel_rfl)) (by decide) (fun K hK => ?_)
                              refine goes_ Try.func31 (by kernel_rfl) rfl #[.int .i64 (wrap64 (((rd_T82 ((rd_T37 l0_1 x14_1).f1) x30_2).f0) + 32768)), .int .i64 2] (by rfl) rfl rfl (by (try simp only [List.map_toArray, List.map_cons, List.map_nil]); first | done | rfl | (simp only [List.length_drop, List.length_take]; rfl)) ?_
                              with_reducible refine (ipfix_put.calls k2 (wrap64 (((rd_T82 ((rd_T37 l0_1 x14_1).f1) x30_2).f0) + 32768)) 2 t160 _ A45.out).mono ?_
                              rintro e w58 ⟨rfl, hb⟩
                              refine ⟨_, rfl, ?_⟩
                              have n0_ := Aside0.mk (blk_below (g := gb133) (o := .cells #[.int .i64 a0_0, .slice (some ad144) l0_1.length c0_1, .string a0_2] 29 (0, 0)) (by (with_reducible repeat (first | refine blk_drewN ?_ _ | refine blk_drew ?_ | refine blk_alloc ?_ _)); exact BK133.out) hb)
                              have n1_ := Aside0.mk (blk_below (g := gb145) (o := .cells #[.int .i64 ((rd_T37 l0_1 x14_1).f0), .slice (some ad152) ((rd_T37 l0_1 x14_1).f1).length c144_1] 37 (0, 0)) (by (with_reducible repeat (first | refine blk_drewN ?_ _ | refine blk_drew ?_ | refine blk_alloc ?_ _)); exact BK145.out) hb)
                              have n2_ := Aside0.mk (Built.IsBld.below (by repeat (first | (with_reducible first | exact HI136.out | apply Built.IsBld.alloc | apply Built.IsBld.drewN | apply Built.IsBld.drew | refine Built.IsBld.far ?_ NB136_133.out _ (by (with_reducible repeat (first | apply Built.NonB.set | apply Built.NonB.drewN | apply Built.NonB.drew)); exact Built.NonB.of BK133.out (by simp)) | refine Built.IsBld.far ?_ NB136_145.out _ (by (with_reducible repeat (first | apply Built.NonB.set | apply Built.NonB.drewN | apply Built.NonB.drew)); exact Built.NonB.of BK145.out (by simp)) | refine Built.IsBld.far ?_ NB136_153.out _ (by (with_reducible repeat (first | apply Built.NonB.set | apply Built.NonB.drewN | apply Built.NonB.drew)); exact Built.NonB.of BK153.out (by simp))) | exact HI136.out)) hb)
                              have n3_ := Aside0.mk (blk_below (g := gb153) (o := .cells #[.int .i64 ((rd_T82 ((rd_T37 l0_1 x14_1).f1) x30_2).f0), .int .i64 ((rd_T82 ((rd_T37 l0_1 x14_1).f1) x30_2).f1), .int .i64 ((rd_T82 ((rd_T37 l0_1 x14_1).f1) x30_2).f2)] 82 (0, 0)) (by (with_reducible repeat (first | refine blk_drewN ?_ _ | refine blk_drew ?_ | refine blk_alloc ?_ _)); exact BK153.out) hb)
                              have n4_ := Aside0.mk (below_step (by repeat (first | (with_reducible first | exact HB.out | apply below_alloc | apply pw_below_drewN | apply below_drew1 | refine below_set ?_ (Built.IsBld.ge HI136.out) | refine below_set ?_ GE133.out | refine below_set ?_ GE145.out | refine below_set ?_ GE153.out) | exact HB.out)) hb)
                              clear BK133
                              clear BK145
                              clear HI136
                              clear BK153
                              clear HB
                              have BK133 := n0_
                              have BK145 := n1_
                              have HI136 := n2_
                              have BK153 := n3_
                              have HB := n4_
                              clear n0_ n1_ n2_ n3_ n4_
                              (try clear hb)
                              (try clear hb2)
                              (try clear hk)
                              (try clear hi)
                              refine hK.out _ _ ⟨(blk_cell BK153.out 0).trans rfl, (blk_cell BK153.out 1).trans rfl, (blk_cell BK153.out 2).trans rfl⟩ (fun hHeld => ?_)
                              clear hK K
                              refine norm_ (a' := ?_) ?_ ?_
                              rotate_left
                              · show Act.put _ (some 40) _ = _
                                simp only [Act.put, List.setIfInBounds_toArray, List.set_cons_zero, List.set_cons_succ, i64_w, i32_w]
                                rfl
                              refine one_ (i := 6) (N := some 43) #[true, true, true, true, true, true, true, false, true, true, false, false, false] rfl rfl (one_of HT_.out (by kernel_rfl)) (by decide) (fun K hK => ?_)
                              refine goes_ Try.func31 (by kernel_rfl) rfl #[.int .i64 ((rd_T82 ((rd_T37 l0_1 x14_1).f1) x30_2).f1), .int .i64 2] (by rfl) rfl rfl (by (try simp only [List.map_toArray, List.map_cons, List.map_nil]); first | done | rfl | (simp only [List.length_drop, List.length_take]; rfl)) ?_
                              with_reducible refine (ipfix_put.calls k2 ((rd_T82 ((rd_T37 l0_1 x14_1).f1) x30_2).f1) 2 t161 _ A46.out).mono ?_
                              rintro e w59 ⟨rfl, hb⟩
                              refine ⟨_, rfl, ?_⟩
                              have n0_ := Aside0.mk (blk_below (g := gb133) (o := .cells #[.int .i64 a0_0, .slice (some ad144) l0_1.length c0_1, .string a0_2] 29 (0, 0)) (by (with_reducible repeat (first | refine blk_drewN ?_ _ | refine blk_drew ?_ | refine blk_alloc ?_ _)); exact BK133.out) hb)
                              have n1_ := Aside0.mk (blk_below (g := gb145) (o := .cells #[.int .i64 ((rd_T37 l0_1 x14_1).f0), .slice (some ad152) ((rd_T37 l0_1 x14_1).f1).length c144_1] 37 (0, 0)) (by (with_reducible repeat (first | refine blk_drewN ?_ _ | refine blk_drew ?_ | refine blk_alloc ?_ _)); exact BK145.out) hb)
                              have n2_ := Aside0.mk (Built.IsBld.below (by repeat (first | (with_reducible first | exact HI136.out | apply Built.IsBld.alloc | apply Built.IsBld.drewN | apply Built.IsBld.drew | refine Built.IsBld.far ?_ NB136_133.out _ (by (with_reducible repeat (first | apply Built.NonB.set | apply Built.NonB.drewN | apply Built.NonB.drew)); exact Built.NonB.of BK133.out (by simp)) | refine Built.IsBld.far ?_ NB136_145.out _ (by (with_reducible repeat (first | apply Built.NonB.set | apply Built.NonB.drewN | apply Built.NonB.drew)); exact Built.NonB.of BK145.out (by simp)) | refine Built.IsBld.far ?_ NB136_153.out _ (by (with_reducible repeat (first | apply Built.NonB.set | apply Built.NonB.drewN | apply Built.NonB.drew)); exact Built.NonB.of BK153.out (by simp))) | exact HI136.out)) hb)
                              have n3_ := Aside0.mk (blk_below (g := gb153) (o := .cells #[.int .i64 ((rd_T82 ((rd_T37 l0_1 x14_1).f1) x30_2).f0), .int .i64 ((rd_T82 ((rd_T37 l0_1 x14_1).f1) x30_2).f1), .int .i64 ((rd_T82 ((rd_T37 l0_1 x14_1).f1) x30_2).f2)] 82 (0, 0)) (by (with_reducible repeat (first | refine blk_drewN ?_ _ | refine blk_drew ?_ | refine blk_alloc ?_ _)); exact BK153.out) hb)
                              have n4_ := Aside0.mk (below_step (by repeat (first | (with_reducible first | exact HB.out | apply below_alloc | apply pw_below_drewN | apply below_drew1 | refine below_set ?_ (Built.IsBld.ge HI136.out) | refine below_set ?_ GE133.out | refine below_set ?_ GE145.out | refine below_set ?_ GE153.out) | exact HB.out)) hb)
                              clear BK133
                              clear BK145
                              clear HI136
                              clear BK153
                              clear HB
                              have BK133 := n0_
                              have BK145 := n1_
                              have HI136 := n2_
                              have BK153 := n3_
                              have HB := n4_
                              clear n0_ n1_ n2_ n3_ n4_
                              (try clear hb)
                              (try clear hb2)
                              (try clear hk)
                              (try clear hi)
                              refine hK.out _ _ ⟨(blk_cell BK153.out 0).trans rfl, (blk_cell BK153.out 1).trans rfl, (blk_cell BK153.out 2).trans rfl⟩ (fun hHeld => ?_)
                              clear hK K
                              refine norm_ (a' := ?_) ?_ ?_
                              rotate_left
                              · show Act.put _ (some 43) _ = _
                                simp only [Act.put, List.setIfInBounds_toArray, List.set_cons_zero, List.set_cons_succ, i64_w, i32_w]
                                rfl
                              refine pure_ (i := 7) (N := some 44) (v := ?_) (a' := ?_) #[true, true, true, true, true, true, true, true, true, true, false, false, false] rfl rfl (any_of HT_.out (by kernel_rfl)) (fun _ _ _ h => h) (Or.inl ⟨by rfl, ?_⟩) ?_ ?_
                              rotate_left
                              · intro w'
                                go_simp
                                with_reducible rfl
                              rotate_left
                              · simp only [Act.put, List.setIfInBounds_toArray, List.set_cons_zero, List.set_cons_succ, i64_w, i32_w]
                                rfl
                              refine one_ (i := 10) (N := some 47) #[true, true, true, true, true, true, true, true, true, true, true, false, false] rfl rfl (one_of HT_.out (by kernel_rfl)) (by decide) (fun K hK => ?_)
                              refine goes_ Try.func31 (by kernel_rfl) rfl #[.int .i64 ((rd_T82 ((rd_T37 l0_1 x14_1).f1) x30_2).f2), .int .i64 4] (by rfl) rfl rfl (by (try simp only [List.map_toArray, List.map_cons, List.map_nil]); first | done | rfl | (simp only [List.length_drop, List.length_take]; rfl)) ?_
                              with_reducible refine (ipfix_put.calls k2 ((rd_T82 ((rd_T37 l0_1 x14_1).f1) x30_2).f2) 4 t162 _ A48.out).mono ?_
                              rintro e w60 ⟨rfl, hb⟩
                              refine ⟨_, rfl, ?_⟩
                              have n0_ := Aside0.mk (blk_below (g := gb133) (o := .cells #[.int .i64 a0_0, .slice (some ad144) l0_1.length c0_1, .string a0_2] 29 (0, 0)) (by (with_reducible repeat (first | refine blk_drewN ?_ _ | refine blk_drew ?_ | refine blk_alloc ?_ _)); exact BK133.out) hb)
                              have n1_ := Aside0.mk (blk_below (g := gb145) (o := .cells #[.int .i64 ((rd_T37 l0_1 x14_1).f0), .slice (some ad152) ((rd_T37 l0_1 x14_1).f1).length c144_1] 37 (0, 0)) (by (with_reducible repeat (first | refine blk_drewN ?_ _ | refine blk_drew ?_ | refine blk_alloc ?_ _)); exact BK145.out) hb)
                              have n2_ := Aside0.mk (Built.IsBld.below (by repeat (first | (with_reducible first | exact HI136.out | apply Built.IsBld.alloc | apply Built.IsBld.drewN | apply Built.IsBld.drew | refine Built.IsBld.far ?_ NB136_133.out _ (by (with_reducible repeat (first | apply Built.NonB.set | apply Built.NonB.drewN | apply Built.NonB.drew)); exact Built.NonB.of BK133.out (by simp)) | refine Built.IsBld.far ?_ NB136_145.out _ (by (with_reducible repeat (first | apply Built.NonB.set | apply Built.NonB.drewN | apply Built.NonB.drew)); exact Built.NonB.of BK145.out (by simp)) | refine Built.IsBld.far ?_ NB136_153.out _ (by (with_reducible repeat (first | apply Built.NonB.set | apply Built.NonB.drewN | apply Built.NonB.drew)); exact Built.NonB.of BK153.out (by simp))) | exact HI136.out)) hb)
                              have n3_ := Aside0.mk (blk_below (g := gb153) (o := .cells #[.int .i64 ((rd_T82 ((rd_T37 l0_1 x14_1).f1) x30_2).f0), .int .i64 ((rd_T82 ((rd_T37 l0_1 x14_1).f1) x30_2).f1), .int .i64 ((rd_T82 ((rd_T37 l0_1 x14_1).f1) x30_2).f2)] 82 (0, 0)) (by (with_reducible repeat (first | refine blk_drewN ?_ _ | refine blk_drew ?_ | refine blk_alloc ?_ _)); exact BK153.out) hb)
                              have n4_ := Aside0.mk (below_step (by repeat (first | (with_reducible first | exact HB.out | apply below_alloc | apply pw_below_drewN | apply below_drew1 | refine below_set ?_ (Built.IsBld.ge HI136.out) | refine below_set ?_ GE133.out | refine below_set ?_ GE145.out | refine below_set ?_ GE153.out) | exact HB.out)) hb)
                              clear BK133
                              clear BK145
                              clear HI136
                              clear BK153
                              clear HB
                              have BK133 := n0_
                              have BK145 := n1_
                              have HI136 := n2_
                              have BK153 := n3_
                              have HB := n4_
                              clear n0_ n1_ n2_ n3_ n4_
                              (try clear hb)
                              (try clear hb2)
                              (try clear hk)
                              (try clear hi)
                              refine hK.out _ _ ⟨(blk_cell BK153.out 0).trans rfl, (blk_cell BK153.out 1).trans rfl, (blk_cell BK153.out 2).trans rfl⟩ (fun hHeld => ?_)
                              clear hK K
                              refine norm_ (a' := ?_) ?_ ?_
                              rotate_left
                              · show Act.put _ (some 47) _ = _
                                simp only [Act.put, List.setIfInBounds_toArray, List.set_cons_zero, List.set_cons_succ, i64_w, i32_w]
                                rfl
                              refine pure_ (i := 11) (N := some 48) (v := ?_) (a' := ?_) #[true, true, true, true, true, true, true, true, true, true, true, true, false] rfl rfl (any_of HT_.out (by kernel_rfl)) (fun _ _ _ h => h) (Or.inl ⟨by rfl, ?_⟩) ?_ ?_
                              rotate_left
                              · intro w'
                                go_simp
                                with_reducible rfl
                              rotate_left
                              · simp only [Act.put, List.setIfInBounds_toArray, List.set_cons_zero, List.set_cons_succ, i64_w, i32_w]
                                rfl
                              refine one_ (i := 12) (N := some 49) #[true, true, true, true, true, true, true, true, true, true, true, true, true] rfl rfl (one_of HT_.out (by kernel_rfl)) (by decide) (fun K hK => ?_)
                              refine goes_ Try.func30 (by kernel_rfl) rfl #[.pointer (some ⟨g136, 0, none⟩), .string ((t160 ++ t161) ++ t162)] (by rfl) rfl rfl (by (try simp only [List.map_toArray, List.map_cons, List.map_nil]); first | done | rfl | (simp only [List.length_drop, List.length_take]; rfl)) ?_
                              with_reducible refine (strings_Builder_WriteString.calls g136 x137000_2 x137001_2 ((t160 ++ t161) ++ t162) t163 t164 t165 t166 w _ ?side1 ?side2 A50.out).mono ?_
                              (case side1 => repeat (first | (with_reducible first | exact HI136.out | apply Built.IsBld.alloc | apply Built.IsBld.drewN | apply Built.IsBld.drew | refine Built.IsBld.far ?_ NB136_133.out _ (by (with_reducible repeat (first | apply Built.NonB.set | apply Built.NonB.drewN | apply Built.NonB.drew)); exact Built.NonB.of BK133.out (by simp)) | refine Built.IsBld.far ?_ NB136_145.out _ (by (with_reducible repeat (first | apply Built.NonB.set | apply Built.NonB.drewN | apply Built.NonB.drew)); exact Built.NonB.of BK145.out (by simp)) | refine Built.IsBld.far ?_ NB136_153.out _ (by (with_reducible repeat (first | apply Built.NonB.set | apply Built.NonB.drewN | apply Built.NonB.drew)); exact Built.NonB.of BK153.out (by simp))) | exact HI136.out))
                              (case side2 => repeat (first | (with_reducible first | exact HB.out | apply below_alloc | apply pw_below_drewN | apply below_drew1 | refine below_set ?_ (Built.IsBld.ge HI136.out) | refine below_set ?_ GE133.out | refine below_set ?_ GE145.out | refine below_set ?_ GE153.out) | exact HB.out))
                              rintro e w61 ⟨rfl, hi, hb, hk⟩
                              refine ⟨_, rfl, ?_⟩
                              have n0_ := Aside0.mk (Built.KeepT.blk hk (g' := gb133) (o := .cells #[.int .i64 a0_0, .slice (some ad144) l0_1.length c0_1, .string a0_2] 29 (0, 0)) (by (with_reducible repeat (first | refine blk_drewN ?_ _ | refine blk_drew ?_ | refine blk_alloc ?_ _)); exact BK133.out) NB133_136.out (by simp))
                              have n1_ := Aside0.mk (Built.KeepT.blk hk (g' := gb145) (o := .cells #[.int .i64 ((rd_T37 l0_1 x14_1).f0), .slice (some ad152) ((rd_T37 l0_1 x14_1).f1).length c144_1] 37 (0, 0)) (by (with_reducible repeat (first | refine blk_drewN ?_ _ | refine blk_drew ?_ | refine blk_alloc ?_ _)); exact BK145.out) NB145_136.out (by simp))
                              have n2_ := Aside0.mk (Built.KeepT.blk hk (g' := gb153) (o := .cells #[.int .i64 ((rd_T82 ((rd_T37 l0_1 x14_1).f1) x30_2).f0), .int .i64 ((rd_T82 ((rd_T37 l0_1 x14_1).f1) x30_2).f1), .int .i64 ((rd_T82 ((rd_T37 l0_1 x14_1).f1) x30_2).f2)] 82 (0, 0)) (by (with_reducible repeat (first | refine blk_drewN ?_ _ | refine blk_drew ?_ | refine blk_alloc ?_ _)); exact BK153.out) NB153_136.out (by simp))
                              have n3_ := Aside0.mk (hb)
                              have n4_ := Aside0.mk (hi)
                              clear BK133
                              clear BK145
                              clear BK153
                              clear HB
                              clear HI136
                              have BK133 := n0_
                              have BK145 := n1_
                              have BK153 := n2_
                              have HB := n3_
                              have HI136 := n4_
                              clear n0_ n1_ n2_ n3_ n4_
                              (try clear hb)
                              (try clear hb2)
                              (try clear hk)
                              (try clear hi)
                              (try simp only [errW_none, errW_some])
                              refine hK.out _ _ ⟨(blk_cell BK153.out 0).trans rfl, (blk_cell BK153.out 1).trans rfl, (blk_cell BK153.out 2).trans rfl⟩ (fun hHeld => ?_)
                              clear hK K
                              refine norm_ (a' := ?_) ?_ ?_
                              rotate_left
                              · show Act.put _ (some 49) _ = _
                                simp only [Act.put, List.setIfInBounds_toArray, List.set_cons_zero, List.set_cons_succ, i64_w, i32_w]
                                rfl
                              refine done_ (done_of HT_.out (by kernel_rfl)) ?_
                              try go_wp2
                              go_roundg k2
                              case measure => have := HK1.out; have := HK2.out; omega
                              case rel => exact ⟨(wrap64 (x30_2 + 1)), (t165), (t166), (by first | rfl | (simp; done) | (simp [*]; done)), H', ⟨by have := HK1.out; have := HK2.out; omega⟩, ⟨by (with_reducible repeat (first | refine blk_drewN ?_ _ | refine blk_drew ?_ | refine blk_alloc ?_ _)); exact BK133.out⟩, ⟨by (with_reducible repeat (first | refine blk_drewN ?_ _ | refine blk_drew ?_ | refine blk_alloc ?_ _)); exact BK145.out⟩, ⟨by repeat (first | (with_reducible first | exact HI136.out | apply Built.IsBld.alloc | apply Built.IsBld.drewN | apply Built.IsBld.drew | refine Built.IsBld.far ?_ NB136_133.out _ (by (with_reducible repeat (first | apply Built.NonB.set | apply Built.NonB.drewN | apply Built.NonB.drew)); exact Built.NonB.of BK133.out (by simp)) | refine Built.IsBld.far ?_ NB136_145.out _ (by (with_reducible repeat (first | apply Built.NonB.set | apply Built.NonB.drewN | apply Built.NonB.drew)); exact Built.NonB.of BK145.out (by simp)) | refine Built.IsBld.far ?_ NB136_153.out _ (by (with_reducible repeat (first | apply Built.NonB.set | apply Built.NonB.drewN | apply Built.NonB.drew)); exact Built.NonB.of BK153.out (by simp))) | exact HI136.out)⟩, ⟨by repeat (first | (with_reducible first | exact HB.out | apply below_alloc | apply pw_below_drewN | apply below_drew1 | refine below_set ?_ (Built.IsBld.ge HI136.out) | refine below_set ?_ GE133.out | refine below_set ?_ GE145.out | refine below_set ?_ GE153.out) | exact HB.out)⟩⟩
                            · rw [if_neg c49] at H
                              exact absurd H (by simp)
                          · rw [if_neg c47] at H
                            exact absurd H (by simp)
                      · rw [if_neg c29] at H
                        exact absurd H (by simp)
                    · rw [if_neg c28] at H
                      exact absurd H (by simp)
                  · rw [if_neg c27] at H
                    have c27b0 : decide (x30_2 < (((rd_T37 l0_1 x14_1).f1).length : Int)) = false := decide_eq_false c27
                    clear c27
                    have H' := Aside0.mk H
                    clear H
                    go_wp2
                    go_roundg k2
                    case measure => have := HK1.out; have := HK2.out; omega
                    case rel => exact ⟨(wrap64 (x14_1 + 1)), (x137000_2), (x137001_2), (by first | rfl | (simp; done) | (simp [*]; done)), H', ⟨by have := HK1.out; have := HK2.out; omega⟩, ⟨by (with_reducible repeat (first | refine blk_drewN ?_ _ | refine blk_drew ?_ | refine blk_alloc ?_ _)); exact BK133.out⟩, ⟨by repeat (first | (with_reducible first | exact HI136.out | apply Built.IsBld.alloc | apply Built.IsBld.drewN | apply Built.IsBld.drew | refine Built.IsBld.far ?_ NB136_133.out _ (by (with_reducible repeat (first | apply Built.NonB.set | apply Built.NonB.drewN | apply Built.NonB.drew)); exact Built.NonB.of BK133.out (by simp)) | refine Built.IsBld.far ?_ NB136_145.out _ (by (with_reducible repeat (first | apply Built.NonB.set | apply Built.NonB.drewN | apply Built.NonB.drew)); exact Built.NonB.of BK145.out (by simp))) | exact HI136.out)⟩, ⟨by repeat (first | (with_reducible first | exact HB.out | apply below_alloc | apply pw_below_drewN | apply below_drew1 | refine below_set ?_ (Built.IsBld.ge HI136.out) | refine below_set ?_ GE133.out | refine below_set ?_ GE145.out) | exact HB.out)⟩⟩
            · rw [if_neg c15] at H
              exact absurd H (by simp)
          · rw [if_neg c12] at H
            exact absurd H (by simp)
        · rw [if_neg c11] at H
          exact absurd H (by simp)
      · rw [if_neg c10] at H
        have c10b0 : decide (x14_1 < (l0_1.length : Int)) = false := decide_eq_false c10
        clear c10
        replace H := Option.bind_eq_some_iff.mp H
        obtain ⟨⟨t141, t142, t143⟩, A620, H⟩ := H
        replace H : (some t141) = some r := H
        have A62 := Aside0.mk A620
        clear A620
        obtain rfl := Option.some.inj H
        go_wp2_with (first | ((with_reducible refine gate_callee (f := 33) rfl ?_); refine goesL_ (some 60) rfl rfl Try.func33 (by kernel_rfl) rfl #[.pointer (some ⟨g136, 0, none⟩)] rfl (by (try simp only [List.map_toArray, List.map_cons, List.map_nil]); first | done | rfl | (simp only [List.length_drop, List.length_take]; rfl)) ?_; (with_reducible refine (strings_Builder_String.calls g136 x137000_1 x137001_1 t141 t142 t143 w _ ?side1 ?side2 A62.out).mono ?_); (case side1 => repeat (first | (with_reducible first | exact HI136.out | apply Built.IsBld.alloc | apply Built.IsBld.drewN | apply Built.IsBld.drew | refine Built.IsBld.far ?_ NB136_133.out _ (by (with_reducible repeat (first | apply Built.NonB.set | apply Built.NonB.drewN | apply Built.NonB.drew)); exact Built.NonB.of BK133.out (by simp))) | exact HI136.out)); (case side2 => repeat (first | (with_reducible first | exact HB.out | apply below_alloc | apply pw_below_drewN | apply below_drew1 | refine below_set ?_ (Built.IsBld.ge HI136.out) | refine below_set ?_ GE133.out) | exact HB.out)); rintro e w63 ⟨rfl, hi, hb, hk⟩; refine ⟨_, rfl, ?_⟩; have n0_ := Aside0.mk (Built.KeepT.blk hk (g' := gb133) (o := .cells #[.int .i64 a0_0, .slice A0_1 l0_1.length c0_1, .string a0_2] 29 (0, 0)) (by (with_reducible repeat (first | refine blk_drewN ?_ _ | refine blk_drew ?_ | refine blk_alloc ?_ _)); exact BK133.out) NB133_136.out (by simp)); have n1_ := Aside0.mk (hb); have n2_ := Aside0.mk (hi); clear BK133; clear HB; clear HI136; have BK133 := n0_; have HB := n1_; have HI136 := n2_; clear n0_ n1_ n2_; (try clear hb); (try clear hb2); (try clear hk); (try clear hi)))
        go_ret
        exact ⟨by first | rfl | (simp [errW_none, errW_some] <;> rfl) | (simp [*, errW_none, errW_some] <;> rfl), by repeat (first | (with_reducible first | exact HB.out | apply below_alloc | apply pw_below_drewN | apply below_drew1 | refine below_set ?_ (Built.IsBld.ge HI136.out) | refine below_set ?_ GE133.out) | exact HB.out)⟩

end Go.Proofs.Ytojmpdjbhplgkaa.PIpfixJoins
