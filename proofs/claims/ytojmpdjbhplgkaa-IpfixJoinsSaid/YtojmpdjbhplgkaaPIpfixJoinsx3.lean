/- The functions that a law uses, each as a plain function, with the proof that a call of the Go function comes to its answer. Condition of each: the arguments read as the data that it names, and the plain function has an answer. Written by a program of this session (standin.py). -/
import Derived.Test.YtojmpdjbhplgkaaPIpfixJoinsx0
import Derived.Test.YtojmpdjbhplgkaaPIpfixJoinsx1
import Derived.Test.YtojmpdjbhplgkaaPIpfixJoinsx2
import Derived.Lib.SliceRun
namespace Go.Proofs.Ytojmpdjbhplgkaa.PIpfixJoins
open Go.RowKit Go.Proofs.YtojmpdjbhplgkaaW.PrintWords Go.Proofs.YtojmpdjbhplgkaaW.PrintLast Go.Proofs.YtojmpdjbhplgkaaW.PrintMore
attribute [local go_sem] max2_int min2_int max_two min_two max_three min_three max_four min_four   -- for this text's walks alone
set_option linter.unusedVariables false
set_option linter.unusedSimpArgs false

/-! ### strings_Builder_Len: function 32 -/
def strings_Builder_Len.f (s0_0 : ByteArray) (s0_1 : Bool) : Option (Int × ByteArray × Bool) := some ((s0_0.size : Int), s0_0, s0_1)
set_option maxHeartbeats 8000000 in
set_option maxRecDepth 100000 in
theorem strings_Builder_Len.calls (g : Nat) (s0_0 : ByteArray) (s0_1 : Bool) (r1 : Int) (r2 : ByteArray) (r3 : Bool) (w0 w : World) (hI : Built.IsBld w0 w g s0_0 s0_1) (hB : Below w0.heap.size w0 w) (h : strings_Builder_Len.f s0_0 s0_1 = some (r1, r2, r3)) :
    Calls Try.prog 32 #[.pointer (some ⟨g, 0, none⟩)] w fun e w' => e = .returned (.int .i64 r1) ∧ Built.IsBld w0 w' g r2 r3 ∧ Below w0.heap.size w0 w' ∧ Built.KeepT w w' g := by
  unfold strings_Builder_Len.f at h
  simp only [Option.some.injEq, Prod.mk.injEq] at h
  obtain ⟨rfl, rfl, rfl⟩ := h
  refine (Built.len g s0_0 s0_1 w0 w hI).mono ?_
  rintro e w' ⟨rfl, rfl⟩
  exact ⟨rfl, hI, hB, fun _ _ h_ _ _ => h_⟩

/-! ### ipfix_Put: function 10 -/
def ipfix_Put.l0 : Nat → List (S29) → Int → Int → Int → Int → Int → List (S29) → ByteArray → Bool → Option (ByteArray × Int)
  | 0, _, _, _, _, _, _, _, _, _ => none
  | k + 1, x16, x17, x18, x168000, x168001, x168002, x168003, x172000, x172001 => if x18 < x17 then (if 0 ≤ x18 then (if x18 < (x16.length : Int) then ((ipfix_Set_body.f k ((rd_T29 x16 x18).f0) ((rd_T29 x16 x18).f1) ((rd_T29 x16 x18).f2)).bind fun t174 => ((octet_Put.f k (wrap64 ((t174.size : Int) + 4)) 2).bind fun bt175 => (if bt175.2 = 0 then ((ipfix_put.f k ((rd_T29 x16 x18).f0) 2).bind fun t177 => (if t177.size + bt175.1.size ≤ 9223372036854775807 then (if (t177 ++ bt175.1).size + t174.size ≤ 9223372036854775807 then ((strings_Builder_WriteString.f x172000 x172001 ((t177 ++ bt175.1) ++ t174)).bind fun bt178 => (ipfix_Put.l0 k x16 x17 (wrap64 (x18 + 1)) x168000 x168001 x168002 x168003 bt178.2.2.1 bt178.2.2.2)) else (none)) else (none))) else (some ((⟨#[]⟩ : ByteArray), 4))))) else (none)) else (none)) else ((strings_Builder_Len.f x172000 x172001).bind fun bt182 => ((octet_Put.f k (wrap64 (16 + bt182.1)) 2).bind fun bt185 => (if bt185.2 = 0 then ((ipfix_put.f k 10 2).bind fun t187 => (if t187.size + bt185.1.size ≤ 9223372036854775807 then ((ipfix_put.f k x168000 4).bind fun t188 => (if (t187 ++ bt185.1).size + t188.size ≤ 9223372036854775807 then ((ipfix_put.f k x168001 4).bind fun t189 => (if ((t187 ++ bt185.1) ++ t188).size + t189.size ≤ 9223372036854775807 then ((ipfix_put.f k x168002 4).bind fun t190 => (if (((t187 ++ bt185.1) ++ t188) ++ t189).size + t190.size ≤ 9223372036854775807 then ((strings_Builder_String.f bt182.2.1 bt182.2.2).bind fun bt191 => (if ((((t187 ++ bt185.1) ++ t188) ++ t189) ++ t190).size + bt191.1.size ≤ 9223372036854775807 then (some (((((t187 ++ bt185.1) ++ t188) ++ t189) ++ t190) ++ bt191.1, 0)) else (none))) else (none))) else (none))) else (none))) else (none))) else (some ((⟨#[]⟩ : ByteArray), 4)))))
def ipfix_Put.f (k : Nat) (a0_0 : Int) (a0_1 : Int) (a0_2 : Int) (l0_3 : List (S29)) : Option (ByteArray × Int) := (ipfix_Right.f a0_0 a0_1 a0_2 l0_3).bind fun t168 => (if t168 = true then ((abi_NoEscape.f (⟨#[]⟩ : ByteArray)).bind fun bt169 => (ipfix_Put.l0 k l0_3 (l0_3.length : Int) 0 a0_0 a0_1 a0_2 l0_3 bt169.1 bt169.2)) else (some ((⟨#[]⟩ : ByteArray), 1)))
theorem ipfix_Put.mono_l : ∀ k, (∀ y0 y1 y2 y3 y4 y5 y6 y7 y8, LeO (ipfix_Put.l0 k y0 y1 y2 y3 y4 y5 y6 y7 y8) (ipfix_Put.l0 (k + 1) y0 y1 y2 y3 y4 y5 y6 y7 y8))
  | 0 => fun _ _ _ _ _ _ _ _ _ r h => by simp [ipfix_Put.l0] at h
  | k + 1 => by
    have ih0 := ipfix_Put.mono_l k
    · intro y0 y1 y2 y3 y4 y5 y6 y7 y8
      unfold ipfix_Put.l0
      repeat' first
      | (with_reducible exact ih0 _ _ _ _ _ _ _ _ _)
      | (with_reducible exact ipfix_Set_body.mono _ _ _ _)
      | (with_reducible exact ipfix_put.mono _ _ _)
      | (with_reducible exact octet_Put.mono _ _ _)
      | (with_reducible exact LeO.refl _)
      | (with_reducible exact LeO.none _)
      | (with_reducible refine LeO.ite ?_ ?_)
      | (with_reducible refine LeO.bind ?_ (fun _ => ?_))
      | exact ih0 _ _ _ _ _ _ _ _ _
      | exact ipfix_Set_body.mono _ _ _ _
      | exact ipfix_put.mono _ _ _
      | exact octet_Put.mono _ _ _
      | exact LeO.none _
      | refine LeO.ite ?_ ?_
      | refine LeO.bind ?_ (fun _ => ?_)
theorem ipfix_Put.mono : ∀ a0 a1 a2 a3 k, LeO (ipfix_Put.f k a0 a1 a2 a3) (ipfix_Put.f (k + 1) a0 a1 a2 a3) := by
  intro a0 a1 a2 a3 k
  have ih0 := ipfix_Put.mono_l k
  unfold ipfix_Put.f
  repeat' first
      | (with_reducible exact ih0 _ _ _ _ _ _ _ _ _)
      | (with_reducible exact ipfix_Set_body.mono _ _ _ _)
      | (with_reducible exact ipfix_put.mono _ _ _)
      | (with_reducible exact octet_Put.mono _ _ _)
      | (with_reducible exact LeO.refl _)
      | (with_reducible exact LeO.none _)
      | (with_reducible refine LeO.ite ?_ ?_)
      | (with_reducible refine LeO.bind ?_ (fun _ => ?_))
      | exact ih0 _ _ _ _ _ _ _ _ _
      | exact ipfix_Set_body.mono _ _ _ _
      | exact ipfix_put.mono _ _ _
      | exact octet_Put.mono _ _ _
      | exact LeO.none _
      | refine LeO.ite ?_ ?_
      | refine LeO.bind ?_ (fun _ => ?_)
def ipfix_Put.T16 : Bool × List (List Nat × List Nat) := (true, [([], []), ([], []), ([0, 1], [0, 1]), ([], []), ([3], [3]), ([4, 0], [4]), ([2, 5], [2, 5]), ([], []), ([7], [7]), ([8, 5], [8]), ([6, 9], [6, 9]), ([], []), ([11], [11]), ([12, 9], [12]), ([10, 13], [10, 13]), ([13], []), ([14, 15], [14, 15]), ([16, 15, 0, 1, 2, 3, 4, 5, 6, 7, 8, 9, 10, 11, 12, 13, 14, 15, 16], [16]), ([17, 0, 1, 2, 3, 4, 5, 6, 7, 8, 9, 10, 11, 12, 13, 14, 15, 16, 17], [])])
def ipfix_Put.B16 : List Nat := [0, 0, 3, 0, 8, 25, 63, 0, 128, 441, 1023, 0, 2048, 7097, 16383, 15289, 65535, 131071, 262143]
theorem ipfix_Put.tab16 : rtab .any (opsOf Try.f10 16) = ipfix_Put.T16 := by kernel_rfl
theorem ipfix_Put.bits16 : waitsOk ipfix_Put.T16.2 ipfix_Put.B16 = true := by kernel_rfl
set_option maxHeartbeats 8000000 in
set_option maxRecDepth 100000 in
theorem ipfix_Put.calls (k : Nat) (a0_0 : Int) (a0_1 : Int) (a0_2 : Int) (A0_3 : Option Addr) (c0_3 : Nat) (l0_3 : List (S29)) (r1 : ByteArray) (r2 : Int) (w : World) (hr0_3 : Kd.C k29 w A0_3 l0_3.length l0_3) (hc0_3 : l0_3.length ≤ c0_3) (h : ipfix_Put.f k a0_0 a0_1 a0_2 l0_3 = some (r1, r2)) :
    Calls Try.prog 10 #[.agg #[.int .i64 a0_0, .int .i64 a0_1, .int .i64 a0_2, .slice A0_3 l0_3.length c0_3]] w fun e w' => e = .returned (.tuple #[.string r1, .int .i64 r2]) ∧ Below w.heap.size w w' := by
  have hu32 := Try.underlying32
  have hu29 := Try.underlying29
  have HR0_3 := Aside0.mk hr0_3
  have HC0_3 := Aside0.mk hc0_3
  clear hr0_3 hc0_3
  have HB := Aside0.mk (Below.refl w.heap.size w)
  have H : ((ipfix_Right.f a0_0 a0_1 a0_2 l0_3).bind fun t168 => (if t168 = true then ((abi_NoEscape.f (⟨#[]⟩ : ByteArray)).bind fun bt169 => (ipfix_Put.l0 k l0_3 (l0_3.length : Int) 0 a0_0 a0_1 a0_2 l0_3 bt169.1 bt169.2)) else (some ((⟨#[]⟩ : ByteArray), 1)))) = some (r1, r2) := h
  clear h
  replace H := Option.bind_eq_some_iff.mp H
  obtain ⟨t168, A20, H⟩ := H
  replace H : (if t168 = true then ((abi_NoEscape.f (⟨#[]⟩ : ByteArray)).bind fun bt169 => (ipfix_Put.l0 k l0_3 (l0_3.length : Int) 0 a0_0 a0_1 a0_2 l0_3 bt169.1 bt169.2)) else (some ((⟨#[]⟩ : ByteArray), 1))) = some (r1, r2) := H
  have A2 := Aside0.mk A20
  clear A20
  by_cases c3 : t168 = true
  · subst c3
    have H1 : ((abi_NoEscape.f (⟨#[]⟩ : ByteArray)).bind fun bt169 => (ipfix_Put.l0 k l0_3 (l0_3.length : Int) 0 a0_0 a0_1 a0_2 l0_3 bt169.1 bt169.2)) = some (r1, r2) := by rw [if_pos rfl] at H; exact H
    clear H
    have H := H1
    clear H1
    replace H := Option.bind_eq_some_iff.mp H
    obtain ⟨⟨t169, t170⟩, A40, H⟩ := H
    replace H : (ipfix_Put.l0 k l0_3 (l0_3.length : Int) 0 a0_0 a0_1 a0_2 l0_3 t169 t170) = some (r1, r2) := H
    have A4 := Aside0.mk A40
    clear A40
    have H' := Aside0.mk H
    clear H
    go_enter Try.func10, Try.ntmps10
    go_wp2_with (first | ((with_reducible refine gate_dst (N := 1) rfl ?_); refine box_event ?hg (N := 1) ?hd (cs := #[.int .i64 a0_0, .int .i64 a0_1, .int .i64 a0_2, .slice A0_3 l0_3.length c0_3]) (t := 32) ?hr ?_; (case hd => rfl); (case hg => rfl); (case hr => first | (go_simp; done) | (go_simp; rfl)); intro gb167 hg w5 hbox hb; have n0_ := Aside0.mk (below_step (by repeat (first | (with_reducible first | exact HB.out | apply below_alloc | apply pw_below_drewN | apply below_drew1) | exact HB.out)) hb); have n1_ := Aside0.mk (hbox); have n2_ := Aside0.mk ((by rw [hg]; exact (below_size (by repeat (first | (with_reducible first | exact HB.out | apply below_alloc | apply pw_below_drewN | apply below_drew1) | exact HB.out))) : w.heap.size ≤ gb167)); have n3_ := Aside0.mk ((by rw [hg]; exact (below_size (by repeat (first | (with_reducible first | exact HB.out | apply below_alloc | apply pw_below_drewN | apply below_drew1) | exact HB.out))) : w.heap.size ≤ gb167)); clear HB; have HB := n0_; have BK167 := n1_; have GW167 := n2_; have GE167 := n3_; clear n0_ n1_ n2_ n3_; clear hb hbox hg; have hcz6_0 : w5.cell? ⟨gb167, 0, none⟩ = some (.int .i64 a0_0) := (blk_cell BK167.out 0).trans rfl; have hcz6_1 : w5.cell? ⟨gb167, 1, none⟩ = some (.int .i64 a0_1) := (blk_cell BK167.out 1).trans rfl; have hcz6_2 : w5.cell? ⟨gb167, 2, none⟩ = some (.int .i64 a0_2) := (blk_cell BK167.out 2).trans rfl; have hcz6_3 : w5.cell? ⟨gb167, 3, none⟩ = some (.slice A0_3 l0_3.length c0_3) := (blk_cell BK167.out 3).trans rfl; have hfz6_0 := blk_frozen BK167.out 0; have hfz6_1 := blk_frozen BK167.out 1; have hfz6_2 := blk_frozen BK167.out 2; have hfz6_3 := blk_frozen BK167.out 3) | ((with_reducible refine gate_callee (f := 23) rfl ?_); refine goesL_ (some 13) rfl rfl Try.func23 (by kernel_rfl) rfl #[.agg #[.int .i64 a0_0, .int .i64 a0_1, .int .i64 a0_2, .slice A0_3 l0_3.length c0_3]] rfl (by (try simp only [List.map_toArray, List.map_cons, List.map_nil]); first | done | rfl | (simp only [List.length_drop, List.length_take]; rfl)) ?_; (with_reducible refine (ipfix_Right.calls a0_0 a0_1 a0_2 _ _ l0_3 true _ ?side1 ?side2 A2.out).mono ?_); (case side1 => repeat (first | exact (Kd.C_below HR0_3.out HB.out) | (with_reducible refine Kd.C_alloc ?_ _) | (with_reducible refine Kd.C_drewN ?_ _) | (with_reducible refine Kd.C_drew ?_))); (case side2 => exact HC0_3.out); rintro e w7 ⟨rfl, hb⟩; refine ⟨_, rfl, ?_⟩; have n0_ := Aside0.mk (blk_below (g := gb167) (o := .cells #[.int .i64 a0_0, .int .i64 a0_1, .int .i64 a0_2, .slice A0_3 l0_3.length c0_3] 32 (0, 0)) (by (with_reducible repeat (first | refine blk_drewN ?_ _ | refine blk_drew ?_ | refine blk_alloc ?_ _)); exact BK167.out) hb); have n1_ := Aside0.mk (below_step (by repeat (first | (with_reducible first | exact HB.out | apply below_alloc | apply pw_below_drewN | apply below_drew1 | refine below_set ?_ GE167.out) | exact HB.out)) hb); clear BK167; clear HB; have BK167 := n0_; have HB := n1_; clear n0_ n1_; (try clear hb); (try clear hb2); (try clear hk); (try clear hi)) | ((with_reducible refine gate_dst (N := 4) rfl ?_); refine box_event ?hg (N := 4) ?hd (cs := #[.pointer none, .slice none 0 0]) (t := 72) ?hr ?_; (case hd => rfl); (case hg => rfl); (case hr => first | (go_simp; done) | (go_simp; rfl)); intro g171 hg_ w8 hbox_ hb2; have hb := below_step (by repeat (first | (with_reducible first | exact HB.out | apply below_alloc | apply pw_below_drewN | apply below_drew1 | refine below_set ?_ GE167.out) | exact HB.out)) hb2; have hge_ : w.heap.size ≤ g171 := (by rw [hg_]; exact (below_size (by repeat (first | (with_reducible first | exact HB.out | apply below_alloc | apply pw_below_drewN | apply below_drew1 | refine below_set ?_ GE167.out) | exact HB.out)))); have hi := Built.IsBld.new (w0 := w) (W := w8) (g := g171) (f0 := t169) (f1 := t170) hbox_ hge_ (by have h_ := A4.out; simp only [abi_NoEscape.f, Option.some.injEq, Prod.mk.injEq] at h_; exact h_.1.symm); clear hge_ hbox_ hg_; have n0_ := Aside0.mk (blk_below (g := gb167) (o := .cells #[.int .i64 a0_0, .int .i64 a0_1, .int .i64 a0_2, .slice A0_3 l0_3.length c0_3] 32 (0, 0)) (by (with_reducible repeat (first | refine blk_drewN ?_ _ | refine blk_drew ?_ | refine blk_alloc ?_ _)); exact BK167.out) hb2); have n1_ := Aside0.mk (hb); have n2_ := Aside0.mk (hi); have n3_ := Aside0.mk (Built.IsBld.ne_blk hi (blk_below (g := gb167) (o := .cells #[.int .i64 a0_0, .int .i64 a0_1, .int .i64 a0_2, .slice A0_3 l0_3.length c0_3] 32 (0, 0)) (by (with_reducible repeat (first | refine blk_drewN ?_ _ | refine blk_drew ?_ | refine blk_alloc ?_ _)); exact BK167.out) hb2) (by decide)); have n4_ := Aside0.mk (Ne.symm (Built.IsBld.ne_blk hi (blk_below (g := gb167) (o := .cells #[.int .i64 a0_0, .int .i64 a0_1, .int .i64 a0_2, .slice A0_3 l0_3.length c0_3] 32 (0, 0)) (by (with_reducible repeat (first | refine blk_drewN ?_ _ | refine blk_drew ?_ | refine blk_alloc ?_ _)); exact BK167.out) hb2) (by decide))); clear BK167; clear HB; have BK167 := n0_; have HB := n1_; have HI171 := n2_; have NB171_167 := n3_; have NB167_171 := n4_; clear n0_ n1_ n2_ n3_ n4_; (try clear hb); (try clear hb2); (try clear hk); (try clear hi); have hnb9 := NB167_171.out; have hnc9 := NB171_167.out; have hcz10_0 : w8.cell? ⟨gb167, 0, none⟩ = some (.int .i64 a0_0) := (blk_cell BK167.out 0).trans rfl; have hcz10_1 : w8.cell? ⟨gb167, 1, none⟩ = some (.int .i64 a0_1) := (blk_cell BK167.out 1).trans rfl; have hcz10_2 : w8.cell? ⟨gb167, 2, none⟩ = some (.int .i64 a0_2) := (blk_cell BK167.out 2).trans rfl; have hcz10_3 : w8.cell? ⟨gb167, 3, none⟩ = some (.slice A0_3 l0_3.length c0_3) := (blk_cell BK167.out 3).trans rfl; have hfz10_0 := blk_frozen BK167.out 0; have hfz10_1 := blk_frozen BK167.out 1; have hfz10_2 := blk_frozen BK167.out 2; have hfz10_3 := blk_frozen BK167.out 3))
    go_loopg [18] k (fun kq v18 w' => ∃ (x18_1 : Int) (x172000_1 : ByteArray) (x172001_1 : Bool), v18 = .int .i64 x18_1 ∧ Aside0 (ipfix_Put.l0 kq l0_3 (l0_3.length : Int) x18_1 a0_0 a0_1 a0_2 l0_3 x172000_1 x172001_1 = some (r1, r2)) ∧ Aside0 (kq ≤ k) ∧ Aside0 (w'.heap[gb167]? = some (.cells #[.int .i64 a0_0, .int .i64 a0_1, .int .i64 a0_2, (.slice A0_3 l0_3.length c0_3)] 32 (0, 0))) ∧ Aside0 (Built.IsBld w w' g171 x172000_1 x172001_1) ∧ Aside0 (Below w.heap.size w w'))
    case atStart => exact ⟨(0), (t169), (t170), (by first | rfl | (simp; done) | (simp [*]; done)), H', ⟨Nat.le_refl _⟩, ⟨by (with_reducible repeat (first | refine blk_drewN ?_ _ | refine blk_drew ?_ | refine blk_alloc ?_ _)); exact BK167.out⟩, ⟨by repeat (first | (with_reducible first | exact HI171.out | apply Built.IsBld.alloc | apply Built.IsBld.drewN | apply Built.IsBld.drew | refine Built.IsBld.far ?_ NB171_167.out _ (by (with_reducible repeat (first | apply Built.NonB.set | apply Built.NonB.drewN | apply Built.NonB.drew)); exact Built.NonB.of BK167.out (by simp))) | exact HI171.out)⟩, ⟨by repeat (first | (with_reducible first | exact HB.out | apply below_alloc | apply pw_below_drewN | apply below_drew1 | refine below_set ?_ (Built.IsBld.ge HI171.out) | refine below_set ?_ GE167.out) | exact HB.out)⟩⟩
    case round =>
      clear H'
      try clear c1
      try clear c2
      try clear p2
      try clear c3
      try clear c5
      try clear c9
      try clear c10
      try clear hcz10_0
      try clear hcz10_1
      try clear hcz10_2
      try clear hcz10_3
      try clear hcz6_0
      try clear hcz6_1
      try clear hcz6_2
      try clear hcz6_3
      try clear hfz10_0
      try clear hfz10_1
      try clear hfz10_2
      try clear hfz10_3
      try clear hfz6_0
      try clear hfz6_1
      try clear hfz6_2
      try clear hfz6_3
      obtain ⟨x18_1, x172000_1, x172001_1, rfl, HA, HK1, BK167, HI171, HB⟩ := hrel
      cases gk with
      | zero => exact absurd HA.out (by simp [ipfix_Put.l0])
      | succ k1 =>
        have H := HA.out
        clear HA
        simp only [ipfix_Put.l0] at H
        by_cases c11 : x18_1 < (l0_3.length : Int)
        · rw [if_pos c11] at H
          have c11b0 : decide (x18_1 < (l0_3.length : Int)) = true := decide_eq_true c11
          clear c11
          by_cases c12 : 0 ≤ x18_1
          · rw [if_pos c12] at H
            have c12b0 : decide (0 ≤ x18_1) = true := decide_eq_true c12
            clear c12
            by_cases c13 : x18_1 < (l0_3.length : Int)
            · rw [if_pos c13] at H
              have c13b0 : decide (x18_1 < (l0_3.length : Int)) = true := decide_eq_true c13
              clear c13
              replace H := Option.bind_eq_some_iff.mp H
              obtain ⟨t174, A140, H⟩ := H
              replace H : ((octet_Put.f k1 (wrap64 ((t174.size : Int) + 4)) 2).bind fun bt175 => (if bt175.2 = 0 then ((ipfix_put.f k1 ((rd_T29 l0_3 x18_1).f0) 2).bind fun t177 => (if t177.size + bt175.1.size ≤ 9223372036854775807 then (if (t177 ++ bt175.1).size + t174.size ≤ 9223372036854775807 then ((strings_Builder_WriteString.f x172000_1 x172001_1 ((t177 ++ bt175.1) ++ t174)).bind fun bt178 => (ipfix_Put.l0 k1 l0_3 (l0_3.length : Int) (wrap64 (x18_1 + 1)) a0_0 a0_1 a0_2 l0_3 bt178.2.2.1 bt178.2.2.2)) else (none)) else (none))) else (some ((⟨#[]⟩ : ByteArray), 4)))) = some (r1, r2) := H
              have A14 := Aside0.mk A140
              clear A140
              replace H := Option.bind_eq_some_iff.mp H
              obtain ⟨⟨t175, t176⟩, A150, H⟩ := H
              replace H : (if t176 = 0 then ((ipfix_put.f k1 ((rd_T29 l0_3 x18_1).f0) 2).bind fun t177 => (if t177.size + t175.size ≤ 9223372036854775807 then (if (t177 ++ t175).size + t174.size ≤ 9223372036854775807 then ((strings_Builder_WriteString.f x172000_1 x172001_1 ((t177 ++ t175) ++ t174)).bind fun bt178 => (ipfix_Put.l0 k1 l0_3 (l0_3.length : Int) (wrap64 (x18_1 + 1)) a0_0 a0_1 a0_2 l0_3 bt178.2.2.1 bt178.2.2.2)) else (none)) else (none))) else (some ((⟨#[]⟩ : ByteArray), 4))) = some (r1, r2) := H
              have A15 := Aside0.mk A150
              clear A150
              by_cases c16 : t176 = 0
              · rw [if_pos c16] at H
                have c16b0 : (t176 == 0) = true := beq_iff_eq.mpr c16
                have c16b1 : (t176 != 0) = false := bne_eq_false_iff_eq.mpr c16
                clear c16
                replace H := Option.bind_eq_some_iff.mp H
                obtain ⟨t177, A170, H⟩ := H
                replace H : (if t177.size + t175.size ≤ 9223372036854775807 then (if (t177 ++ t175).size + t174.size ≤ 9223372036854775807 then ((strings_Builder_WriteString.f x172000_1 x172001_1 ((t177 ++ t175) ++ t174)).bind fun bt178 => (ipfix_Put.l0 k1 l0_3 (l0_3.length : Int) (wrap64 (x18_1 + 1)) a0_0 a0_1 a0_2 l0_3 bt178.2.2.1 bt178.2.2.2)) else (none)) else (none)) = some (r1, r2) := H
                have A17 := Aside0.mk A170
                clear A170
                by_cases c18 : t177.size + t175.size ≤ 9223372036854775807
                · rw [if_pos c18] at H
                  have c18b0 := eq_true c18
                  have c18b1 : decide (t177.size + t175.size ≤ 9223372036854775807) = true := decide_eq_true c18
                  try have c18b2 : (9223372036854775807 < t177.size + t175.size) = False := eq_false (Nat.not_lt.2 c18)
                  by_cases c19 : (t177 ++ t175).size + t174.size ≤ 9223372036854775807
                  · rw [if_pos c19] at H
                    have c19b0 := eq_true c19
                    have c19b1 : decide ((t177 ++ t175).size + t174.size ≤ 9223372036854775807) = true := decide_eq_true c19
                    try have c19b2 : (9223372036854775807 < (t177 ++ t175).size + t174.size) = False := eq_false (Nat.not_lt.2 c19)
                    try (have c19b3 := c19b2; simp only [ByteArray.size_append] at c19b3)
                    replace H := Option.bind_eq_some_iff.mp H
                    obtain ⟨⟨t178, t179, t180, t181⟩, A200, H⟩ := H
                    replace H : (ipfix_Put.l0 k1 l0_3 (l0_3.length : Int) (wrap64 (x18_1 + 1)) a0_0 a0_1 a0_2 l0_3 t180 t181) = some (r1, r2) := H
                    have A20 := Aside0.mk A200
                    clear A200
                    have H' := Aside0.mk H
                    clear H
                    have p172 : 0 ≤ (x18_1 : Int) := of_decide_eq_true (by first | (with_reducible assumption) | assumption)
                    have q172 : x18_1 < (l0_3.length : Int) := of_decide_eq_true (by first | (with_reducible assumption) | assumption)
                    obtain ⟨ad172, A172_1, c172_1, e172, hx172_0, hx172_1, hx172_2, hl172_1, hi172_1⟩ := at_T29 HR0_3.out x18_1 p172 q172
                    cases e172
                    (try replace hx172_0 := (HB.out.cell (World.block_lt_of_cell? w _ hx172_0)).trans hx172_0)
                    (try replace hx172_1 := (HB.out.cell (World.block_lt_of_cell? w _ hx172_1)).trans hx172_1)
                    (try replace hx172_2 := (HB.out.cell (World.block_lt_of_cell? w _ hx172_2)).trans hx172_2)
                    have HR172_1 := Aside0.mk hi172_1
                    have HC172_1 := Aside0.mk hl172_1
                    clear hi172_1 hl172_1
                    replace p172 := eq_true p172
                    replace q172 := eq_true q172
                    go_wp2_with (first | ((with_reducible refine gate_dst (N := 6) rfl ?_); refine box_event ?hg (N := 6) ?hd (cs := #[.int .i64 0, .slice none 0 0, .string (⟨#[]⟩ : ByteArray)]) (t := 29) ?hr ?_; (case hd => rfl); (case hg => rfl); (case hr => first | (go_simp; done) | (go_simp; rfl)); intro gb173 hg w21 hbox hb; have n0_ := Aside0.mk (blk_below (g := gb167) (o := .cells #[.int .i64 a0_0, .int .i64 a0_1, .int .i64 a0_2, .slice (some ad172) l0_3.length c0_3] 32 (0, 0)) (by (with_reducible repeat (first | refine blk_drewN ?_ _ | refine blk_drew ?_ | refine blk_alloc ?_ _)); exact BK167.out) hb); have n1_ := Aside0.mk (Built.IsBld.below (by repeat (first | (with_reducible first | exact HI171.out | apply Built.IsBld.alloc | apply Built.IsBld.drewN | apply Built.IsBld.drew | refine Built.IsBld.far ?_ NB171_167.out _ (by (with_reducible repeat (first | apply Built.NonB.set | apply Built.NonB.drewN | apply Built.NonB.drew)); exact Built.NonB.of BK167.out (by simp))) | exact HI171.out)) hb); have n2_ := Aside0.mk (below_step (by repeat (first | (with_reducible first | exact HB.out | apply below_alloc | apply pw_below_drewN | apply below_drew1 | refine below_set ?_ (Built.IsBld.ge HI171.out) | refine below_set ?_ GE167.out) | exact HB.out)) hb); have n3_ := Aside0.mk (hbox); have n4_ := Aside0.mk ((by rw [hg]; exact (below_size (by repeat (first | (with_reducible first | exact HB.out | apply below_alloc | apply pw_below_drewN | apply below_drew1 | refine below_set ?_ (Built.IsBld.ge HI171.out) | refine below_set ?_ GE167.out) | exact HB.out))) : w.heap.size ≤ gb173)); have n5_ := Aside0.mk ((by rw [hg]; exact (below_size (by repeat (first | (with_reducible first | exact HB.out | apply below_alloc | apply pw_below_drewN | apply below_drew1 | refine below_set ?_ (Built.IsBld.ge HI171.out) | refine below_set ?_ GE167.out) | exact HB.out))) : w.heap.size ≤ gb173)); have n6_ := Aside0.mk ((by rw [hg]; exact Nat.ne_of_lt (blk_lt (g := gb167) (o := .cells #[.int .i64 a0_0, .int .i64 a0_1, .int .i64 a0_2, .slice (some ad172) l0_3.length c0_3] 32 (0, 0)) (by (with_reducible repeat (first | refine blk_drewN ?_ _ | refine blk_drew ?_ | refine blk_alloc ?_ _)); exact BK167.out)) : gb167 ≠ gb173)); have n7_ := Aside0.mk ((by rw [hg]; exact Nat.ne_of_gt (blk_lt (g := gb167) (o := .cells #[.int .i64 a0_0, .int .i64 a0_1, .int .i64 a0_2, .slice (some ad172) l0_3.length c0_3] 32 (0, 0)) (by (with_reducible repeat (first | refine blk_drewN ?_ _ | refine blk_drew ?_ | refine blk_alloc ?_ _)); exact BK167.out)) : gb173 ≠ gb167)); have n8_ := Aside0.mk ((by rw [hg]; exact Nat.ne_of_lt (Built.IsBld.lt (show Built.IsBld w _ g171 x172000_1 x172001_1 from by repeat (first | (with_reducible first | exact HI171.out | apply Built.IsBld.alloc | apply Built.IsBld.drewN | apply Built.IsBld.drew | refine Built.IsBld.far ?_ NB171_167.out _ (by (with_reducible repeat (first | apply Built.NonB.set | apply Built.NonB.drewN | apply Built.NonB.drew)); exact Built.NonB.of BK167.out (by simp))) | exact HI171.out))) : g171 ≠ gb173)); have n9_ := Aside0.mk ((by rw [hg]; exact Nat.ne_of_gt (Built.IsBld.lt (show Built.IsBld w _ g171 x172000_1 x172001_1 from by repeat (first | (with_reducible first | exact HI171.out | apply Built.IsBld.alloc | apply Built.IsBld.drewN | apply Built.IsBld.drew | refine Built.IsBld.far ?_ NB171_167.out _ (by (with_reducible repeat (first | apply Built.NonB.set | apply Built.NonB.drewN | apply Built.NonB.drew)); exact Built.NonB.of BK167.out (by simp))) | exact HI171.out))) : gb173 ≠ g171)); clear BK167; clear HI171; clear HB; have BK167 := n0_; have HI171 := n1_; have HB := n2_; have BK173 := n3_; have GW173 := n4_; have GE173 := n5_; have NB167_173 := n6_; have NB173_167 := n7_; have NB171_173 := n8_; have NB173_171 := n9_; clear n0_ n1_ n2_ n3_ n4_ n5_ n6_ n7_ n8_ n9_; clear hb hbox hg; have hnb22 := NB173_167.out; have hnc22 := NB167_173.out; have hnb23 := NB173_171.out; have hnc23 := NB171_173.out; have hcz24_0 : w21.cell? ⟨gb173, 0, none⟩ = some (.int .i64 0) := (blk_cell BK173.out 0).trans rfl; have hcz24_1 : w21.cell? ⟨gb173, 1, none⟩ = some (.slice none 0 0) := (blk_cell BK173.out 1).trans rfl; have hcz24_2 : w21.cell? ⟨gb173, 2, none⟩ = some (.string (⟨#[]⟩ : ByteArray)) := (blk_cell BK173.out 2).trans rfl; have hfz24_0 := blk_frozen BK173.out 0; have hfz24_1 := blk_frozen BK173.out 1; have hfz24_2 := blk_frozen BK173.out 2) | ((with_reducible refine gate_callee (f := 28) rfl ?_); refine goesL_ (some 23) rfl rfl Try.func28 (by kernel_rfl) rfl #[.agg #[.int .i64 ((rd_T29 l0_3 x18_1).f0), .slice A172_1 ((rd_T29 l0_3 x18_1).f1).length c172_1, .string ((rd_T29 l0_3 x18_1).f2)]] rfl (by (try simp only [List.map_toArray, List.map_cons, List.map_nil]); first | done | rfl | (simp only [List.length_drop, List.length_take]; rfl)) ?_; (with_reducible refine (ipfix_Set_body.calls k1 ((rd_T29 l0_3 x18_1).f0) _ _ ((rd_T29 l0_3 x18_1).f1) ((rd_T29 l0_3 x18_1).f2) t174 _ ?side1 ?side2 A14.out).mono ?_); (case side1 => exact Kd.C_below HR172_1.out (by repeat (first | (with_reducible first | exact HB.out | apply below_alloc | apply pw_below_drewN | apply below_drew1 | refine below_set ?_ (Built.IsBld.ge HI171.out) | refine below_set ?_ GE167.out | refine below_set ?_ GE173.out) | exact HB.out))); (case side2 => exact HC172_1.out); rintro e w25 ⟨rfl, hb⟩; refine ⟨_, rfl, ?_⟩; have n0_ := Aside0.mk (blk_below (g := gb167) (o := .cells #[.int .i64 a0_0, .int .i64 a0_1, .int .i64 a0_2, .slice (some ad172) l0_3.length c0_3] 32 (0, 0)) (by (with_reducible repeat (first | refine blk_drewN ?_ _ | refine blk_drew ?_ | refine blk_alloc ?_ _)); refine blk_far ?_ NB167_173.out _; (with_reducible repeat (first | refine blk_drewN ?_ _ | refine blk_drew ?_ | refine blk_alloc ?_ _)); refine blk_far ?_ NB167_173.out _; (with_reducible repeat (first | refine blk_drewN ?_ _ | refine blk_drew ?_ | refine blk_alloc ?_ _)); refine blk_far ?_ NB167_173.out _; (with_reducible repeat (first | refine blk_drewN ?_ _ | refine blk_drew ?_ | refine blk_alloc ?_ _)); exact BK167.out) hb); have n1_ := Aside0.mk (Built.IsBld.below (show Built.IsBld w (((w21.setCell ⟨gb173, 0, none⟩ (.int .i64 ((rd_T29 l0_3 x18_1).f0))).setCell ⟨gb173, 1, none⟩ (.slice A172_1 ((rd_T29 l0_3 x18_1).f1).length c172_1)).setCell ⟨gb173, 2, none⟩ (.string ((rd_T29 l0_3 x18_1).f2))) g171 x172000_1 x172001_1 from by repeat (first | (with_reducible first | exact HI171.out | apply Built.IsBld.alloc | apply Built.IsBld.drewN | apply Built.IsBld.drew | refine Built.IsBld.far ?_ NB171_167.out _ (by (with_reducible repeat (first | apply Built.NonB.set | apply Built.NonB.drewN | apply Built.NonB.drew)); exact Built.NonB.of BK167.out (by simp)) | refine Built.IsBld.far ?_ NB171_173.out _ (by (with_reducible repeat (first | apply Built.NonB.set | apply Built.NonB.drewN | apply Built.NonB.drew)); exact Built.NonB.of BK173.out (by simp))) | exact HI171.out)) hb); have n2_ := Aside0.mk (blk_below (g := gb173) (o := .cells #[.int .i64 ((rd_T29 l0_3 x18_1).f0), .slice A172_1 ((rd_T29 l0_3 x18_1).f1).length c172_1, .string ((rd_T29 l0_3 x18_1).f2)] 29 (0, 0)) (by (with_reducible repeat (first | refine blk_drewN ?_ _ | refine blk_drew ?_ | refine blk_alloc ?_ _)); refine blk_put (cs := #[.int .i64 ((rd_T29 l0_3 x18_1).f0), .slice A172_1 ((rd_T29 l0_3 x18_1).f1).length c172_1, .string (⟨#[]⟩ : ByteArray)]) ?_ 2 _ rfl; (with_reducible repeat (first | refine blk_drewN ?_ _ | refine blk_drew ?_ | refine blk_alloc ?_ _)); refine blk_put (cs := #[.int .i64 ((rd_T29 l0_3 x18_1).f0), .slice none 0 0, .string (⟨#[]⟩ : ByteArray)]) ?_ 1 _ rfl; (with_reducible repeat (first | refine blk_drewN ?_ _ | refine blk_drew ?_ | refine blk_alloc ?_ _)); refine blk_put (cs := #[.int .i64 0, .slice none 0 0, .string (⟨#[]⟩ : ByteArray)]) ?_ 0 _ rfl; (with_reducible repeat (first | refine blk_drewN ?_ _ | refine blk_drew ?_ | refine blk_alloc ?_ _)); exact BK173.out) hb); have n3_ := Aside0.mk (below_step (by repeat (first | (with_reducible first | exact HB.out | apply below_alloc | apply pw_below_drewN | apply below_drew1 | refine below_set ?_ (Built.IsBld.ge HI171.out) | refine below_set ?_ GE167.out | refine below_set ?_ GE173.out) | exact HB.out)) hb); clear BK167; clear HI171; clear BK173; clear HB; have BK167 := n0_; have HI171 := n1_; have BK173 := n2_; have HB := n3_; clear n0_ n1_ n2_ n3_; (try clear hb); (try clear hb2); (try clear hk); (try clear hi)) | ((with_reducible refine gate_callee (f := 29) rfl ?_); refine goesL_ (some 28) rfl rfl Try.func29 (by kernel_rfl) rfl #[.int .i64 (wrap64 ((t174.size : Int) + 4)), .int .i64 2] rfl (by (try simp only [List.map_toArray, List.map_cons, List.map_nil]); first | done | rfl | (simp only [List.length_drop, List.length_take]; rfl)) ?_; (with_reducible refine (octet_Put.calls k1 (wrap64 ((t174.size : Int) + 4)) 2 t175 t176 _ A15.out).mono ?_); rintro e w26 ⟨rfl, hb⟩; refine ⟨_, rfl, ?_⟩; have n0_ := Aside0.mk (blk_below (g := gb167) (o := .cells #[.int .i64 a0_0, .int .i64 a0_1, .int .i64 a0_2, .slice (some ad172) l0_3.length c0_3] 32 (0, 0)) (by (with_reducible repeat (first | refine blk_drewN ?_ _ | refine blk_drew ?_ | refine blk_alloc ?_ _)); exact BK167.out) hb); have n1_ := Aside0.mk (Built.IsBld.below (by repeat (first | (with_reducible first | exact HI171.out | apply Built.IsBld.alloc | apply Built.IsBld.drewN | apply Built.IsBld.drew | refine Built.IsBld.far ?_ NB171_167.out _ (by (with_reducible repeat (first | apply Built.NonB.set | apply Built.NonB.drewN | apply Built.NonB.drew)); exact Built.NonB.of BK167.out (by simp)) | refine Built.IsBld.far ?_ NB171_173.out _ (by (with_reducible repeat (first | apply Built.NonB.set | apply Built.NonB.drewN | apply Built.NonB.drew)); exact Built.NonB.of BK173.out (by simp))) | exact HI171.out)) hb); have n2_ := Aside0.mk (blk_below (g := gb173) (o := .cells #[.int .i64 ((rd_T29 l0_3 x18_1).f0), .slice A172_1 ((rd_T29 l0_3 x18_1).f1).length c172_1, .string ((rd_T29 l0_3 x18_1).f2)] 29 (0, 0)) (by (with_reducible repeat (first | refine blk_drewN ?_ _ | refine blk_drew ?_ | refine blk_alloc ?_ _)); exact BK173.out) hb); have n3_ := Aside0.mk (below_step (by repeat (first | (with_reducible first | exact HB.out | apply below_alloc | apply pw_below_drewN | apply below_drew1 | refine below_set ?_ (Built.IsBld.ge HI171.out) | refine below_set ?_ GE167.out | refine below_set ?_ GE173.out) | exact HB.out)) hb); clear BK167; clear HI171; clear BK173; clear HB; have BK167 := n0_; have HI171 := n1_; have BK173 := n2_; have HB := n3_; clear n0_ n1_ n2_ n3_; (try clear hb); (try clear hb2); (try clear hk); (try clear hi); have hcz27_0 : w26.cell? ⟨gb173, 0, none⟩ = some (.int .i64 ((rd_T29 l0_3 x18_1).f0)) := (blk_cell BK173.out 0).trans rfl; have hcz27_1 : w26.cell? ⟨gb173, 1, none⟩ = some (.slice A172_1 ((rd_T29 l0_3 x18_1).f1).length c172_1) := (blk_cell BK173.out 1).trans rfl; have hcz27_2 : w26.cell? ⟨gb173, 2, none⟩ = some (.string ((rd_T29 l0_3 x18_1).f2)) := (blk_cell BK173.out 2).trans rfl; have hfz27_0 := blk_frozen BK173.out 0; have hfz27_1 := blk_frozen BK173.out 1; have hfz27_2 := blk_frozen BK173.out 2) | ((with_reducible refine gate_callee (f := 31) rfl ?_); refine goesL_ (some 35) rfl rfl Try.func31 (by kernel_rfl) rfl #[.int .i64 ((rd_T29 l0_3 x18_1).f0), .int .i64 2] rfl (by (try simp only [List.map_toArray, List.map_cons, List.map_nil]); first | done | rfl | (simp only [List.length_drop, List.length_take]; rfl)) ?_; (with_reducible refine (ipfix_put.calls k1 ((rd_T29 l0_3 x18_1).f0) 2 t177 _ A17.out).mono ?_); rintro e w28 ⟨rfl, hb⟩; refine ⟨_, rfl, ?_⟩; have n0_ := Aside0.mk (blk_below (g := gb167) (o := .cells #[.int .i64 a0_0, .int .i64 a0_1, .int .i64 a0_2, .slice (some ad172) l0_3.length c0_3] 32 (0, 0)) (by (with_reducible repeat (first | refine blk_drewN ?_ _ | refine blk_drew ?_ | refine blk_alloc ?_ _)); exact BK167.out) hb); have n1_ := Aside0.mk (Built.IsBld.below (by repeat (first | (with_reducible first | exact HI171.out | apply Built.IsBld.alloc | apply Built.IsBld.drewN | apply Built.IsBld.drew | refine Built.IsBld.far ?_ NB171_167.out _ (by (with_reducible repeat (first | apply Built.NonB.set | apply Built.NonB.drewN | apply Built.NonB.drew)); exact Built.NonB.of BK167.out (by simp)) | refine Built.IsBld.far ?_ NB171_173.out _ (by (with_reducible repeat (first | apply Built.NonB.set | apply Built.NonB.drewN | apply Built.NonB.drew)); exact Built.NonB.of BK173.out (by simp))) | exact HI171.out)) hb); have n2_ := Aside0.mk (blk_below (g := gb173) (o := .cells #[.int .i64 ((rd_T29 l0_3 x18_1).f0), .slice A172_1 ((rd_T29 l0_3 x18_1).f1).length c172_1, .string ((rd_T29 l0_3 x18_1).f2)] 29 (0, 0)) (by (with_reducible repeat (first | refine blk_drewN ?_ _ | refine blk_drew ?_ | refine blk_alloc ?_ _)); exact BK173.out) hb); have n3_ := Aside0.mk (below_step (by repeat (first | (with_reducible first | exact HB.out | apply below_alloc | apply pw_below_drewN | apply below_drew1 | refine below_set ?_ (Built.IsBld.ge HI171.out) | refine below_set ?_ GE167.out | refine below_set ?_ GE173.out) | exact HB.out)) hb); clear BK167; clear HI171; clear BK173; clear HB; have BK167 := n0_; have HI171 := n1_; have BK173 := n2_; have HB := n3_; clear n0_ n1_ n2_ n3_; (try clear hb); (try clear hb2); (try clear hk); (try clear hi)) | ((with_reducible refine gate_callee (f := 30) rfl ?_); refine goesL_ (some 40) rfl rfl Try.func30 (by kernel_rfl) rfl #[.pointer (some ⟨g171, 0, none⟩), .string ((t177 ++ t175) ++ t174)] rfl (by (try simp only [List.map_toArray, List.map_cons, List.map_nil]); first | done | rfl | (simp only [List.length_drop, List.length_take]; rfl)) ?_; (with_reducible refine (strings_Builder_WriteString.calls g171 x172000_1 x172001_1 ((t177 ++ t175) ++ t174) t178 t179 t180 t181 w _ ?side1 ?side2 A20.out).mono ?_); (case side1 => repeat (first | (with_reducible first | exact HI171.out | apply Built.IsBld.alloc | apply Built.IsBld.drewN | apply Built.IsBld.drew | refine Built.IsBld.far ?_ NB171_167.out _ (by (with_reducible repeat (first | apply Built.NonB.set | apply Built.NonB.drewN | apply Built.NonB.drew)); exact Built.NonB.of BK167.out (by simp)) | refine Built.IsBld.far ?_ NB171_173.out _ (by (with_reducible repeat (first | apply Built.NonB.set | apply Built.NonB.drewN | apply Built.NonB.drew)); exact Built.NonB.of BK173.out (by simp))) | exact HI171.out)); (case side2 => repeat (first | (with_reducible first | exact HB.out | apply below_alloc | apply pw_below_drewN | apply below_drew1 | refine below_set ?_ (Built.IsBld.ge HI171.out) | refine below_set ?_ GE167.out | refine below_set ?_ GE173.out) | exact HB.out)); rintro e w29 ⟨rfl, hi, hb, hk⟩; refine ⟨_, rfl, ?_⟩; have n0_ := Aside0.mk (Built.KeepT.blk hk (g' := gb167) (o := .cells #[.int .i64 a0_0, .int .i64 a0_1, .int .i64 a0_2, .slice (some ad172) l0_3.length c0_3] 32 (0, 0)) (by (with_reducible repeat (first | refine blk_drewN ?_ _ | refine blk_drew ?_ | refine blk_alloc ?_ _)); exact BK167.out) NB167_171.out (by simp)); have n1_ := Aside0.mk (Built.KeepT.blk hk (g' := gb173) (o := .cells #[.int .i64 ((rd_T29 l0_3 x18_1).f0), .slice A172_1 ((rd_T29 l0_3 x18_1).f1).length c172_1, .string ((rd_T29 l0_3 x18_1).f2)] 29 (0, 0)) (by (with_reducible repeat (first | refine blk_drewN ?_ _ | refine blk_drew ?_ | refine blk_alloc ?_ _)); exact BK173.out) NB173_171.out (by simp)); have n2_ := Aside0.mk (hb); have n3_ := Aside0.mk (hi); clear BK167; clear BK173; clear HB; clear HI171; have BK167 := n0_; have BK173 := n1_; have HB := n2_; have HI171 := n3_; clear n0_ n1_ n2_ n3_; (try clear hb); (try clear hb2); (try clear hk); (try clear hi); (try simp only [errW_none, errW_some])))
                    go_roundg k1
                    case measure => have := HK1.out; omega
                    case rel => exact ⟨(wrap64 (x18_1 + 1)), (t180), (t181), (by first | rfl | (simp; done) | (simp [*]; done)), H', ⟨by have := HK1.out; omega⟩, ⟨by (with_reducible repeat (first | refine blk_drewN ?_ _ | refine blk_drew ?_ | refine blk_alloc ?_ _)); exact BK167.out⟩, ⟨by repeat (first | (with_reducible first | exact HI171.out | apply Built.IsBld.alloc | apply Built.IsBld.drewN | apply Built.IsBld.drew | refine Built.IsBld.far ?_ NB171_167.out _ (by (with_reducible repeat (first | apply Built.NonB.set | apply Built.NonB.drewN | apply Built.NonB.drew)); exact Built.NonB.of BK167.out (by simp)) | refine Built.IsBld.far ?_ NB171_173.out _ (by (with_reducible repeat (first | apply Built.NonB.set | apply Built.NonB.drewN | apply Built.NonB.drew)); exact Built.NonB.of BK173.out (by simp))) | exact HI171.out)⟩, ⟨by repeat (first | (with_reducible first | exact HB.out | apply below_alloc | apply pw_below_drewN | apply below_drew1 | refine below_set ?_ (Built.IsBld.ge HI171.out) | refine below_set ?_ GE167.out | refine below_set ?_ GE173.out) | exact HB.out)⟩⟩
                  · rw [if_neg c19] at H
                    exact absurd H (by simp)
                · rw [if_neg c18] at H
                  exact absurd H (by simp)
              · rw [if_neg c16] at H
                have c16b0 : (t176 == 0) = false := beq_eq_false_iff_ne.mpr c16
                have c16b1 : (t176 != 0) = true := bne_iff_ne.mpr c16
                simp only [Option.some.injEq, Prod.mk.injEq] at H
                obtain ⟨rfl, rfl⟩ := H
                have p172 : 0 ≤ (x18_1 : Int) := of_decide_eq_true (by first | (with_reducible assumption) | assumption)
                have q172 : x18_1 < (l0_3.length : Int) := of_decide_eq_true (by first | (with_reducible assumption) | assumption)
                obtain ⟨ad172, A172_1, c172_1, e172, hx172_0, hx172_1, hx172_2, hl172_1, hi172_1⟩ := at_T29 HR0_3.out x18_1 p172 q172
                cases e172
                (try replace hx172_0 := (HB.out.cell (World.block_lt_of_cell? w _ hx172_0)).trans hx172_0)
                (try replace hx172_1 := (HB.out.cell (World.block_lt_of_cell? w _ hx172_1)).trans hx172_1)
                (try replace hx172_2 := (HB.out.cell (World.block_lt_of_cell? w _ hx172_2)).trans hx172_2)
                have HR172_1 := Aside0.mk hi172_1
                have HC172_1 := Aside0.mk hl172_1
                clear hi172_1 hl172_1
                replace p172 := eq_true p172
                replace q172 := eq_true q172
                go_wp2_with (first | ((with_reducible refine gate_dst (N := 6) rfl ?_); refine box_event ?hg (N := 6) ?hd (cs := #[.int .i64 0, .slice none 0 0, .string (⟨#[]⟩ : ByteArray)]) (t := 29) ?hr ?_; (case hd => rfl); (case hg => rfl); (case hr => first | (go_simp; done) | (go_simp; rfl)); intro gb173 hg w30 hbox hb; have n0_ := Aside0.mk (blk_below (g := gb167) (o := .cells #[.int .i64 a0_0, .int .i64 a0_1, .int .i64 a0_2, .slice (some ad172) l0_3.length c0_3] 32 (0, 0)) (by (with_reducible repeat (first | refine blk_drewN ?_ _ | refine blk_drew ?_ | refine blk_alloc ?_ _)); exact BK167.out) hb); have n1_ := Aside0.mk (Built.IsBld.below (by repeat (first | (with_reducible first | exact HI171.out | apply Built.IsBld.alloc | apply Built.IsBld.drewN | apply Built.IsBld.drew | refine Built.IsBld.far ?_ NB171_167.out _ (by (with_reducible repeat (first | apply Built.NonB.set | apply Built.NonB.drewN | apply Built.NonB.drew)); exact Built.NonB.of BK167.out (by simp))) | exact HI171.out)) hb); have n2_ := Aside0.mk (below_step (by repeat (first | (with_reducible first | exact HB.out | apply below_alloc | apply pw_below_drewN | apply below_drew1 | refine below_set ?_ (Built.IsBld.ge HI171.out) | refine below_set ?_ GE167.out) | exact HB.out)) hb); have n3_ := Aside0.mk (hbox); have n4_ := Aside0.mk ((by rw [hg]; exact (below_size (by repeat (first | (with_reducible first | exact HB.out | apply below_alloc | apply pw_below_drewN | apply below_drew1 | refine below_set ?_ (Built.IsBld.ge HI171.out) | refine below_set ?_ GE167.out) | exact HB.out))) : w.heap.size ≤ gb173)); have n5_ := Aside0.mk ((by rw [hg]; exact (below_size (by repeat (first | (with_reducible first | exact HB.out | apply below_alloc | apply pw_below_drewN | apply below_drew1 | refine below_set ?_ (Built.IsBld.ge HI171.out) | refine below_set ?_ GE167.out) | exact HB.out))) : w.heap.size ≤ gb173)); have n6_ := Aside0.mk ((by rw [hg]; exact Nat.ne_of_lt (blk_lt (g := gb167) (o := .cells #[.int .i64 a0_0, .int .i64 a0_1, .int .i64 a0_2, .slice (some ad172) l0_3.length c0_3] 32 (0, 0)) (by (with_reducible repeat (first | refine blk_drewN ?_ _ | refine blk_drew ?_ | refine blk_alloc ?_ _)); exact BK167.out)) : gb167 ≠ gb173)); have n7_ := Aside0.mk ((by rw [hg]; exact Nat.ne_of_gt (blk_lt (g := gb167) (o := .cells #[.int .i64 a0_0, .int .i64 a0_1, .int .i64 a0_2, .slice (some ad172) l0_3.length c0_3] 32 (0, 0)) (by (with_reducible repeat (first | refine blk_drewN ?_ _ | refine blk_drew ?_ | refine blk_alloc ?_ _)); exact BK167.out)) : gb173 ≠ gb167)); have n8_ := Aside0.mk ((by rw [hg]; exact Nat.ne_of_lt (Built.IsBld.lt (show Built.IsBld w _ g171 x172000_1 x172001_1 from by repeat (first | (with_reducible first | exact HI171.out | apply Built.IsBld.alloc | apply Built.IsBld.drewN | apply Built.IsBld.drew | refine Built.IsBld.far ?_ NB171_167.out _ (by (with_reducible repeat (first | apply Built.NonB.set | apply Built.NonB.drewN | apply Built.NonB.drew)); exact Built.NonB.of BK167.out (by simp))) | exact HI171.out))) : g171 ≠ gb173)); have n9_ := Aside0.mk ((by rw [hg]; exact Nat.ne_of_gt (Built.IsBld.lt (show Built.IsBld w _ g171 x172000_1 x172001_1 from by repeat (first | (with_reducible first | exact HI171.out | apply Built.IsBld.alloc | apply Built.IsBld.drewN | apply Built.IsBld.drew | refine Built.IsBld.far ?_ NB171_167.out _ (by (with_reducible repeat (first | apply Built.NonB.set | apply Built.NonB.drewN | apply Built.NonB.drew)); exact Built.NonB.of BK167.out (by simp))) | exact HI171.out))) : gb173 ≠ g171)); clear BK167; clear HI171; clear HB; have BK167 := n0_; have HI171 := n1_; have HB := n2_; have BK173 := n3_; have GW173 := n4_; have GE173 := n5_; have NB167_173 := n6_; have NB173_167 := n7_; have NB171_173 := n8_; have NB173_171 := n9_; clear n0_ n1_ n2_ n3_ n4_ n5_ n6_ n7_ n8_ n9_; clear hb hbox hg; have hnb31 := NB173_167.out; have hnc31 := NB167_173.out; have hnb32 := NB173_171.out; have hnc32 := NB171_173.out; have hcz33_0 : w30.cell? ⟨gb173, 0, none⟩ = some (.int .i64 0) := (blk_cell BK173.out 0).trans rfl; have hcz33_1 : w30.cell? ⟨gb173, 1, none⟩ = some (.slice none 0 0) := (blk_cell BK173.out 1).trans rfl; have hcz33_2 : w30.cell? ⟨gb173, 2, none⟩ = some (.string (⟨#[]⟩ : ByteArray)) := (blk_cell BK173.out 2).trans rfl; have hfz33_0 := blk_frozen BK173.out 0; have hfz33_1 := blk_frozen BK173.out 1; have hfz33_2 := blk_frozen BK173.out 2) | ((with_reducible refine gate_callee (f := 28) rfl ?_); refine goesL_ (some 23) rfl rfl Try.func28 (by kernel_rfl) rfl #[.agg #[.int .i64 ((rd_T29 l0_3 x18_1).f0), .slice A172_1 ((rd_T29 l0_3 x18_1).f1).length c172_1, .string ((rd_T29 l0_3 x18_1).f2)]] rfl (by (try simp only [List.map_toArray, List.map_cons, List.map_nil]); first | done | rfl | (simp only [List.length_drop, List.length_take]; rfl)) ?_; (with_reducible refine (ipfix_Set_body.calls k1 ((rd_T29 l0_3 x18_1).f0) _ _ ((rd_T29 l0_3 x18_1).f1) ((rd_T29 l0_3 x18_1).f2) t174 _ ?side1 ?side2 A14.out).mono ?_); (case side1 => exact Kd.C_below HR172_1.out (by repeat (first | (with_reducible first | exact HB.out | apply below_alloc | apply pw_below_drewN | apply below_drew1 | refine below_set ?_ (Built.IsBld.ge HI171.out) | refine below_set ?_ GE167.out | refine below_set ?_ GE173.out) | exact HB.out))); (case side2 => exact HC172_1.out); rintro e w34 ⟨rfl, hb⟩; refine ⟨_, rfl, ?_⟩; have n0_ := Aside0.mk (blk_below (g := gb167) (o := .cells #[.int .i64 a0_0, .int .i64 a0_1, .int .i64 a0_2, .slice (some ad172) l0_3.length c0_3] 32 (0, 0)) (by (with_reducible repeat (first | refine blk_drewN ?_ _ | refine blk_drew ?_ | refine blk_alloc ?_ _)); refine blk_far ?_ NB167_173.out _; (with_reducible repeat (first | refine blk_drewN ?_ _ | refine blk_drew ?_ | refine blk_alloc ?_ _)); refine blk_far ?_ NB167_173.out _; (with_reducible repeat (first | refine blk_drewN ?_ _ | refine blk_drew ?_ | refine blk_alloc ?_ _)); refine blk_far ?_ NB167_173.out _; (with_reducible repeat (first | refine blk_drewN ?_ _ | refine blk_drew ?_ | refine blk_alloc ?_ _)); exact BK167.out) hb); have n1_ := Aside0.mk (Built.IsBld.below (show Built.IsBld w (((w30.setCell ⟨gb173, 0, none⟩ (.int .i64 ((rd_T29 l0_3 x18_1).f0))).setCell ⟨gb173, 1, none⟩ (.slice A172_1 ((rd_T29 l0_3 x18_1).f1).length c172_1)).setCell ⟨gb173, 2, none⟩ (.string ((rd_T29 l0_3 x18_1).f2))) g171 x172000_1 x172001_1 from by repeat (first | (with_reducible first | exact HI171.out | apply Built.IsBld.alloc | apply Built.IsBld.drewN | apply Built.IsBld.drew | refine Built.IsBld.far ?_ NB171_167.out _ (by (with_reducible repeat (first | apply Built.NonB.set | apply Built.NonB.drewN | apply Built.NonB.drew)); exact Built.NonB.of BK167.out (by simp)) | refine Built.IsBld.far ?_ NB171_173.out _ (by (with_reducible repeat (first | apply Built.NonB.set | apply Built.NonB.drewN | apply Built.NonB.drew)); exact Built.NonB.of BK173.out (by simp))) | exact HI171.out)) hb); have n2_ := Aside0.mk (blk_below (g := gb173) (o := .cells #[.int .i64 ((rd_T29 l0_3 x18_1).f0), .slice A172_1 ((rd_T29 l0_3 x18_1).f1).length c172_1, .string ((rd_T29 l0_3 x18_1).f2)] 29 (0, 0)) (by (with_reducible repeat (first | refine blk_drewN ?_ _ | refine blk_drew ?_ | refine blk_alloc ?_ _)); refine blk_put (cs := #[.int .i64 ((rd_T29 l0_3 x18_1).f0), .slice A172_1 ((rd_T29 l0_3 x18_1).f1).length c172_1, .string (⟨#[]⟩ : ByteArray)]) ?_ 2 _ rfl; (with_reducible repeat (first | refine blk_drewN ?_ _ | refine blk_drew ?_ | refine blk_alloc ?_ _)); refine blk_put (cs := #[.int .i64 ((rd_T29 l0_3 x18_1).f0), .slice none 0 0, .string (⟨#[]⟩ : ByteArray)]) ?_ 1 _ rfl; (with_reducible repeat (first | refine blk_drewN ?_ _ | refine blk_drew ?_ | refine blk_alloc ?_ _)); refine blk_put (cs := #[.int .i64 0, .slice none 0 0, .string (⟨#[]⟩ : ByteArray)]) ?_ 0 _ rfl; (with_reducible repeat (first | refine blk_drewN ?_ _ | refine blk_drew ?_ | refine blk_alloc ?_ _)); exact BK173.out) hb); have n3_ := Aside0.mk (below_step (by repeat (first | (with_reducible first | exact HB.out | apply below_alloc | apply pw_below_drewN | apply below_drew1 | refine below_set ?_ (Built.IsBld.ge HI171.out) | refine below_set ?_ GE167.out | refine below_set ?_ GE173.out) | exact HB.out)) hb); clear BK167; clear HI171; clear BK173; clear HB; have BK167 := n0_; have HI171 := n1_; have BK173 := n2_; have HB := n3_; clear n0_ n1_ n2_ n3_; (try clear hb); (try clear hb2); (try clear hk); (try clear hi)) | ((with_reducible refine gate_callee (f := 29) rfl ?_); refine goesL_ (some 28) rfl rfl Try.func29 (by kernel_rfl) rfl #[.int .i64 (wrap64 ((t174.size : Int) + 4)), .int .i64 2] rfl (by (try simp only [List.map_toArray, List.map_cons, List.map_nil]); first | done | rfl | (simp only [List.length_drop, List.length_take]; rfl)) ?_; (with_reducible refine (octet_Put.calls k1 (wrap64 ((t174.size : Int) + 4)) 2 t175 t176 _ A15.out).mono ?_); rintro e w35 ⟨rfl, hb⟩; refine ⟨_, rfl, ?_⟩; have n0_ := Aside0.mk (blk_below (g := gb167) (o := .cells #[.int .i64 a0_0, .int .i64 a0_1, .int .i64 a0_2, .slice (some ad172) l0_3.length c0_3] 32 (0, 0)) (by (with_reducible repeat (first | refine blk_drewN ?_ _ | refine blk_drew ?_ | refine blk_alloc ?_ _)); exact BK167.out) hb); have n1_ := Aside0.mk (Built.IsBld.below (by repeat (first | (with_reducible first | exact HI171.out | apply Built.IsBld.alloc | apply Built.IsBld.drewN | apply Built.IsBld.drew | refine Built.IsBld.far ?_ NB171_167.out _ (by (with_reducible repeat (first | apply Built.NonB.set | apply Built.NonB.drewN | apply Built.NonB.drew)); exact Built.NonB.of BK167.out (by simp)) | refine Built.IsBld.far ?_ NB171_173.out _ (by (with_reducible repeat (first | apply Built.NonB.set | apply Built.NonB.drewN | apply Built.NonB.drew)); exact Built.NonB.of BK173.out (by simp))) | exact HI171.out)) hb); have n2_ := Aside0.mk (blk_below (g := gb173) (o := .cells #[.int .i64 ((rd_T29 l0_3 x18_1).f0), .slice A172_1 ((rd_T29 l0_3 x18_1).f1).length c172_1, .string ((rd_T29 l0_3 x18_1).f2)] 29 (0, 0)) (by (with_reducible repeat (first | refine blk_drewN ?_ _ | refine blk_drew ?_ | refine blk_alloc ?_ _)); exact BK173.out) hb); have n3_ := Aside0.mk (below_step (by repeat (first | (with_reducible first | exact HB.out | apply below_alloc | apply pw_below_drewN | apply below_drew1 | refine below_set ?_ (Built.IsBld.ge HI171.out) | refine below_set ?_ GE167.out | refine below_set ?_ GE173.out) | exact HB.out)) hb); clear BK167; clear HI171; clear BK173; clear HB; have BK167 := n0_; have HI171 := n1_; have BK173 := n2_; have HB := n3_; clear n0_ n1_ n2_ n3_; (try clear hb); (try clear hb2); (try clear hk); (try clear hi)))
                go_ret2
                exact ⟨by first | rfl | (simp [errW_none, errW_some] <;> rfl) | (simp [*, errW_none, errW_some] <;> rfl), by repeat (first | (with_reducible first | exact HB.out | apply below_alloc | apply pw_below_drewN | apply below_drew1 | refine below_set ?_ (Built.IsBld.ge HI171.out) | refine below_set ?_ GE167.out | refine below_set ?_ GE173.out) | exact HB.out)⟩
            · rw [if_neg c13] at H
              exact absurd H (by simp)
          · rw [if_neg c12] at H
            exact absurd H (by simp)
        · rw [if_neg c11] at H
          have c11b0 : decide (x18_1 < (l0_3.length : Int)) = false := decide_eq_false c11
          clear c11
          replace H := Option.bind_eq_some_iff.mp H
          obtain ⟨⟨t182, t183, t184⟩, A360, H⟩ := H
          replace H : ((octet_Put.f k1 (wrap64 (16 + t182)) 2).bind fun bt185 => (if bt185.2 = 0 then ((ipfix_put.f k1 10 2).bind fun t187 => (if t187.size + bt185.1.size ≤ 9223372036854775807 then ((ipfix_put.f k1 a0_0 4).bind fun t188 => (if (t187 ++ bt185.1).size + t188.size ≤ 9223372036854775807 then ((ipfix_put.f k1 a0_1 4).bind fun t189 => (if ((t187 ++ bt185.1) ++ t188).size + t189.size ≤ 9223372036854775807 then ((ipfix_put.f k1 a0_2 4).bind fun t190 => (if (((t187 ++ bt185.1) ++ t188) ++ t189).size + t190.size ≤ 9223372036854775807 then ((strings_Builder_String.f t183 t184).bind fun bt191 => (if ((((t187 ++ bt185.1) ++ t188) ++ t189) ++ t190).size + bt191.1.size ≤ 9223372036854775807 then (some (((((t187 ++ bt185.1) ++ t188) ++ t189) ++ t190) ++ bt191.1, 0)) else (none))) else (none))) else (none))) else (none))) else (none))) else (some ((⟨#[]⟩ : ByteArray), 4)))) = some (r1, r2) := H
          have A36 := Aside0.mk A360
          clear A360
          replace H := Option.bind_eq_some_iff.mp H
          obtain ⟨⟨t185, t186⟩, A370, H⟩ := H
          replace H : (if t186 = 0 then ((ipfix_put.f k1 10 2).bind fun t187 => (if t187.size + t185.size ≤ 9223372036854775807 then ((ipfix_put.f k1 a0_0 4).bind fun t188 => (if (t187 ++ t185).size + t188.size ≤ 9223372036854775807 then ((ipfix_put.f k1 a0_1 4).bind fun t189 => (if ((t187 ++ t185) ++ t188).size + t189.size ≤ 9223372036854775807 then ((ipfix_put.f k1 a0_2 4).bind fun t190 => (if (((t187 ++ t185) ++ t188) ++ t189).size + t190.size ≤ 9223372036854775807 then ((strings_Builder_String.f t183 t184).bind fun bt191 => (if ((((t187 ++ t185) ++ t188) ++ t189) ++ t190).size + bt191.1.size ≤ 9223372036854775807 then (some (((((t187 ++ t185) ++ t188) ++ t189) ++ t190) ++ bt191.1, 0)) else (none))) else (none))) else (none))) else (none))) else (none))) else (some ((⟨#[]⟩ : ByteArray), 4))) = some (r1, r2) := H
          have A37 := Aside0.mk A370
          clear A370
          by_cases c38 : t186 = 0
          · rw [if_pos c38] at H
            have c38b0 : (t186 == 0) = true := beq_iff_eq.mpr c38
            have c38b1 : (t186 != 0) = false := bne_eq_false_iff_eq.mpr c38
            clear c38
            replace H := Option.bind_eq_some_iff.mp H
            obtain ⟨t187, A390, H⟩ := H
            replace H : (if t187.size + t185.size ≤ 9223372036854775807 then ((ipfix_put.f k1 a0_0 4).bind fun t188 => (if (t187 ++ t185).size + t188.size ≤ 9223372036854775807 then ((ipfix_put.f k1 a0_1 4).bind fun t189 => (if ((t187 ++ t185) ++ t188).size + t189.size ≤ 9223372036854775807 then ((ipfix_put.f k1 a0_2 4).bind fun t190 => (if (((t187 ++ t185) ++ t188) ++ t189).size + t190.size ≤ 9223372036854775807 then ((strings_Builder_String.f t183 t184).bind fun bt191 => (if ((((t187 ++ t185) ++ t188) ++ t189) ++ t190).size + bt191.1.size ≤ 9223372036854775807 then (some (((((t187 ++ t185) ++ t188) ++ t189) ++ t190) ++ bt191.1, 0)) else (none))) else (none))) else (none))) else (none))) else (none)) = some (r1, r2) := H
            have A39 := Aside0.mk A390
            clear A390
            by_cases c40 : t187.size + t185.size ≤ 9223372036854775807
            · rw [if_pos c40] at H
              have c40b0 := eq_true c40
              have c40b1 : decide (t187.size + t185.size ≤ 9223372036854775807) = true := decide_eq_true c40
              try have c40b2 : (9223372036854775807 < t187.size + t185.size) = False := eq_false (Nat.not_lt.2 c40)
              replace H := Option.bind_eq_some_iff.mp H
              obtain ⟨t188, A410, H⟩ := H
              replace H : (if (t187 ++ t185).size + t188.size ≤ 9223372036854775807 then ((ipfix_put.f k1 a0_1 4).bind fun t189 => (if ((t187 ++ t185) ++ t188).size + t189.size ≤ 9223372036854775807 then ((ipfix_put.f k1 a0_2 4).bind fun t190 => (if (((t187 ++ t185) ++ t188) ++ t189).size + t190.size ≤ 9223372036854775807 then ((strings_Builder_String.f t183 t184).bind fun bt191 => (if ((((t187 ++ t185) ++ t188) ++ t189) ++ t190).size + bt191.1.size ≤ 9223372036854775807 then (some (((((t187 ++ t185) ++ t188) ++ t189) ++ t190) ++ bt191.1, 0)) else (none))) else (none))) else (none))) else (none)) = some (r1, r2) := H
              have A41 := Aside0.mk A410
              clear A410
              by_cases c42 : (t187 ++ t185).size + t188.size ≤ 9223372036854775807
              · rw [if_pos c42] at H
                have c42b0 := eq_true c42
                have c42b1 : decide ((t187 ++ t185).size + t188.size ≤ 9223372036854775807) = true := decide_eq_true c42
                try have c42b2 : (9223372036854775807 < (t187 ++ t185).size + t188.size) = False := eq_false (Nat.not_lt.2 c42)
                try (have c42b3 := c42b2; simp only [ByteArray.size_append] at c42b3)
                replace H := Option.bind_eq_some_iff.mp H
                obtain ⟨t189, A430, H⟩ := H
                replace H : (if ((t187 ++ t185) ++ t188).size + t189.size ≤ 9223372036854775807 then ((ipfix_put.f k1 a0_2 4).bind fun t190 => (if (((t187 ++ t185) ++ t188) ++ t189).size + t190.size ≤ 9223372036854775807 then ((strings_Builder_String.f t183 t184).bind fun bt191 => (if ((((t187 ++ t185) ++ t188) ++ t189) ++ t190).size + bt191.1.size ≤ 9223372036854775807 then (some (((((t187 ++ t185) ++ t188) ++ t189) ++ t190) ++ bt191.1, 0)) else (none))) else (none))) else (none)) = some (r1, r2) := H
                have A43 := Aside0.mk A430
                clear A430
                by_cases c44 : ((t187 ++ t185) ++ t188).size + t189.size ≤ 9223372036854775807
                · rw [if_pos c44] at H
                  have c44b0 := eq_true c44
                  have c44b1 : decide (((t187 ++ t185) ++ t188).size + t189.size ≤ 9223372036854775807) = true := decide_eq_true c44
                  try have c44b2 : (9223372036854775807 < ((t187 ++ t185) ++ t188).size + t189.size) = False := eq_false (Nat.not_lt.2 c44)
                  try (have c44b3 := c44b2; simp only [ByteArray.size_append] at c44b3)
                  replace H := Option.bind_eq_some_iff.mp H
                  obtain ⟨t190, A450, H⟩ := H
                  replace H : (if (((t187 ++ t185) ++ t188) ++ t189).size + t190.size ≤ 9223372036854775807 then ((strings_Builder_String.f t183 t184).bind fun bt191 => (if ((((t187 ++ t185) ++ t188) ++ t189) ++ t190).size + bt191.1.size ≤ 9223372036854775807 then (some (((((t187 ++ t185) ++ t188) ++ t189) ++ t190) ++ bt191.1, 0)) else (none))) else (none)) = some (r1, r2) := H
                  have A45 := Aside0.mk A450
                  clear A450
                  by_cases c46 : (((t187 ++ t185) ++ t188) ++ t189).size + t190.size ≤ 9223372036854775807
                  · rw [if_pos c46] at H
                    have c46b0 := eq_true c46
                    have c46b1 : decide ((((t187 ++ t185) ++ t188) ++ t189).size + t190.size ≤ 9223372036854775807) = true := decide_eq_true c46
                    try have c46b2 : (9223372036854775807 < (((t187 ++ t185) ++ t188) ++ t189).size + t190.size) = False := eq_false (Nat.not_lt.2 c46)
                    try (have c46b3 := c46b2; simp only [ByteArray.size_append] at c46b3)
                    replace H := Option.bind_eq_some_iff.mp H
                    obtain ⟨⟨t191, t192, t193⟩, A470, H⟩ := H
                    replace H : (if ((((t187 ++ t185) ++ t188) ++ t189) ++ t190).size + t191.size ≤ 9223372036854775807 then (some (((((t187 ++ t185) ++ t188) ++ t189) ++ t190) ++ t191, 0)) else (none)) = some (r1, r2) := H
                    have A47 := Aside0.mk A470
                    clear A470
                    by_cases c48 : ((((t187 ++ t185) ++ t188) ++ t189) ++ t190).size + t191.size ≤ 9223372036854775807
                    · rw [if_pos c48] at H
                      have c48b0 := eq_true c48
                      have c48b1 : decide (((((t187 ++ t185) ++ t188) ++ t189) ++ t190).size + t191.size ≤ 9223372036854775807) = true := decide_eq_true c48
                      try have c48b2 : (9223372036854775807 < ((((t187 ++ t185) ++ t188) ++ t189) ++ t190).size + t191.size) = False := eq_false (Nat.not_lt.2 c48)
                      try (have c48b3 := c48b2; simp only [ByteArray.size_append] at c48b3)
                      simp only [Option.some.injEq, Prod.mk.injEq] at H
                      obtain ⟨rfl, rfl⟩ := H
                      try go_wp2_with (first | ((with_reducible refine gate_callee (f := 32) rfl ?_); refine goesL_ (some 43) rfl rfl Try.func32 (by kernel_rfl) rfl #[.pointer (some ⟨g171, 0, none⟩)] rfl (by (try simp only [List.map_toArray, List.map_cons, List.map_nil]); first | done | rfl | (simp only [List.length_drop, List.length_take]; rfl)) ?_; (with_reducible refine (strings_Builder_Len.calls g171 x172000_1 x172001_1 t182 t183 t184 w _ ?side1 ?side2 A36.out).mono ?_); (case side1 => repeat (first | (with_reducible first | exact HI171.out | apply Built.IsBld.alloc | apply Built.IsBld.drewN | apply Built.IsBld.drew | refine Built.IsBld.far ?_ NB171_167.out _ (by (with_reducible repeat (first | apply Built.NonB.set | apply Built.NonB.drewN | apply Built.NonB.drew)); exact Built.NonB.of BK167.out (by simp))) | exact HI171.out)); (case side2 => repeat (first | (with_reducible first | exact HB.out | apply below_alloc | apply pw_below_drewN | apply below_drew1 | refine below_set ?_ (Built.IsBld.ge HI171.out) | refine below_set ?_ GE167.out) | exact HB.out)); rintro e w49 ⟨rfl, hi, hb, hk⟩; refine ⟨_, rfl, ?_⟩; have n0_ := Aside0.mk (Built.KeepT.blk hk (g' := gb167) (o := .cells #[.int .i64 a0_0, .int .i64 a0_1, .int .i64 a0_2, .slice A0_3 l0_3.length c0_3] 32 (0, 0)) (by (with_reducible repeat (first | refine blk_drewN ?_ _ | refine blk_drew ?_ | refine blk_alloc ?_ _)); exact BK167.out) NB167_171.out (by simp)); have n1_ := Aside0.mk (hb); have n2_ := Aside0.mk (hi); clear BK167; clear HB; clear HI171; have BK167 := n0_; have HB := n1_; have HI171 := n2_; clear n0_ n1_ n2_; (try clear hb); (try clear hb2); (try clear hk); (try clear hi)) | ((with_reducible refine gate_callee (f := 29) rfl ?_); refine goesL_ (some 45) rfl rfl Try.func29 (by kernel_rfl) rfl #[.int .i64 (wrap64 (16 + t182)), .int .i64 2] rfl (by (try simp only [List.map_toArray, List.map_cons, List.map_nil]); first | done | rfl | (simp only [List.length_drop, List.length_take]; rfl)) ?_; (with_reducible refine (octet_Put.calls k1 (wrap64 (16 + t182)) 2 t185 t186 _ A37.out).mono ?_); rintro e w50 ⟨rfl, hb⟩; refine ⟨_, rfl, ?_⟩; have n0_ := Aside0.mk (blk_below (g := gb167) (o := .cells #[.int .i64 a0_0, .int .i64 a0_1, .int .i64 a0_2, .slice A0_3 l0_3.length c0_3] 32 (0, 0)) (by (with_reducible repeat (first | refine blk_drewN ?_ _ | refine blk_drew ?_ | refine blk_alloc ?_ _)); exact BK167.out) hb); have n1_ := Aside0.mk (Built.IsBld.below (by repeat (first | (with_reducible first | exact HI171.out | apply Built.IsBld.alloc | apply Built.IsBld.drewN | apply Built.IsBld.drew | refine Built.IsBld.far ?_ NB171_167.out _ (by (with_reducible repeat (first | apply Built.NonB.set | apply Built.NonB.drewN | apply Built.NonB.drew)); exact Built.NonB.of BK167.out (by simp))) | exact HI171.out)) hb); have n2_ := Aside0.mk (below_step (by repeat (first | (with_reducible first | exact HB.out | apply below_alloc | apply pw_below_drewN | apply below_drew1 | refine below_set ?_ (Built.IsBld.ge HI171.out) | refine below_set ?_ GE167.out) | exact HB.out)) hb); clear BK167; clear HI171; clear HB; have BK167 := n0_; have HI171 := n1_; have HB := n2_; clear n0_ n1_ n2_; (try clear hb); (try clear hb2); (try clear hk); (try clear hi)))
                      have n0_ := Aside0.mk (blk_drew BK167.out)
                      have n1_ := Aside0.mk (Built.IsBld.drew HI171.out)
                      have n2_ := Aside0.mk (below_drew1 HB.out)
                      clear BK167
                      clear HI171
                      clear HB
                      have BK167 := n0_
                      have HI171 := n1_
                      have HB := n2_
                      clear n0_ n1_ n2_
                      refine start_ (n := 19) (S := fun w' => w'.cell? ⟨gb167, 0, none⟩ = some (.int .i64 a0_0) ∧ w'.cell? ⟨gb167, 1, none⟩ = some (.int .i64 a0_1) ∧ w'.cell? ⟨gb167, 2, none⟩ = some (.int .i64 a0_2) ∧ w'.cell? ⟨gb167, 3, none⟩ = some (.slice A0_3 l0_3.length c0_3)) (ds := []) #[false, false, false, false, false, false, false, false, false, false, false, false, false, false, false, false, false, false, false] (by kernel_rfl) rfl rfl ⟨(blk_cell BK167.out 0).trans rfl, (blk_cell BK167.out 1).trans rfl, (blk_cell BK167.out 2).trans rfl, (blk_cell BK167.out 3).trans rfl⟩ (fun hHeld => ?_); refine with_tabW ipfix_Put.tab16 ipfix_Put.bits16 (fun HT_ HW_ => ?_)
                      generalize w50.drew = w51 at BK167 HI171 HB hHeld ⊢
                      refine pure_ (i := 1) (N := some 51) (v := ?_) (a' := ?_) #[false, true, false, false, false, false, false, false, false, false, false, false, false, false, false, false, false, false, false] rfl rfl (any_of HT_.out (by kernel_rfl)) (fun _ _ _ h => h) (Or.inl ⟨by rfl, ?_⟩) ?_ ?_
                      rotate_left
                      · intro w'
                        go_simp
                        with_reducible rfl
                      rotate_left
                      · simp only [Act.put, List.setIfInBounds_toArray, List.set_cons_zero, List.set_cons_succ, i64_w, i32_w]
                        rfl
                      refine pure_ (i := 3) (N := some 53) (v := ?_) (a' := ?_) #[false, true, false, true, false, false, false, false, false, false, false, false, false, false, false, false, false, false, false] rfl rfl (any_of HT_.out (by kernel_rfl)) (fun _ _ _ h => h) (Or.inl ⟨by rfl, ?_⟩) ?_ ?_
                      rotate_left
                      · intro w'
                        go_simp
                        with_reducible rfl
                      rotate_left
                      · simp only [Act.put, List.setIfInBounds_toArray, List.set_cons_zero, List.set_cons_succ, i64_w, i32_w]
                        rfl
                      refine pure_ (i := 7) (N := some 57) (v := ?_) (a' := ?_) #[false, true, false, true, false, false, false, true, false, false, false, false, false, false, false, false, false, false, false] rfl rfl (any_of HT_.out (by kernel_rfl)) (fun _ _ _ h => h) (Or.inl ⟨by rfl, ?_⟩) ?_ ?_
                      rotate_left
                      · intro w'
                        go_simp
                        with_reducible rfl
                      rotate_left
                      · simp only [Act.put, List.setIfInBounds_toArray, List.set_cons_zero, List.set_cons_succ, i64_w, i32_w]
                        rfl
                      refine pure_ (i := 11) (N := some 61) (v := ?_) (a' := ?_) #[false, true, false, true, false, false, false, true, false, false, false, true, false, false, false, false, false, false, false] rfl rfl (any_of HT_.out (by kernel_rfl)) (fun _ _ _ h => h) (Or.inl ⟨by rfl, ?_⟩) ?_ ?_
                      rotate_left
                      · intro w'
                        go_simp
                        with_reducible rfl
                      rotate_left
                      · simp only [Act.put, List.setIfInBounds_toArray, List.set_cons_zero, List.set_cons_succ, i64_w, i32_w]
                        rfl
                      refine take_ (i := 4) (N := some 54) (v := ?_) (a' := ?_) #[false, true, false, true, true, false, false, true, false, false, false, true, false, false, false, false, false, false, false] rfl rfl (take_ofW HT_.out HW_.out (by kernel_rfl)) (fun _ _ _ h => h) (Or.inl ⟨by rfl, ?_⟩) hHeld ?_ ?_
                      rotate_left
                      · rintro w' ⟨s0, s1, s2, s3⟩
                        go_simp
                        with_reducible rfl
                      rotate_left
                      · simp only [Act.put, List.setIfInBounds_toArray, List.set_cons_zero, List.set_cons_succ, i64_w, i32_w]
                        rfl
                      refine take_ (i := 8) (N := some 58) (v := ?_) (a' := ?_) #[false, true, false, true, true, false, false, true, true, false, false, true, false, false, false, false, false, false, false] rfl rfl (take_ofW HT_.out HW_.out (by kernel_rfl)) (fun _ _ _ h => h) (Or.inl ⟨by rfl, ?_⟩) hHeld ?_ ?_
                      rotate_left
                      · rintro w' ⟨s0, s1, s2, s3⟩
                        go_simp
                        with_reducible rfl
                      rotate_left
                      · simp only [Act.put, List.setIfInBounds_toArray, List.set_cons_zero, List.set_cons_succ, i64_w, i32_w]
                        rfl
                      refine take_ (i := 12) (N := some 62) (v := ?_) (a' := ?_) #[false, true, false, true, true, false, false, true, true, false, false, true, true, false, false, false, false, false, false] rfl rfl (take_ofW HT_.out HW_.out (by kernel_rfl)) (fun _ _ _ h => h) (Or.inl ⟨by rfl, ?_⟩) hHeld ?_ ?_
                      rotate_left
                      · rintro w' ⟨s0, s1, s2, s3⟩
                        go_simp
                        with_reducible rfl
                      rotate_left
                      · simp only [Act.put, List.setIfInBounds_toArray, List.set_cons_zero, List.set_cons_succ, i64_w, i32_w]
                        rfl
                      refine one_ (i := 0) (N := some 50) #[true, true, false, true, true, false, false, true, true, false, false, true, true, false, false, false, false, false, false] rfl rfl (one_of HT_.out (by kernel_rfl)) (by decide) (fun K hK => ?_)
                      refine goes_ Try.func31 (by kernel_rfl) rfl #[.int .i64 10, .int .i64 2] (by rfl) rfl rfl (by (try simp only [List.map_toArray, List.map_cons, List.map_nil]); first | done | rfl | (simp only [List.length_drop, List.length_take]; rfl)) ?_
                      with_reducible refine (ipfix_put.calls k1 10 2 t187 _ A39.out).mono ?_
                      rintro e w52 ⟨rfl, hb⟩
                      refine ⟨_, rfl, ?_⟩
                      have n0_ := Aside0.mk (blk_below (g := gb167) (o := .cells #[.int .i64 a0_0, .int .i64 a0_1, .int .i64 a0_2, .slice A0_3 l0_3.length c0_3] 32 (0, 0)) (by (with_reducible repeat (first | refine blk_drewN ?_ _ | refine blk_drew ?_ | refine blk_alloc ?_ _)); exact BK167.out) hb)
                      have n1_ := Aside0.mk (Built.IsBld.below (by repeat (first | (with_reducible first | exact HI171.out | apply Built.IsBld.alloc | apply Built.IsBld.drewN | apply Built.IsBld.drew | refine Built.IsBld.far ?_ NB171_167.out _ (by (with_reducible repeat (first | apply Built.NonB.set | apply Built.NonB.drewN | apply Built.NonB.drew)); exact Built.NonB.of BK167.out (by simp))) | exact HI171.out)) hb)
                      have n2_ := Aside0.mk (below_step (by repeat (first | (with_reducible first | exact HB.out | apply below_alloc | apply pw_below_drewN | apply below_drew1 | refine below_set ?_ (Built.IsBld.ge HI171.out) | refine below_set ?_ GE167.out) | exact HB.out)) hb)
                      clear BK167
                      clear HI171
                      clear HB
                      have BK167 := n0_
                      have HI171 := n1_
                      have HB := n2_
                      clear n0_ n1_ n2_
                      (try clear hb)
                      (try clear hb2)
                      (try clear hk)
                      (try clear hi)
                      refine hK.out _ _ ⟨(blk_cell BK167.out 0).trans rfl, (blk_cell BK167.out 1).trans rfl, (blk_cell BK167.out 2).trans rfl, (blk_cell BK167.out 3).trans rfl⟩ (fun hHeld => ?_)
                      clear hK K
                      refine norm_ (a' := ?_) ?_ ?_
                      rotate_left
                      · show Act.put _ (some 50) _ = _
                        simp only [Act.put, List.setIfInBounds_toArray, List.set_cons_zero, List.set_cons_succ, i64_w, i32_w]
                        rfl
                      refine pure_ (i := 2) (N := some 52) (v := ?_) (a' := ?_) #[true, true, true, true, true, false, false, true, true, false, false, true, true, false, false, false, false, false, false] rfl rfl (any_of HT_.out (by kernel_rfl)) (fun _ _ _ h => h) (Or.inl ⟨by rfl, ?_⟩) ?_ ?_
                      rotate_left
                      · intro w'
                        go_simp
                        with_reducible rfl
                      rotate_left
                      · simp only [Act.put, List.setIfInBounds_toArray, List.set_cons_zero, List.set_cons_succ, i64_w, i32_w]
                        rfl
                      refine one_ (i := 5) (N := some 55) #[true, true, true, true, true, true, false, true, true, false, false, true, true, false, false, false, false, false, false] rfl rfl (one_of HT_.out (by kernel_rfl)) (by decide) (fun K hK => ?_)
                      refine goes_ Try.func31 (by kernel_rfl) rfl #[.int .i64 a0_0, .int .i64 4] (by rfl) rfl rfl (by (try simp only [List.map_toArray, List.map_cons, List.map_nil]); first | done | rfl | (simp only [List.length_drop, List.length_take]; rfl)) ?_
                      with_reducible refine (ipfix_put.calls k1 a0_0 4 t188 _ A41.out).mono ?_
                      rintro e w53 ⟨rfl, hb⟩
                      refine ⟨_, rfl, ?_⟩
                      have n0_ := Aside0.mk (blk_below (g := gb167) (o := .cells #[.int .i64 a0_0, .int .i64 a0_1, .int .i64 a0_2, .slice A0_3 l0_3.length c0_3] 32 (0, 0)) (by (with_reducible repeat (first | refine blk_drewN ?_ _ | refine blk_drew ?_ | refine blk_alloc ?_ _)); exact BK167.out) hb)
                      have n1_ := Aside0.mk (Built.IsBld.below (by repeat (first | (with_reducible first | exact HI171.out | apply Built.IsBld.alloc | apply Built.IsBld.drewN | apply Built.IsBld.drew | refine Built.IsBld.far ?_ NB171_167.out _ (by (with_reducible repeat (first | apply Built.NonB.set | apply Built.NonB.drewN | apply Built.NonB.drew)); exact Built.NonB.of BK167.out (by simp))) | exact HI171.out)) hb)
                      have n2_ := Aside0.mk (below_step (by repeat (first | (with_reducible first | exact HB.out | apply below_alloc | apply pw_below_drewN | apply below_drew1 | refine below_set ?_ (Built.IsBld.ge HI171.out) | refine below_set ?_ GE167.out) | exact HB.out)) hb)
                      clear BK167
                      clear HI171
                      clear HB
                      have BK167 := n0_
                      have HI171 := n1_
                      have HB := n2_
                      clear n0_ n1_ n2_
                      (try clear hb)
                      (try clear hb2)
                      (try clear hk)
                      (try clear hi)
                      refine hK.out _ _ ⟨(blk_cell BK167.out 0).trans rfl, (blk_cell BK167.out 1).trans rfl, (blk_cell BK167.out 2).trans rfl, (blk_cell BK167.out 3).trans rfl⟩ (fun hHeld => ?_)
                      clear hK K
                      refine norm_ (a' := ?_) ?_ ?_
                      rotate_left
                      · show Act.put _ (some 55) _ = _
                        simp only [Act.put, List.setIfInBounds_toArray, List.set_cons_zero, List.set_cons_succ, i64_w, i32_w]
                        rfl
                      refine pure_ (i := 6) (N := some 56) (v := ?_) (a' := ?_) #[true, true, true, true, true, true, true, true, true, false, false, true, true, false, false, false, false, false, false] rfl rfl (any_of HT_.out (by kernel_rfl)) (fun _ _ _ h => h) (Or.inl ⟨by rfl, ?_⟩) ?_ ?_
                      rotate_left
                      · intro w'
                        go_simp
                        with_reducible rfl
                      rotate_left
                      · simp only [Act.put, List.setIfInBounds_toArray, List.set_cons_zero, List.set_cons_succ, i64_w, i32_w]
                        rfl
                      refine one_ (i := 9) (N := some 59) #[true, true, true, true, true, true, true, true, true, true, false, true, true, false, false, false, false, false, false] rfl rfl (one_of HT_.out (by kernel_rfl)) (by decide) (fun K hK => ?_)
                      refine goes_ Try.func31 (by kernel_rfl) rfl #[.int .i64 a0_1, .int .i64 4] (by rfl) rfl rfl (by (try simp only [List.map_toArray, List.map_cons, List.map_nil]); first | done | rfl | (simp only [List.length_drop, List.length_take]; rfl)) ?_
                      with_reducible refine (ipfix_put.calls k1 a0_1 4 t189 _ A43.out).mono ?_
                      rintro e w54 ⟨rfl, hb⟩
                      refine ⟨_, rfl, ?_⟩
                      have n0_ := Aside0.mk (blk_below (g := gb167) (o := .cells #[.int .i64 a0_0, .int .i64 a0_1, .int .i64 a0_2, .slice A0_3 l0_3.length c0_3] 32 (0, 0)) (by (with_reducible repeat (first | refine blk_drewN ?_ _ | refine blk_drew ?_ | refine blk_alloc ?_ _)); exact BK167.out) hb)
                      have n1_ := Aside0.mk (Built.IsBld.below (by repeat (first | (with_reducible first | exact HI171.out | apply Built.IsBld.alloc | apply Built.IsBld.drewN | apply Built.IsBld.drew | refine Built.IsBld.far ?_ NB171_167.out _ (by (with_reducible repeat (first | apply Built.NonB.set | apply Built.NonB.drewN | apply Built.NonB.drew)); exact Built.NonB.of BK167.out (by simp))) | exact HI171.out)) hb)
                      have n2_ := Aside0.mk (below_step (by repeat (first | (with_reducible first | exact HB.out | apply below_alloc | apply pw_below_drewN | apply below_drew1 | refine below_set ?_ (Built.IsBld.ge HI171.out) | refine below_set ?_ GE167.out) | exact HB.out)) hb)
                      clear BK167
                      clear HI171
                      clear HB
                      have BK167 := n0_
                      have HI171 := n1_
                      have HB := n2_
                      clear n0_ n1_ n2_
                      (try clear hb)
                      (try clear hb2)
                      (try clear hk)
                      (try clear hi)
                      refine hK.out _ _ ⟨(blk_cell BK167.out 0).trans rfl, (blk_cell BK167.out 1).trans rfl, (blk_cell BK167.out 2).trans rfl, (blk_cell BK167.out 3).trans rfl⟩ (fun hHeld => ?_)
                      clear hK K
                      refine norm_ (a' := ?_) ?_ ?_
                      rotate_left
                      · show Act.put _ (some 59) _ = _
                        simp only [Act.put, List.setIfInBounds_toArray, List.set_cons_zero, List.set_cons_succ, i64_w, i32_w]
                        rfl
                      refine pure_ (i := 10) (N := some 60) (v := ?_) (a' := ?_) #[true, true, true, true, true, true, true, true, true, true, true, true, true, false, false, false, false, false, false] rfl rfl (any_of HT_.out (by kernel_rfl)) (fun _ _ _ h => h) (Or.inl ⟨by rfl, ?_⟩) ?_ ?_
                      rotate_left
                      · intro w'
                        go_simp
                        with_reducible rfl
                      rotate_left
                      · simp only [Act.put, List.setIfInBounds_toArray, List.set_cons_zero, List.set_cons_succ, i64_w, i32_w]
                        rfl
                      refine one_ (i := 13) (N := some 63) #[true, true, true, true, true, true, true, true, true, true, true, true, true, true, false, false, false, false, false] rfl rfl (one_of HT_.out (by kernel_rfl)) (by decide) (fun K hK => ?_)
                      refine goes_ Try.func31 (by kernel_rfl) rfl #[.int .i64 a0_2, .int .i64 4] (by rfl) rfl rfl (by (try simp only [List.map_toArray, List.map_cons, List.map_nil]); first | done | rfl | (simp only [List.length_drop, List.length_take]; rfl)) ?_
                      with_reducible refine (ipfix_put.calls k1 a0_2 4 t190 _ A45.out).mono ?_
                      rintro e w55 ⟨rfl, hb⟩
                      refine ⟨_, rfl, ?_⟩
                      have n0_ := Aside0.mk (blk_below (g := gb167) (o := .cells #[.int .i64 a0_0, .int .i64 a0_1, .int .i64 a0_2, .slice A0_3 l0_3.length c0_3] 32 (0, 0)) (by (with_reducible repeat (first | refine blk_drewN ?_ _ | refine blk_drew ?_ | refine blk_alloc ?_ _)); exact BK167.out) hb)
                      have n1_ := Aside0.mk (Built.IsBld.below (by repeat (first | (with_reducible first | exact HI171.out | apply Built.IsBld.alloc | apply Built.IsBld.drewN | apply Built.IsBld.drew | refine Built.IsBld.far ?_ NB171_167.out _ (by (with_reducible repeat (first | apply Built.NonB.set | apply Built.NonB.drewN | apply Built.NonB.drew)); exact Built.NonB.of BK167.out (by simp))) | exact HI171.out)) hb)
                      have n2_ := Aside0.mk (below_step (by repeat (first | (with_reducible first | exact HB.out | apply below_alloc | apply pw_below_drewN | apply below_drew1 | refine below_set ?_ (Built.IsBld.ge HI171.out) | refine below_set ?_ GE167.out) | exact HB.out)) hb)
                      clear BK167
                      clear HI171
                      clear HB
                      have BK167 := n0_
                      have HI171 := n1_
                      have HB := n2_
                      clear n0_ n1_ n2_
                      (try clear hb)
                      (try clear hb2)
                      (try clear hk)
                      (try clear hi)
                      refine hK.out _ _ ⟨(blk_cell BK167.out 0).trans rfl, (blk_cell BK167.out 1).trans rfl, (blk_cell BK167.out 2).trans rfl, (blk_cell BK167.out 3).trans rfl⟩ (fun hHeld => ?_)
                      clear hK K
                      refine norm_ (a' := ?_) ?_ ?_
                      rotate_left
                      · show Act.put _ (some 63) _ = _
                        simp only [Act.put, List.setIfInBounds_toArray, List.set_cons_zero, List.set_cons_succ, i64_w, i32_w]
                        rfl
                      refine pure_ (i := 14) (N := some 64) (v := ?_) (a' := ?_) #[true, true, true, true, true, true, true, true, true, true, true, true, true, true, true, false, false, false, false] rfl rfl (any_of HT_.out (by kernel_rfl)) (fun _ _ _ h => h) (Or.inl ⟨by rfl, ?_⟩) ?_ ?_
                      rotate_left
                      · intro w'
                        go_simp
                        with_reducible rfl
                      rotate_left
                      · simp only [Act.put, List.setIfInBounds_toArray, List.set_cons_zero, List.set_cons_succ, i64_w, i32_w]
                        rfl
                      refine one_ (i := 15) (N := some 65) #[true, true, true, true, true, true, true, true, true, true, true, true, true, true, true, true, false, false, false] rfl rfl (one_of HT_.out (by kernel_rfl)) (by decide) (fun K hK => ?_)
                      refine goes_ Try.func33 (by kernel_rfl) rfl #[.pointer (some ⟨g171, 0, none⟩)] (by rfl) rfl rfl (by (try simp only [List.map_toArray, List.map_cons, List.map_nil]); first | done | rfl | (simp only [List.length_drop, List.length_take]; rfl)) ?_
                      with_reducible refine (strings_Builder_String.calls g171 t183 t184 t191 t192 t193 w _ ?side1 ?side2 A47.out).mono ?_
                      (case side1 => repeat (first | (with_reducible first | exact HI171.out | apply Built.IsBld.alloc | apply Built.IsBld.drewN | apply Built.IsBld.drew | refine Built.IsBld.far ?_ NB171_167.out _ (by (with_reducible repeat (first | apply Built.NonB.set | apply Built.NonB.drewN | apply Built.NonB.drew)); exact Built.NonB.of BK167.out (by simp))) | exact HI171.out))
                      (case side2 => repeat (first | (with_reducible first | exact HB.out | apply below_alloc | apply pw_below_drewN | apply below_drew1 | refine below_set ?_ (Built.IsBld.ge HI171.out) | refine below_set ?_ GE167.out) | exact HB.out))
                      rintro e w56 ⟨rfl, hi, hb, hk⟩
                      refine ⟨_, rfl, ?_⟩
                      have n0_ := Aside0.mk (Built.KeepT.blk hk (g' := gb167) (o := .cells #[.int .i64 a0_0, .int .i64 a0_1, .int .i64 a0_2, .slice A0_3 l0_3.length c0_3] 32 (0, 0)) (by (with_reducible repeat (first | refine blk_drewN ?_ _ | refine blk_drew ?_ | refine blk_alloc ?_ _)); exact BK167.out) NB167_171.out (by simp))
                      have n1_ := Aside0.mk (hb)
                      have n2_ := Aside0.mk (hi)
                      clear BK167
                      clear HB
                      clear HI171
                      have BK167 := n0_
                      have HB := n1_
                      have HI171 := n2_
                      clear n0_ n1_ n2_
                      (try clear hb)
                      (try clear hb2)
                      (try clear hk)
                      (try clear hi)
                      refine hK.out _ _ ⟨(blk_cell BK167.out 0).trans rfl, (blk_cell BK167.out 1).trans rfl, (blk_cell BK167.out 2).trans rfl, (blk_cell BK167.out 3).trans rfl⟩ (fun hHeld => ?_)
                      clear hK K
                      refine norm_ (a' := ?_) ?_ ?_
                      rotate_left
                      · show Act.put _ (some 65) _ = _
                        simp only [Act.put, List.setIfInBounds_toArray, List.set_cons_zero, List.set_cons_succ, i64_w, i32_w]
                        rfl
                      refine pure_ (i := 16) (N := some 66) (v := ?_) (a' := ?_) #[true, true, true, true, true, true, true, true, true, true, true, true, true, true, true, true, true, false, false] rfl rfl (any_of HT_.out (by kernel_rfl)) (fun _ _ _ h => h) (Or.inl ⟨by rfl, ?_⟩) ?_ ?_
                      rotate_left
                      · intro w'
                        go_simp
                        with_reducible rfl
                      rotate_left
                      · simp only [Act.put, List.setIfInBounds_toArray, List.set_cons_zero, List.set_cons_succ, i64_w, i32_w]
                        rfl
                      refine pure_ (i := 17) (N := some 2) (v := ?_) (a' := ?_) #[true, true, true, true, true, true, true, true, true, true, true, true, true, true, true, true, true, true, false] rfl rfl (any_of HT_.out (by kernel_rfl)) (fun _ _ _ h => h) (Or.inl ⟨by rfl, ?_⟩) ?_ ?_
                      rotate_left
                      · intro w'
                        go_simp
                        with_reducible rfl
                      rotate_left
                      · simp only [Act.put, List.setIfInBounds_toArray, List.set_cons_zero, List.set_cons_succ, i64_w, i32_w]
                        rfl
                      refine pure_ (i := 18) (N := some 3) (v := ?_) (a' := ?_) #[true, true, true, true, true, true, true, true, true, true, true, true, true, true, true, true, true, true, true] rfl rfl (any_of HT_.out (by kernel_rfl)) (fun _ _ _ h => h) (Or.inl ⟨by rfl, ?_⟩) ?_ ?_
                      rotate_left
                      · intro w'
                        go_simp
                        with_reducible rfl
                      rotate_left
                      · simp only [Act.put, List.setIfInBounds_toArray, List.set_cons_zero, List.set_cons_succ, i64_w, i32_w]
                        rfl
                      refine done_ (done_of HT_.out (by kernel_rfl)) ?_
                      try go_wp2
                      go_ret2
                      exact ⟨by first | rfl | (simp [errW_none, errW_some] <;> rfl) | (simp [*, errW_none, errW_some] <;> rfl), by repeat (first | (with_reducible first | exact HB.out | apply below_alloc | apply pw_below_drewN | apply below_drew1 | refine below_set ?_ (Built.IsBld.ge HI171.out) | refine below_set ?_ GE167.out) | exact HB.out)⟩
                    · rw [if_neg c48] at H
                      exact absurd H (by simp)
                  · rw [if_neg c46] at H
                    exact absurd H (by simp)
                · rw [if_neg c44] at H
                  exact absurd H (by simp)
              · rw [if_neg c42] at H
                exact absurd H (by simp)
            · rw [if_neg c40] at H
              exact absurd H (by simp)
          · rw [if_neg c38] at H
            have c38b0 : (t186 == 0) = false := beq_eq_false_iff_ne.mpr c38
            have c38b1 : (t186 != 0) = true := bne_iff_ne.mpr c38
            simp only [Option.some.injEq, Prod.mk.injEq] at H
            obtain ⟨rfl, rfl⟩ := H
            go_wp2_with (first | ((with_reducible refine gate_callee (f := 32) rfl ?_); refine goesL_ (some 43) rfl rfl Try.func32 (by kernel_rfl) rfl #[.pointer (some ⟨g171, 0, none⟩)] rfl (by (try simp only [List.map_toArray, List.map_cons, List.map_nil]); first | done | rfl | (simp only [List.length_drop, List.length_take]; rfl)) ?_; (with_reducible refine (strings_Builder_Len.calls g171 x172000_1 x172001_1 t182 t183 t184 w _ ?side1 ?side2 A36.out).mono ?_); (case side1 => repeat (first | (with_reducible first | exact HI171.out | apply Built.IsBld.alloc | apply Built.IsBld.drewN | apply Built.IsBld.drew | refine Built.IsBld.far ?_ NB171_167.out _ (by (with_reducible repeat (first | apply Built.NonB.set | apply Built.NonB.drewN | apply Built.NonB.drew)); exact Built.NonB.of BK167.out (by simp))) | exact HI171.out)); (case side2 => repeat (first | (with_reducible first | exact HB.out | apply below_alloc | apply pw_below_drewN | apply below_drew1 | refine below_set ?_ (Built.IsBld.ge HI171.out) | refine below_set ?_ GE167.out) | exact HB.out)); rintro e w57 ⟨rfl, hi, hb, hk⟩; refine ⟨_, rfl, ?_⟩; have n0_ := Aside0.mk (Built.KeepT.blk hk (g' := gb167) (o := .cells #[.int .i64 a0_0, .int .i64 a0_1, .int .i64 a0_2, .slice A0_3 l0_3.length c0_3] 32 (0, 0)) (by (with_reducible repeat (first | refine blk_drewN ?_ _ | refine blk_drew ?_ | refine blk_alloc ?_ _)); exact BK167.out) NB167_171.out (by simp)); have n1_ := Aside0.mk (hb); have n2_ := Aside0.mk (hi); clear BK167; clear HB; clear HI171; have BK167 := n0_; have HB := n1_; have HI171 := n2_; clear n0_ n1_ n2_; (try clear hb); (try clear hb2); (try clear hk); (try clear hi)) | ((with_reducible refine gate_callee (f := 29) rfl ?_); refine goesL_ (some 45) rfl rfl Try.func29 (by kernel_rfl) rfl #[.int .i64 (wrap64 (16 + t182)), .int .i64 2] rfl (by (try simp only [List.map_toArray, List.map_cons, List.map_nil]); first | done | rfl | (simp only [List.length_drop, List.length_take]; rfl)) ?_; (with_reducible refine (octet_Put.calls k1 (wrap64 (16 + t182)) 2 t185 t186 _ A37.out).mono ?_); rintro e w58 ⟨rfl, hb⟩; refine ⟨_, rfl, ?_⟩; have n0_ := Aside0.mk (blk_below (g := gb167) (o := .cells #[.int .i64 a0_0, .int .i64 a0_1, .int .i64 a0_2, .slice A0_3 l0_3.length c0_3] 32 (0, 0)) (by (with_reducible repeat (first | refine blk_drewN ?_ _ | refine blk_drew ?_ | refine blk_alloc ?_ _)); exact BK167.out) hb); have n1_ := Aside0.mk (Built.IsBld.below (by repeat (first | (with_reducible first | exact HI171.out | apply Built.IsBld.alloc | apply Built.IsBld.drewN | apply Built.IsBld.drew | refine Built.IsBld.far ?_ NB171_167.out _ (by (with_reducible repeat (first | apply Built.NonB.set | apply Built.NonB.drewN | apply Built.NonB.drew)); exact Built.NonB.of BK167.out (by simp))) | exact HI171.out)) hb); have n2_ := Aside0.mk (below_step (by repeat (first | (with_reducible first | exact HB.out | apply below_alloc | apply pw_below_drewN | apply below_drew1 | refine below_set ?_ (Built.IsBld.ge HI171.out) | refine below_set ?_ GE167.out) | exact HB.out)) hb); clear BK167; clear HI171; clear HB; have BK167 := n0_; have HI171 := n1_; have HB := n2_; clear n0_ n1_ n2_; (try clear hb); (try clear hb2); (try clear hk); (try clear hi)))
            go_ret2
            exact ⟨by first | rfl | (simp [errW_none, errW_some] <;> rfl) | (simp [*, errW_none, errW_some] <;> rfl), by repeat (first | (with_reducible first | exact HB.out | apply below_alloc | apply pw_below_drewN | apply below_drew1 | refine below_set ?_ (Built.IsBld.ge HI171.out) | refine below_set ?_ GE167.out) | exact HB.out)⟩
  · replace c3 := Bool.eq_false_iff.mpr c3
    subst c3
    have H1 : (some ((⟨#[]⟩ : ByteArray), 1)) = some (r1, r2) := by rw [if_neg (show ¬ (false = true) by decide)] at H; exact H
    clear H
    have H := H1
    clear H1
    simp only [Option.some.injEq, Prod.mk.injEq] at H
    obtain ⟨rfl, rfl⟩ := H
    go_enter Try.func10, Try.ntmps10
    go_wp2_with (first | ((with_reducible refine gate_dst (N := 1) rfl ?_); refine box_event ?hg (N := 1) ?hd (cs := #[.int .i64 a0_0, .int .i64 a0_1, .int .i64 a0_2, .slice A0_3 l0_3.length c0_3]) (t := 32) ?hr ?_; (case hd => rfl); (case hg => rfl); (case hr => first | (go_simp; done) | (go_simp; rfl)); intro gb167 hg w59 hbox hb; have n0_ := Aside0.mk (below_step (by repeat (first | (with_reducible first | exact HB.out | apply below_alloc | apply pw_below_drewN | apply below_drew1) | exact HB.out)) hb); have n1_ := Aside0.mk (hbox); have n2_ := Aside0.mk ((by rw [hg]; exact (below_size (by repeat (first | (with_reducible first | exact HB.out | apply below_alloc | apply pw_below_drewN | apply below_drew1) | exact HB.out))) : w.heap.size ≤ gb167)); have n3_ := Aside0.mk ((by rw [hg]; exact (below_size (by repeat (first | (with_reducible first | exact HB.out | apply below_alloc | apply pw_below_drewN | apply below_drew1) | exact HB.out))) : w.heap.size ≤ gb167)); clear HB; have HB := n0_; have BK167 := n1_; have GW167 := n2_; have GE167 := n3_; clear n0_ n1_ n2_ n3_; clear hb hbox hg; have hcz60_0 : w59.cell? ⟨gb167, 0, none⟩ = some (.int .i64 a0_0) := (blk_cell BK167.out 0).trans rfl; have hcz60_1 : w59.cell? ⟨gb167, 1, none⟩ = some (.int .i64 a0_1) := (blk_cell BK167.out 1).trans rfl; have hcz60_2 : w59.cell? ⟨gb167, 2, none⟩ = some (.int .i64 a0_2) := (blk_cell BK167.out 2).trans rfl; have hcz60_3 : w59.cell? ⟨gb167, 3, none⟩ = some (.slice A0_3 l0_3.length c0_3) := (blk_cell BK167.out 3).trans rfl; have hfz60_0 := blk_frozen BK167.out 0; have hfz60_1 := blk_frozen BK167.out 1; have hfz60_2 := blk_frozen BK167.out 2; have hfz60_3 := blk_frozen BK167.out 3) | ((with_reducible refine gate_callee (f := 23) rfl ?_); refine goesL_ (some 13) rfl rfl Try.func23 (by kernel_rfl) rfl #[.agg #[.int .i64 a0_0, .int .i64 a0_1, .int .i64 a0_2, .slice A0_3 l0_3.length c0_3]] rfl (by (try simp only [List.map_toArray, List.map_cons, List.map_nil]); first | done | rfl | (simp only [List.length_drop, List.length_take]; rfl)) ?_; (with_reducible refine (ipfix_Right.calls a0_0 a0_1 a0_2 _ _ l0_3 false _ ?side1 ?side2 A2.out).mono ?_); (case side1 => repeat (first | exact (Kd.C_below HR0_3.out HB.out) | (with_reducible refine Kd.C_alloc ?_ _) | (with_reducible refine Kd.C_drewN ?_ _) | (with_reducible refine Kd.C_drew ?_))); (case side2 => exact HC0_3.out); rintro e w61 ⟨rfl, hb⟩; refine ⟨_, rfl, ?_⟩; have n0_ := Aside0.mk (blk_below (g := gb167) (o := .cells #[.int .i64 a0_0, .int .i64 a0_1, .int .i64 a0_2, .slice A0_3 l0_3.length c0_3] 32 (0, 0)) (by (with_reducible repeat (first | refine blk_drewN ?_ _ | refine blk_drew ?_ | refine blk_alloc ?_ _)); exact BK167.out) hb); have n1_ := Aside0.mk (below_step (by repeat (first | (with_reducible first | exact HB.out | apply below_alloc | apply pw_below_drewN | apply below_drew1 | refine below_set ?_ GE167.out) | exact HB.out)) hb); clear BK167; clear HB; have BK167 := n0_; have HB := n1_; clear n0_ n1_; (try clear hb); (try clear hb2); (try clear hk); (try clear hi)))
    go_ret2
    exact ⟨by first | rfl | (simp [errW_none, errW_some] <;> rfl) | (simp [*, errW_none, errW_some] <;> rfl), by repeat (first | (with_reducible first | exact HB.out | apply below_alloc | apply pw_below_drewN | apply below_drew1 | refine below_set ?_ GE167.out) | exact HB.out)⟩

end Go.Proofs.Ytojmpdjbhplgkaa.PIpfixJoins
