/- The functions that a law uses, each as a plain function, with the proof that a call of the Go function comes to its answer. Condition of each: the arguments read as the data that it names, and the plain function has an answer. Written by a program of this session (standin.py). -/
import Derived.Test.YtmlcafnnhpfpaaaPBloomFewx0
import Derived.Test.YtmlcafnnhpfpaaaPBloomFewx1
import Derived.Test.YtmlcafnnhpfpaaaPBloomFewx2
import Derived.Lib.SliceRun
namespace Go.Proofs.Ytmlcafnnhpfpaaa.PBloomFew
open Go.RowKit Go.Proofs.YtmlcafnnhpfpaaaW.PrintWords Go.Proofs.YtmlcafnnhpfpaaaW.PrintLast Go.Proofs.YtmlcafnnhpfpaaaW.PrintMore
attribute [local go_sem] max2_int min2_int max_two min_two max_three min_three max_four min_four   -- for this text's walks alone
set_option linter.unusedVariables false
set_option linter.unusedSimpArgs false

/-! ### rillmeterlaw10_BloomFew: function 5 -/
mutual
def rillmeterlaw10_BloomFew.j0 : Nat → Int → List ByteArray → Bool → Int → Int → List Bool → Option (Bool)
  | 0, _, _, _, _, _, _ => none
  | k + 1, x2, x3, x29, x186000, x186001, x186002 => if x29 = true then ((rillmeterlaw10_awake.f k).bind fun t187 => (some t187)) else (rillmeterlaw10_BloomFew.l0 k x2 x3 (x3.length : Int) 0 x186000 x186001 x186002)
def rillmeterlaw10_BloomFew.l0 : Nat → Int → List ByteArray → Int → Int → Int → Int → List Bool → Option (Bool)
  | 0, _, _, _, _, _, _, _ => none
  | k + 1, x2, x31, x32, x33, x186000, x186001, x186002 => if x33 < x32 then (if 0 ≤ x33 then (if x33 < (x31.length : Int) then ((bloom_Has.f k x186000 x186001 x186002 (rdOf ByteArray.empty x31 x33)).bind fun t190 => ((bloom_Set.f k x186000 x186001 x186002).bind fun t191 => ((bloom_Add.f k x186000 x186001 x186002 (rdOf ByteArray.empty x31 x33)).bind fun bt192 => ((bloom_Set.f k bt192.1 bt192.2.1 bt192.2.2).bind fun t197 => (if (wrap64 (t197 - t191)) < 0 then (some false) else (if (wrap64 (t197 - t191)) > x2 then (some false) else (if (t190 != ((wrap64 (t197 - t191)) == 0)) = true then (some false) else (rillmeterlaw10_BloomFew.l0 k x2 x31 x32 (wrap64 (x33 + 1)) bt192.1 bt192.2.1 bt192.2.2)))))))) else (none)) else (none)) else ((rillmeterlaw10_awake.f k).bind fun t188 => (some t188))
end
def rillmeterlaw10_BloomFew.f (k : Nat) (a0 : Int) (a1 : Int) (a2 : Int) (l3 : List ByteArray) : Option (Bool) := (bloom_New.f k a0 a1 a2).bind fun bt179 => (if bt179.2.2.2 = 0 then ((rillmeterref10_Short.f k l3 30).bind fun t186 => (rillmeterlaw10_BloomFew.j0 k a2 l3 (!t186) bt179.1 bt179.2.1 bt179.2.2.1)) else (rillmeterlaw10_BloomFew.j0 k a2 l3 true bt179.1 bt179.2.1 bt179.2.2.1))
theorem rillmeterlaw10_BloomFew.mono_l : ∀ k, (∀ y0 y1 y2 y3 y4 y5, LeO (rillmeterlaw10_BloomFew.j0 k y0 y1 y2 y3 y4 y5) (rillmeterlaw10_BloomFew.j0 (k + 1) y0 y1 y2 y3 y4 y5)) ∧ (∀ y0 y1 y2 y3 y4 y5 y6, LeO (rillmeterlaw10_BloomFew.l0 k y0 y1 y2 y3 y4 y5 y6) (rillmeterlaw10_BloomFew.l0 (k + 1) y0 y1 y2 y3 y4 y5 y6))
  | 0 => ⟨fun _ _ _ _ _ _ r h => by simp [rillmeterlaw10_BloomFew.j0] at h, fun _ _ _ _ _ _ _ r h => by simp [rillmeterlaw10_BloomFew.l0] at h⟩
  | k + 1 => by
    obtain ⟨ih0, ih1⟩ := rillmeterlaw10_BloomFew.mono_l k
    refine ⟨?_, ?_⟩
    · intro y0 y1 y2 y3 y4 y5
      unfold rillmeterlaw10_BloomFew.j0
      repeat' first
      | (with_reducible exact ih0 _ _ _ _ _ _)
      | (with_reducible exact ih1 _ _ _ _ _ _ _)
      | (with_reducible exact bloom_Add.mono _ _ _ _ _)
      | (with_reducible exact bloom_Has.mono _ _ _ _ _)
      | (with_reducible exact bloom_New.mono _ _ _ _)
      | (with_reducible exact bloom_Set.mono _ _ _ _)
      | (with_reducible exact rillmeterlaw10_awake.mono _)
      | (with_reducible exact rillmeterref10_Short.mono _ _ _)
      | (with_reducible exact LeO.refl _)
      | (with_reducible exact LeO.none _)
      | (with_reducible refine LeO.ite ?_ ?_)
      | (with_reducible refine LeO.bind ?_ (fun _ => ?_))
      | exact ih0 _ _ _ _ _ _
      | exact ih1 _ _ _ _ _ _ _
      | exact bloom_Add.mono _ _ _ _ _
      | exact bloom_Has.mono _ _ _ _ _
      | exact bloom_New.mono _ _ _ _
      | exact bloom_Set.mono _ _ _ _
      | exact rillmeterlaw10_awake.mono _
      | exact rillmeterref10_Short.mono _ _ _
      | exact LeO.none _
      | refine LeO.ite ?_ ?_
      | refine LeO.bind ?_ (fun _ => ?_)
    · intro y0 y1 y2 y3 y4 y5 y6
      unfold rillmeterlaw10_BloomFew.l0
      repeat' first
      | (with_reducible exact ih0 _ _ _ _ _ _)
      | (with_reducible exact ih1 _ _ _ _ _ _ _)
      | (with_reducible exact bloom_Add.mono _ _ _ _ _)
      | (with_reducible exact bloom_Has.mono _ _ _ _ _)
      | (with_reducible exact bloom_New.mono _ _ _ _)
      | (with_reducible exact bloom_Set.mono _ _ _ _)
      | (with_reducible exact rillmeterlaw10_awake.mono _)
      | (with_reducible exact rillmeterref10_Short.mono _ _ _)
      | (with_reducible exact LeO.refl _)
      | (with_reducible exact LeO.none _)
      | (with_reducible refine LeO.ite ?_ ?_)
      | (with_reducible refine LeO.bind ?_ (fun _ => ?_))
      | exact ih0 _ _ _ _ _ _
      | exact ih1 _ _ _ _ _ _ _
      | exact bloom_Add.mono _ _ _ _ _
      | exact bloom_Has.mono _ _ _ _ _
      | exact bloom_New.mono _ _ _ _
      | exact bloom_Set.mono _ _ _ _
      | exact rillmeterlaw10_awake.mono _
      | exact rillmeterref10_Short.mono _ _ _
      | exact LeO.none _
      | refine LeO.ite ?_ ?_
      | refine LeO.bind ?_ (fun _ => ?_)
theorem rillmeterlaw10_BloomFew.mono : ∀ a0 a1 a2 a3 k, LeO (rillmeterlaw10_BloomFew.f k a0 a1 a2 a3) (rillmeterlaw10_BloomFew.f (k + 1) a0 a1 a2 a3) := by
  intro a0 a1 a2 a3 k
  obtain ⟨ih0, ih1⟩ := rillmeterlaw10_BloomFew.mono_l k
  unfold rillmeterlaw10_BloomFew.f
  repeat' first
      | (with_reducible exact ih0 _ _ _ _ _ _)
      | (with_reducible exact ih1 _ _ _ _ _ _ _)
      | (with_reducible exact bloom_Add.mono _ _ _ _ _)
      | (with_reducible exact bloom_Has.mono _ _ _ _ _)
      | (with_reducible exact bloom_New.mono _ _ _ _)
      | (with_reducible exact bloom_Set.mono _ _ _ _)
      | (with_reducible exact rillmeterlaw10_awake.mono _)
      | (with_reducible exact rillmeterref10_Short.mono _ _ _)
      | (with_reducible exact LeO.refl _)
      | (with_reducible exact LeO.none _)
      | (with_reducible refine LeO.ite ?_ ?_)
      | (with_reducible refine LeO.bind ?_ (fun _ => ?_))
      | exact ih0 _ _ _ _ _ _
      | exact ih1 _ _ _ _ _ _ _
      | exact bloom_Add.mono _ _ _ _ _
      | exact bloom_Has.mono _ _ _ _ _
      | exact bloom_New.mono _ _ _ _
      | exact bloom_Set.mono _ _ _ _
      | exact rillmeterlaw10_awake.mono _
      | exact rillmeterref10_Short.mono _ _ _
      | exact LeO.none _
      | refine LeO.ite ?_ ?_
      | refine LeO.bind ?_ (fun _ => ?_)
set_option maxHeartbeats 8000000 in
set_option maxRecDepth 100000 in
theorem rillmeterlaw10_BloomFew.calls (k : Nat) (a0 : Int) (a1 : Int) (a2 : Int) (A3 : Option Addr) (c3 : Nat) (l3 : List ByteArray) (r : Bool) (w : World) (hr3 : Kd.C Kd.string w A3 l3.length l3) (hc3 : l3.length ≤ c3) (h : rillmeterlaw10_BloomFew.f k a0 a1 a2 l3 = some r) (hrt : Aside0 (r = true)) :
    Calls Try.prog 5 #[.int .u64 a0, .int .i64 a1, .int .i64 a2, .slice A3 l3.length c3] w fun e w' => e = .returned (.bool r) ∧ Below w.heap.size w w' := by
  have hu25 := Try.underlying25
  have HR3 := Aside0.mk hr3
  have HC3 := Aside0.mk hc3
  clear hr3 hc3
  have HB := Aside0.mk (Below.refl w.heap.size w)
  have H : ((bloom_New.f k a0 a1 a2).bind fun bt179 => (if bt179.2.2.2 = 0 then ((rillmeterref10_Short.f k l3 30).bind fun t186 => (rillmeterlaw10_BloomFew.j0 k a2 l3 (!t186) bt179.1 bt179.2.1 bt179.2.2.1)) else (rillmeterlaw10_BloomFew.j0 k a2 l3 true bt179.1 bt179.2.1 bt179.2.2.1))) = some r := h
  clear h
  replace H := Option.bind_eq_some_iff.mp H
  obtain ⟨⟨t179, t180, t181, t184⟩, A50, H⟩ := H
  replace H : (if t184 = 0 then ((rillmeterref10_Short.f k l3 30).bind fun t186 => (rillmeterlaw10_BloomFew.j0 k a2 l3 (!t186) t179 t180 t181)) else (rillmeterlaw10_BloomFew.j0 k a2 l3 true t179 t180 t181)) = some r := H
  have A5 := Aside0.mk A50
  clear A50
  have HC6 := Aside0.mk H
  clear H
  go_enter Try.func5, Try.ntmps5
  go_upto_region 2 with (first | ((with_reducible refine gate_callee (f := 9) rfl ?_); refine goesL_ (some 20) rfl rfl Try.func9 (by kernel_rfl) rfl #[.int .u64 a0, .int .i64 a1, .int .i64 a2] rfl (by (try simp only [List.map_toArray, List.map_cons, List.map_nil]); first | done | rfl | (simp only [List.length_drop, List.length_take]; rfl)) ?_; (with_reducible refine (bloom_New.calls k a0 a1 a2 t179 t180 t181 t184 _ A5.out).mono ?_); rintro e w7 ⟨v182, rfl, ho0, hb⟩; refine ⟨_, rfl, ?_⟩; have n0_ := Aside0.mk (Kd.R_lower ho0 (below_size (by repeat (first | (with_reducible first | exact HB.out | apply below_alloc | apply pw_below_drewN | apply below_drew1) | exact HB.out)))); have n1_ := Aside0.mk (below_step (by repeat (first | (with_reducible first | exact HB.out | apply below_alloc | apply pw_below_drewN | apply below_drew1) | exact HB.out)) hb); clear HB; have HO183 := n0_; have HB := n1_; clear n0_ n1_; (try clear hb); (try clear hb2); (try clear hk); (try clear hi); (try clear ho0)) | ((with_reducible refine gate_dst (N := 9) rfl ?_); refine box_event ?hg (N := 9) ?hd (cs := #[.int .u64 0, .int .i64 0, .slice none 0 0]) (t := 25) ?hr ?_; (case hd => rfl); (case hg => rfl); (case hr => first | (go_simp; done) | (go_simp; rfl)); intro gb185 hg w8 hbox hb; have n0_ := Aside0.mk (Kd.R_below (by (with_reducible repeat (first | apply Kd.R_alloc | apply Kd.R_drewN | apply Kd.R_drew)); exact HO183.out) hb); have n1_ := Aside0.mk (below_step (by repeat (first | (with_reducible first | exact HB.out | apply below_alloc | apply pw_below_drewN | apply below_drew1) | exact HB.out)) hb); have n2_ := Aside0.mk (hbox); have n3_ := Aside0.mk ((by rw [hg]; exact (below_size (by repeat (first | (with_reducible first | exact HB.out | apply below_alloc | apply pw_below_drewN | apply below_drew1) | exact HB.out))) : w.heap.size ≤ gb185)); have n4_ := Aside0.mk ((by rw [hg]; exact (below_size (by repeat (first | (with_reducible first | exact HB.out | apply below_alloc | apply pw_below_drewN | apply below_drew1) | exact HB.out))) : w.heap.size ≤ gb185)); clear HO183; clear HB; have HO183 := n0_; have HB := n1_; have BK185 := n2_; have GW185 := n3_; have GE185 := n4_; clear n0_ n1_ n2_ n3_ n4_; clear hb hbox hg; have hcz9_0 : w8.cell? ⟨gb185, 0, none⟩ = some (.int .u64 0) := (blk_cell BK185.out 0).trans rfl; have hcz9_1 : w8.cell? ⟨gb185, 1, none⟩ = some (.int .i64 0) := (blk_cell BK185.out 1).trans rfl; have hcz9_2 : w8.cell? ⟨gb185, 2, none⟩ = some (.slice none 0 0) := (blk_cell BK185.out 2).trans rfl; have hfz9_0 := blk_frozen BK185.out 0; have hfz9_1 := blk_frozen BK185.out 1; have hfz9_2 := blk_frozen BK185.out 2; obtain ⟨Ao10, co10, eo10⟩ := Kd.R_slice HO183.out; subst eo10))
  (try simp only [Act.put, List.setIfInBounds_toArray, List.set_cons_zero, List.set_cons_succ])
  go_cut [29] (fun v29 wc => ∃ (kq : Nat) (x29_5 : Bool), v29 = .bool x29_5 ∧ Aside0 (rillmeterlaw10_BloomFew.j0 kq a2 l3 x29_5 t179 t180 t181 = some r) ∧ Aside0 (kq ≤ k) ∧ Aside0 (Kd.R Kd.bool 4 wc w.heap.size (fun _ => True) (.slice Ao10 t181.length co10) t181) ∧ Aside0 (wc.heap[gb185]? = some (.cells #[.int .u64 t179, .int .i64 t180, (.slice Ao10 t181.length co10)] 25 (0, 0))) ∧ Aside0 (Below w.heap.size w wc))
  case first =>
    have H := HC6.out
    clear HC6
    by_cases c11 : t184 = 0
    · rw [if_pos c11] at H
      have c11b0 : (t184 == 0) = true := beq_iff_eq.mpr c11
      have c11b1 : (t184 != 0) = false := bne_eq_false_iff_eq.mpr c11
      clear c11
      (first | rw [c11b0] | (simp only [i64_w, i32_w]; rw [c11b0]) | skip)
      replace H := Option.bind_eq_some_iff.mp H
      obtain ⟨t186, A120, H⟩ := H
      replace H : (rillmeterlaw10_BloomFew.j0 k a2 l3 (!t186) t179 t180 t181) = some r := H
      have A12 := Aside0.mk A120
      clear A120
      have H' := Aside0.mk H
      clear H
      go_wp2_with (first | (go_at_call 24; (with_reducible refine (rillmeterref10_Short.calls k _ _ l3 30 t186 _ ?side1 ?side2 A12.out).mono ?_); (case side1 => exact Kd.C_below HR3.out (by repeat (first | (with_reducible first | exact HB.out | apply below_alloc | apply pw_below_drewN | apply below_drew1 | refine below_set ?_ GE185.out) | exact HB.out))); (case side2 => exact HC3.out); rintro e w' ⟨rfl, ⟨nd, rfl⟩⟩))
      go_meet
      case rel => exact ⟨_, (!t186), (by first | rfl | (simp; done) | (simp [*]; done)), H', ⟨by first | omega | exact Nat.le_refl _⟩, ⟨by (with_reducible repeat (first | apply Kd.R_alloc | apply Kd.R_drewN | apply Kd.R_drew)); exact Kd.R_mono (Kd.R_far (p := ⟨gb185, 2, none⟩) (Kd.R_far (p := ⟨gb185, 1, none⟩) (Kd.R_far (p := ⟨gb185, 0, none⟩) (Kd.R_types HO183.out BK185.out (by decide)) (fun _ hk => hk.2) (.int .u64 t179)) (fun _ hk => hk.2) (.int .i64 t180)) (fun _ hk => hk.2) (.slice Ao10 t181.length co10)) (fun _ hk => trivial)⟩, ⟨by (with_reducible repeat (first | refine blk_drewN ?_ _ | refine blk_drew ?_ | refine blk_alloc ?_ _)); refine blk_put (cs := #[.int .u64 t179, .int .i64 t180, .slice none 0 0]) ?_ 2 _ rfl; (with_reducible repeat (first | refine blk_drewN ?_ _ | refine blk_drew ?_ | refine blk_alloc ?_ _)); refine blk_put (cs := #[.int .u64 t179, .int .i64 0, .slice none 0 0]) ?_ 1 _ rfl; (with_reducible repeat (first | refine blk_drewN ?_ _ | refine blk_drew ?_ | refine blk_alloc ?_ _)); refine blk_put (cs := #[.int .u64 0, .int .i64 0, .slice none 0 0]) ?_ 0 _ rfl; (with_reducible repeat (first | refine blk_drewN ?_ _ | refine blk_drew ?_ | refine blk_alloc ?_ _)); exact BK185.out⟩, ⟨by repeat (first | (with_reducible first | exact HB.out | apply below_alloc | apply pw_below_drewN | apply below_drew1 | refine below_set ?_ GE185.out) | exact HB.out)⟩⟩
    · rw [if_neg c11] at H
      have c11b0 : (t184 == 0) = false := beq_eq_false_iff_ne.mpr c11
      have c11b1 : (t184 != 0) = true := bne_iff_ne.mpr c11
      (first | rw [c11b0] | (simp only [i64_w, i32_w]; rw [c11b0]) | skip)
      have H' := Aside0.mk H
      clear H
      go_wp2
      go_meet
      case rel => exact ⟨_, (true), (by first | rfl | (simp; done) | (simp [*]; done)), H', ⟨by first | omega | exact Nat.le_refl _⟩, ⟨by (with_reducible repeat (first | apply Kd.R_alloc | apply Kd.R_drewN | apply Kd.R_drew)); exact Kd.R_mono (Kd.R_far (p := ⟨gb185, 2, none⟩) (Kd.R_far (p := ⟨gb185, 1, none⟩) (Kd.R_far (p := ⟨gb185, 0, none⟩) (Kd.R_types HO183.out BK185.out (by decide)) (fun _ hk => hk.2) (.int .u64 t179)) (fun _ hk => hk.2) (.int .i64 t180)) (fun _ hk => hk.2) (.slice Ao10 t181.length co10)) (fun _ hk => trivial)⟩, ⟨by (with_reducible repeat (first | refine blk_drewN ?_ _ | refine blk_drew ?_ | refine blk_alloc ?_ _)); refine blk_put (cs := #[.int .u64 t179, .int .i64 t180, .slice none 0 0]) ?_ 2 _ rfl; (with_reducible repeat (first | refine blk_drewN ?_ _ | refine blk_drew ?_ | refine blk_alloc ?_ _)); refine blk_put (cs := #[.int .u64 t179, .int .i64 0, .slice none 0 0]) ?_ 1 _ rfl; (with_reducible repeat (first | refine blk_drewN ?_ _ | refine blk_drew ?_ | refine blk_alloc ?_ _)); refine blk_put (cs := #[.int .u64 0, .int .i64 0, .slice none 0 0]) ?_ 0 _ rfl; (with_reducible repeat (first | refine blk_drewN ?_ _ | refine blk_drew ?_ | refine blk_alloc ?_ _)); exact BK185.out⟩, ⟨by repeat (first | (with_reducible first | exact HB.out | apply below_alloc | apply pw_below_drewN | apply below_drew1 | refine below_set ?_ GE185.out) | exact HB.out)⟩⟩
  case rest =>
    clear HC6
    try clear c1
    try clear p2
    try clear c3
    try clear c5
    try clear c9
    try clear c11
    try clear c11b0
    try clear c11b1
    try clear hcz9_0
    try clear hcz9_1
    try clear hcz9_2
    try clear hfz9_0
    try clear hfz9_1
    try clear hfz9_2
    obtain ⟨kq, x29_5, rfl, HA, HJ5, HO_186002, BK185, HB⟩ := hcut
    cases kq with
    | zero => exact absurd HA.out (by simp [rillmeterlaw10_BloomFew.j0])
    | succ kj5 =>
      have H := HA.out
      clear HA
      simp only [rillmeterlaw10_BloomFew.j0] at H
      by_cases c13 : x29_5 = true
      · subst c13
        have H1 : ((rillmeterlaw10_awake.f kj5).bind fun t187 => (some t187)) = some r := by rw [if_pos rfl] at H; exact H
        clear H
        have H := H1
        clear H1
        replace H := Option.bind_eq_some_iff.mp H
        obtain ⟨t187, A140, H⟩ := H
        replace H : (some t187) = some r := H
        have A14 := Aside0.mk A140
        clear A140
        obtain rfl := Option.some.inj H
        go_wp2_with (first | ((with_reducible refine gate_callee (f := 12) rfl ?_); refine goesL_ (some 30) rfl rfl Try.func12 (by kernel_rfl) rfl #[] rfl (by (try simp only [List.map_toArray, List.map_cons, List.map_nil]); first | done | rfl | (simp only [List.length_drop, List.length_take]; rfl)) ?_; (with_reducible refine (rillmeterlaw10_awake.calls kj5  t187 _ A14.out).mono ?_); rintro e w15 ⟨rfl, hb⟩; refine ⟨_, rfl, ?_⟩; have n0_ := Aside0.mk (Kd.R_below (by (with_reducible repeat (first | apply Kd.R_alloc | apply Kd.R_drewN | apply Kd.R_drew)); exact HO_186002.out) hb); have n1_ := Aside0.mk (blk_below (g := gb185) (o := .cells #[.int .u64 t179, .int .i64 t180, .slice Ao10 t181.length co10] 25 (0, 0)) (by (with_reducible repeat (first | refine blk_drewN ?_ _ | refine blk_drew ?_ | refine blk_alloc ?_ _)); exact BK185.out) hb); have n2_ := Aside0.mk (below_step (by repeat (first | (with_reducible first | exact HB.out | apply below_alloc | apply pw_below_drewN | apply below_drew1 | refine below_set ?_ GE185.out) | exact HB.out)) hb); clear HO_186002; clear BK185; clear HB; have HO_186002 := n0_; have BK185 := n1_; have HB := n2_; clear n0_ n1_ n2_; (try clear hb); (try clear hb2); (try clear hk); (try clear hi)))
        go_ret
        exact ⟨by first | rfl | (simp [errW_none, errW_some] <;> rfl) | (simp [*, errW_none, errW_some] <;> rfl), by repeat (first | (with_reducible first | exact HB.out | apply below_alloc | apply pw_below_drewN | apply below_drew1 | refine below_set ?_ GE185.out) | exact HB.out)⟩
      · replace c13 := Bool.eq_false_iff.mpr c13
        subst c13
        have H1 : (rillmeterlaw10_BloomFew.l0 kj5 a2 l3 (l3.length : Int) 0 t179 t180 t181) = some r := by rw [if_neg (show ¬ (false = true) by decide)] at H; exact H
        clear H
        have H := H1
        clear H1
        have H' := Aside0.mk H
        clear H
        go_wp2
        go_loopg [33] kj5 (fun kq v33 w' => ∃ (x33_2 : Int) (x186000_2 : Int) (x186001_2 : Int) (x186002_2 : List Bool) (u186002 : Value), v33 = .int .i64 x33_2 ∧ Aside0 (rillmeterlaw10_BloomFew.l0 kq a2 l3 (l3.length : Int) x33_2 x186000_2 x186001_2 x186002_2 = some r) ∧ Aside0 (kq ≤ kj5) ∧ Aside0 (Kd.R Kd.bool 4 w' w.heap.size (fun _ => True) u186002 x186002_2) ∧ Aside0 (w'.heap[gb185]? = some (.cells #[.int .u64 x186000_2, .int .i64 x186001_2, u186002] 25 (0, 0))) ∧ Aside0 (Below w.heap.size w w'))
        case atStart => exact ⟨(0), (t179), (t180), (t181), (.slice Ao10 t181.length co10), (by first | rfl | (simp; done) | (simp [*]; done)), H', ⟨Nat.le_refl _⟩, ⟨by (with_reducible repeat (first | apply Kd.R_alloc | apply Kd.R_drewN | apply Kd.R_drew)); exact HO_186002.out⟩, ⟨by (with_reducible repeat (first | refine blk_drewN ?_ _ | refine blk_drew ?_ | refine blk_alloc ?_ _)); exact BK185.out⟩, ⟨by repeat (first | (with_reducible first | exact HB.out | apply below_alloc | apply pw_below_drewN | apply below_drew1 | refine below_set ?_ GE185.out) | exact HB.out)⟩⟩
        case round =>
          clear H'
          try clear c1
          try clear p2
          try clear c3
          try clear c5
          try clear c9
          try clear c11
          try clear c11b0
          try clear c11b1
          try clear c12
          try clear c13
          try clear hcz9_0
          try clear hcz9_1
          try clear hcz9_2
          try clear hfz9_0
          try clear hfz9_1
          try clear hfz9_2
          try clear p2
          obtain ⟨x33_2, x186000_2, x186001_2, x186002_2, u186002, rfl, HA, HK2, HO_186002, BK185, HB⟩ := hrel
          cases gk with
          | zero => exact absurd HA.out (by simp [rillmeterlaw10_BloomFew.l0])
          | succ k2 =>
            have H := HA.out
            clear HA
            simp only [rillmeterlaw10_BloomFew.l0] at H
            by_cases c16 : x33_2 < (l3.length : Int)
            · rw [if_pos c16] at H
              have c16b0 : decide (x33_2 < (l3.length : Int)) = true := decide_eq_true c16
              clear c16
              by_cases c17 : 0 ≤ x33_2
              · rw [if_pos c17] at H
                have c17b0 : decide (0 ≤ x33_2) = true := decide_eq_true c17
                clear c17
                by_cases c18 : x33_2 < (l3.length : Int)
                · rw [if_pos c18] at H
                  have c18b0 : decide (x33_2 < (l3.length : Int)) = true := decide_eq_true c18
                  clear c18
                  replace H := Option.bind_eq_some_iff.mp H
                  obtain ⟨t190, A190, H⟩ := H
                  replace H : ((bloom_Set.f k2 x186000_2 x186001_2 x186002_2).bind fun t191 => ((bloom_Add.f k2 x186000_2 x186001_2 x186002_2 (rdOf ByteArray.empty l3 x33_2)).bind fun bt192 => ((bloom_Set.f k2 bt192.1 bt192.2.1 bt192.2.2).bind fun t197 => (if (wrap64 (t197 - t191)) < 0 then (some false) else (if (wrap64 (t197 - t191)) > a2 then (some false) else (if (t190 != ((wrap64 (t197 - t191)) == 0)) = true then (some false) else (rillmeterlaw10_BloomFew.l0 k2 a2 l3 (l3.length : Int) (wrap64 (x33_2 + 1)) bt192.1 bt192.2.1 bt192.2.2))))))) = some r := H
                  have A19 := Aside0.mk A190
                  clear A190
                  replace H := Option.bind_eq_some_iff.mp H
                  obtain ⟨t191, A200, H⟩ := H
                  replace H : ((bloom_Add.f k2 x186000_2 x186001_2 x186002_2 (rdOf ByteArray.empty l3 x33_2)).bind fun bt192 => ((bloom_Set.f k2 bt192.1 bt192.2.1 bt192.2.2).bind fun t197 => (if (wrap64 (t197 - t191)) < 0 then (some false) else (if (wrap64 (t197 - t191)) > a2 then (some false) else (if (t190 != ((wrap64 (t197 - t191)) == 0)) = true then (some false) else (rillmeterlaw10_BloomFew.l0 k2 a2 l3 (l3.length : Int) (wrap64 (x33_2 + 1)) bt192.1 bt192.2.1 bt192.2.2)))))) = some r := H
                  have A20 := Aside0.mk A200
                  clear A200
                  replace H := Option.bind_eq_some_iff.mp H
                  obtain ⟨⟨t192, t193, t194⟩, A210, H⟩ := H
                  replace H : ((bloom_Set.f k2 t192 t193 t194).bind fun t197 => (if (wrap64 (t197 - t191)) < 0 then (some false) else (if (wrap64 (t197 - t191)) > a2 then (some false) else (if (t190 != ((wrap64 (t197 - t191)) == 0)) = true then (some false) else (rillmeterlaw10_BloomFew.l0 k2 a2 l3 (l3.length : Int) (wrap64 (x33_2 + 1)) t192 t193 t194))))) = some r := H
                  have A21 := Aside0.mk A210
                  clear A210
                  replace H := Option.bind_eq_some_iff.mp H
                  obtain ⟨t197, A220, H⟩ := H
                  replace H : (if (wrap64 (t197 - t191)) < 0 then (some false) else (if (wrap64 (t197 - t191)) > a2 then (some false) else (if (t190 != ((wrap64 (t197 - t191)) == 0)) = true then (some false) else (rillmeterlaw10_BloomFew.l0 k2 a2 l3 (l3.length : Int) (wrap64 (x33_2 + 1)) t192 t193 t194)))) = some r := H
                  have A22 := Aside0.mk A220
                  clear A220
                  by_cases c23 : (wrap64 (t197 - t191)) < 0
                  · rw [if_pos c23] at H
                    have c23b0 : decide ((wrap64 (t197 - t191)) < 0) = true := decide_eq_true c23
                    clear c23
                    exact absurd ((Option.some.inj H).trans hrt.out) (by decide)
                  · rw [if_neg c23] at H
                    have c23b0 : decide ((wrap64 (t197 - t191)) < 0) = false := decide_eq_false c23
                    clear c23
                    by_cases c24 : (wrap64 (t197 - t191)) > a2
                    · rw [if_pos c24] at H
                      have c24b0 : decide (a2 < (wrap64 (t197 - t191))) = true := decide_eq_true c24
                      clear c24
                      exact absurd ((Option.some.inj H).trans hrt.out) (by decide)
                    · rw [if_neg c24] at H
                      have c24b0 : decide (a2 < (wrap64 (t197 - t191))) = false := decide_eq_false c24
                      clear c24
                      by_cases c25 : (t190 != ((wrap64 (t197 - t191)) == 0)) = true
                      · rw [if_pos c25] at H
                        have c25b0 : (t190 != ((wrap64 (t197 - t191)) == 0)) = true := c25
                        (try (have c25b1 : decide (t190 = ((wrap64 (t197 - t191)) == 0)) = false := by simpa using c25))
                        (try (have c25b2 : (t190 == ((wrap64 (t197 - t191)) == 0)) = false := by simpa using c25))
                        (try (have c25b3 : ¬ (t190 = ((wrap64 (t197 - t191)) == 0)) := by simpa using c25))
                        clear c25
                        exact absurd ((Option.some.inj H).trans hrt.out) (by decide)
                      · rw [if_neg c25] at H
                        have c25b0 : (t190 != ((wrap64 (t197 - t191)) == 0)) = false := by simpa using c25
                        (try (have c25b1 : decide (t190 = ((wrap64 (t197 - t191)) == 0)) = true := by simpa using c25))
                        (try (have c25b2 : (t190 == ((wrap64 (t197 - t191)) == 0)) = true := by simpa using c25))
                        clear c25
                        have H' := Aside0.mk H
                        clear H
                        have p189 : 0 ≤ (x33_2 : Int) := of_decide_eq_true (by first | (with_reducible assumption) | assumption)
                        have q189 : x33_2 < (l3.length : Int) := of_decide_eq_true (by first | (with_reducible assumption) | assumption)
                        obtain ⟨ad189, e189, hx189_0⟩ := Kd.at_string HR3.out x33_2 p189 q189
                        cases e189
                        replace hx189_0 := (HB.out.cell (World.block_lt_of_cell? w _ hx189_0)).trans hx189_0
                        replace p189 := eq_true p189
                        replace q189 := eq_true q189
                        try go_wp2
                        have n0_ := Aside0.mk (Kd.R_drew HO_186002.out)
                        have n1_ := Aside0.mk (blk_drew BK185.out)
                        have n2_ := Aside0.mk (below_drew1 HB.out)
                        clear HO_186002
                        clear BK185
                        clear HB
                        have HO_186002 := n0_
                        have BK185 := n1_
                        have HB := n2_
                        clear n0_ n1_ n2_
                        obtain ⟨Ao27, co27, eo27⟩ := Kd.R_slice HO_186002.out
                        (first | subst eo27 | (injection eo27 with f1_ f2_ f3_; have f4_ := f1_.symm; have f5_ := f3_.symm; clear f1_ f2_ f3_; subst f4_; subst f5_))
                        refine start_ (n := 7) (S := fun w' => w'.cell? ⟨gb185, 0, none⟩ = some (.int .u64 x186000_2) ∧ w'.cell? ⟨gb185, 1, none⟩ = some (.int .i64 x186001_2) ∧ w'.cell? ⟨gb185, 2, none⟩ = some (.slice Ao27 x186002_2.length co27)) (ds := []) #[false, false, false, false, false, false, false] (by kernel_rfl) rfl rfl ⟨(blk_cell BK185.out 0).trans rfl, (blk_cell BK185.out 1).trans rfl, (blk_cell BK185.out 2).trans rfl⟩ (fun hHeld => ?_)
                        generalize wr.drew = w26 at HO_186002 BK185 HB hHeld ⊢
                        refine pure_ (i := 1) (N := some 38) (v := ?_) (a' := ?_) #[false, true, false, false, false, false, false] rfl rfl (by kernel_rfl) (fun _ _ _ h => h) (Or.inl ⟨by rfl, ?_⟩) ?_ ?_
                        rotate_left
                        · intro w'
                          go_simp
                          with_reducible rfl
                        rotate_left
                        · simp only [Act.put, List.setIfInBounds_toArray, List.set_cons_zero, List.set_cons_succ, i64_w, i32_w]
                          rfl
                        refine take_ (i := 0) (N := some 37) (v := ?_) (a' := ?_) #[true, true, false, false, false, false, false] rfl rfl (by kernel_rfl) (fun _ _ _ h => h) (Or.inl ⟨by rfl, ?_⟩) hHeld ?_ ?_
                        rotate_left
                        · rintro w' ⟨s0, s1, s2⟩
                          go_simp
                          with_reducible rfl
                        rotate_left
                        · simp only [Act.put, List.setIfInBounds_toArray, List.set_cons_zero, List.set_cons_succ, i64_w, i32_w]
                          rfl
                        refine take_ (i := 3) (N := some 40) (v := ?_) (a' := ?_) #[true, true, false, true, false, false, false] rfl rfl (by kernel_rfl) (fun _ _ _ h => h) (Or.inl ⟨by rfl, ?_⟩) hHeld ?_ ?_
                        rotate_left
                        · rintro w' ⟨s0, s1, s2⟩
                          go_simp
                          with_reducible rfl
                        rotate_left
                        · simp only [Act.put, List.setIfInBounds_toArray, List.set_cons_zero, List.set_cons_succ, i64_w, i32_w]
                          rfl
                        refine one_ (i := 2) (N := some 39) #[true, true, true, true, false, false, false] rfl rfl (by kernel_rfl) (by decide) (fun K hK => ?_)
                        refine goes_ Try.func19 (by kernel_rfl) rfl #[.agg #[.int .u64 x186000_2, .int .i64 x186001_2, .slice Ao27 x186002_2.length co27], .string (rdOf ByteArray.empty l3 x33_2)] (by rfl) rfl rfl (by (try simp only [List.map_toArray, List.map_cons, List.map_nil]); first | done | rfl | (simp only [List.length_drop, List.length_take]; rfl)) ?_
                        with_reducible refine (bloom_Has.calls k2 x186000_2 x186001_2 _ _ x186002_2 (rdOf ByteArray.empty l3 x33_2) t190 _ ?side1 ?side2 A19.out).mono ?_
                        (case side1 => repeat (first | exact (Kd.R_reads' HO_186002.out).2.2 | (with_reducible refine Kd.C_alloc ?_ _) | (with_reducible refine Kd.C_drewN ?_ _) | (with_reducible refine Kd.C_drew ?_)))
                        (case side2 => exact (Kd.R_reads' HO_186002.out).2.1)
                        rintro e w28 ⟨rfl, hb⟩
                        refine ⟨_, rfl, ?_⟩
                        have n0_ := Aside0.mk (Kd.R_below (by (with_reducible repeat (first | apply Kd.R_alloc | apply Kd.R_drewN | apply Kd.R_drew)); exact HO_186002.out) hb)
                        have n1_ := Aside0.mk (blk_below (g := gb185) (o := .cells #[.int .u64 x186000_2, .int .i64 x186001_2, .slice Ao27 x186002_2.length co27] 25 (0, 0)) (by (with_reducible repeat (first | refine blk_drewN ?_ _ | refine blk_drew ?_ | refine blk_alloc ?_ _)); exact BK185.out) hb)
                        have n2_ := Aside0.mk (below_step (by repeat (first | (with_reducible first | exact HB.out | apply below_alloc | apply pw_below_drewN | apply below_drew1 | refine below_set ?_ GE185.out) | exact HB.out)) hb)
                        clear HO_186002
                        clear BK185
                        clear HB
                        have HO_186002 := n0_
                        have BK185 := n1_
                        have HB := n2_
                        clear n0_ n1_ n2_
                        (try clear hb)
                        (try clear hb2)
                        (try clear hk)
                        (try clear hi)
                        refine hK.out _ _ ⟨(blk_cell BK185.out 0).trans rfl, (blk_cell BK185.out 1).trans rfl, (blk_cell BK185.out 2).trans rfl⟩ (fun hHeld => ?_)
                        clear hK K
                        refine norm_ (a' := ?_) ?_ ?_
                        rotate_left
                        · show Act.put _ (some 39) _ = _
                          simp only [Act.put, List.setIfInBounds_toArray, List.set_cons_zero, List.set_cons_succ, i64_w, i32_w]
                          rfl
                        refine one_ (i := 4) (N := some 41) #[true, true, true, true, true, false, false] rfl rfl (by kernel_rfl) (by decide) (fun K hK => ?_)
                        refine goes_ Try.func15 (by kernel_rfl) rfl #[.agg #[.int .u64 x186000_2, .int .i64 x186001_2, .slice Ao27 x186002_2.length co27]] (by rfl) rfl rfl (by (try simp only [List.map_toArray, List.map_cons, List.map_nil]); first | done | rfl | (simp only [List.length_drop, List.length_take]; rfl)) ?_
                        with_reducible refine (bloom_Set.calls k2 x186000_2 x186001_2 _ _ x186002_2 t191 _ ?side1 ?side2 A20.out).mono ?_
                        (case side1 => repeat (first | exact (Kd.R_reads' HO_186002.out).2.2 | (with_reducible refine Kd.C_alloc ?_ _) | (with_reducible refine Kd.C_drewN ?_ _) | (with_reducible refine Kd.C_drew ?_)))
                        (case side2 => exact (Kd.R_reads' HO_186002.out).2.1)
                        rintro e w29 ⟨rfl, hb⟩
                        refine ⟨_, rfl, ?_⟩
                        have n0_ := Aside0.mk (Kd.R_below (by (with_reducible repeat (first | apply Kd.R_alloc | apply Kd.R_drewN | apply Kd.R_drew)); exact HO_186002.out) hb)
                        have n1_ := Aside0.mk (blk_below (g := gb185) (o := .cells #[.int .u64 x186000_2, .int .i64 x186001_2, .slice Ao27 x186002_2.length co27] 25 (0, 0)) (by (with_reducible repeat (first | refine blk_drewN ?_ _ | refine blk_drew ?_ | refine blk_alloc ?_ _)); exact BK185.out) hb)
                        have n2_ := Aside0.mk (below_step (by repeat (first | (with_reducible first | exact HB.out | apply below_alloc | apply pw_below_drewN | apply below_drew1 | refine below_set ?_ GE185.out) | exact HB.out)) hb)
                        clear HO_186002
                        clear BK185
                        clear HB
                        have HO_186002 := n0_
                        have BK185 := n1_
                        have HB := n2_
                        clear n0_ n1_ n2_
                        (try clear hb)
                        (try clear hb2)
                        (try clear hk)
                        (try clear hi)
                        refine hK.out _ _ ⟨(blk_cell BK185.out 0).trans rfl, (blk_cell BK185.out 1).trans rfl, (blk_cell BK185.out 2).trans rfl⟩ (fun hHeld => ?_)
                        clear hK K
                        refine norm_ (a' := ?_) ?_ ?_
                        rotate_left
                        · show Act.put _ (some 41) _ = _
                          simp only [Act.put, List.setIfInBounds_toArray, List.set_cons_zero, List.set_cons_succ, i64_w, i32_w]
                          rfl
                        refine pure_ (i := 5) (N := some 13) (v := ?_) (a' := ?_) #[true, true, true, true, true, true, false] rfl rfl (by kernel_rfl) (fun _ _ _ h => h) (Or.inl ⟨by rfl, ?_⟩) ?_ ?_
                        rotate_left
                        · intro w'
                          go_simp
                          with_reducible rfl
                        rotate_left
                        · simp only [Act.put, List.setIfInBounds_toArray, List.set_cons_zero, List.set_cons_succ, i64_w, i32_w]
                          rfl
                        refine pure_ (i := 6) (N := some 14) (v := ?_) (a' := ?_) #[true, true, true, true, true, true, true] rfl rfl (by kernel_rfl) (fun _ _ _ h => h) (Or.inl ⟨by rfl, ?_⟩) ?_ ?_
                        rotate_left
                        · intro w'
                          go_simp
                          with_reducible rfl
                        rotate_left
                        · simp only [Act.put, List.setIfInBounds_toArray, List.set_cons_zero, List.set_cons_succ, i64_w, i32_w]
                          rfl
                        refine done_ (by kernel_rfl) ?_
                        have hcz30_0 : w29.cell? ⟨gb185, 0, none⟩ = some (.int .u64 x186000_2) := (blk_cell BK185.out 0).trans rfl
                        have hcz30_1 : w29.cell? ⟨gb185, 1, none⟩ = some (.int .i64 x186001_2) := (blk_cell BK185.out 1).trans rfl
                        have hcz30_2 : w29.cell? ⟨gb185, 2, none⟩ = some (.slice Ao27 x186002_2.length co27) := (blk_cell BK185.out 2).trans rfl
                        have hfz30_0 := blk_frozen BK185.out 0
                        have hfz30_1 := blk_frozen BK185.out 1
                        have hfz30_2 := blk_frozen BK185.out 2
                        try go_wp2_with (first | ((with_reducible refine gate_callee (f := 16) rfl ?_); refine goesL_ (some 44) rfl rfl Try.func16 (by kernel_rfl) rfl #[.agg #[.int .u64 x186000_2, .int .i64 x186001_2, .slice Ao27 x186002_2.length co27], .string (rdOf ByteArray.empty l3 x33_2)] rfl (by (try simp only [List.map_toArray, List.map_cons, List.map_nil]); first | done | rfl | (simp only [List.length_drop, List.length_take]; rfl)) ?_; (with_reducible refine (bloom_Add.calls k2 x186000_2 x186001_2 _ _ x186002_2 (rdOf ByteArray.empty l3 x33_2) t192 t193 t194 _ ?side1 ?side2 A21.out).mono ?_); (case side1 => repeat (first | exact (Kd.R_reads' HO_186002.out).2.2 | (with_reducible refine Kd.C_alloc ?_ _) | (with_reducible refine Kd.C_drewN ?_ _) | (with_reducible refine Kd.C_drew ?_))); (case side2 => exact (Kd.R_reads' HO_186002.out).2.1); rintro e w31 ⟨v195, rfl, ho0, hb⟩; refine ⟨_, rfl, ?_⟩; have n0_ := Aside0.mk (Kd.R_elder' (by (with_reducible repeat (first | apply Kd.R_alloc | apply Kd.R_drewN | apply Kd.R_drew)); exact HO_186002.out) (Kd.R_base ho0) hb); have n1_ := Aside0.mk (Kd.R_lower (Kd.R_new' ho0 (Kd.R_lt (by (with_reducible repeat (first | apply Kd.R_alloc | apply Kd.R_drewN | apply Kd.R_drew)); exact HO_186002.out))) (below_size (by repeat (first | (with_reducible first | exact HB.out | apply below_alloc | apply pw_below_drewN | apply below_drew1 | refine below_set ?_ GE185.out) | exact HB.out)))); have n2_ := Aside0.mk (blk_below (g := gb185) (o := .cells #[.int .u64 x186000_2, .int .i64 x186001_2, .slice Ao27 x186002_2.length co27] 25 (0, 0)) (by (with_reducible repeat (first | refine blk_drewN ?_ _ | refine blk_drew ?_ | refine blk_alloc ?_ _)); exact BK185.out) hb); have n3_ := Aside0.mk (below_step (by repeat (first | (with_reducible first | exact HB.out | apply below_alloc | apply pw_below_drewN | apply below_drew1 | refine below_set ?_ GE185.out) | exact HB.out)) hb); clear HO_186002; clear BK185; clear HB; have HO_186002 := n0_; have HO196 := n1_; have BK185 := n2_; have HB := n3_; clear n0_ n1_ n2_ n3_; (try clear hb); (try clear hb2); (try clear hk); (try clear hi); (try clear ho0); have hcz32_0 : w31.cell? ⟨gb185, 0, none⟩ = some (.int .u64 x186000_2) := (blk_cell BK185.out 0).trans rfl; have hcz32_1 : w31.cell? ⟨gb185, 1, none⟩ = some (.int .i64 x186001_2) := (blk_cell BK185.out 1).trans rfl; have hcz32_2 : w31.cell? ⟨gb185, 2, none⟩ = some (.slice Ao27 x186002_2.length co27) := (blk_cell BK185.out 2).trans rfl; have hfz32_0 := blk_frozen BK185.out 0; have hfz32_1 := blk_frozen BK185.out 1; have hfz32_2 := blk_frozen BK185.out 2; obtain ⟨Ao33, co33, eo33⟩ := Kd.R_slice HO196.out; subst eo33) | ((with_reducible refine gate_callee (f := 15) rfl ?_); refine goesL_ (some 46) rfl rfl Try.func15 (by kernel_rfl) rfl #[.agg #[.int .u64 t192, .int .i64 t193, .slice Ao33 t194.length co33]] rfl (by (try simp only [List.map_toArray, List.map_cons, List.map_nil]); first | done | rfl | (simp only [List.length_drop, List.length_take]; rfl)) ?_; (with_reducible refine (bloom_Set.calls k2 t192 t193 _ _ t194 t197 _ ?side1 ?side2 A22.out).mono ?_); (case side1 => refine (Kd.R_reads' (e := 4) (base := w.heap.size) (ok := fun k_ => (True ∧ some k_ ≠ (.slice Ao27 x186002_2.length co27 : Value).ownBlock)) (n := t194.length) (c := co33) ?_).2.2; exact (by (with_reducible repeat (first | apply Kd.R_alloc | apply Kd.R_drewN | apply Kd.R_drew)); exact (Kd.R_mono (Kd.R_far (p := ⟨gb185, 2, none⟩) (Kd.R_far (p := ⟨gb185, 1, none⟩) (Kd.R_far (p := ⟨gb185, 0, none⟩) (Kd.R_types HO196.out BK185.out (by decide)) (fun _ hk => hk.2) (.int .u64 t192)) (fun _ hk => hk.2) (.int .i64 t193)) (fun _ hk => hk.2) (.slice Ao33 t194.length co33)) (fun _ h_ => h_.1)))); (case side2 => exact (Kd.R_reads' HO196.out).2.1); rintro e w34 ⟨rfl, hb⟩; refine ⟨_, rfl, ?_⟩; have n0_ := Aside0.mk (Kd.R_below (by (with_reducible repeat (first | apply Kd.R_alloc | apply Kd.R_drewN | apply Kd.R_drew)); exact (Kd.R_mono (Kd.R_far (p := ⟨gb185, 2, none⟩) (Kd.R_far (p := ⟨gb185, 1, none⟩) (Kd.R_far (p := ⟨gb185, 0, none⟩) (Kd.R_types HO_186002.out BK185.out (by decide)) (fun _ hk => hk.2) (.int .u64 t192)) (fun _ hk => hk.2) (.int .i64 t193)) (fun _ hk => hk.2) (.slice Ao33 t194.length co33)) (fun _ h_ => h_.1))) hb); have n1_ := Aside0.mk (Kd.R_below (by (with_reducible repeat (first | apply Kd.R_alloc | apply Kd.R_drewN | apply Kd.R_drew)); exact (Kd.R_mono (Kd.R_far (p := ⟨gb185, 2, none⟩) (Kd.R_far (p := ⟨gb185, 1, none⟩) (Kd.R_far (p := ⟨gb185, 0, none⟩) (Kd.R_types HO196.out BK185.out (by decide)) (fun _ hk => hk.2) (.int .u64 t192)) (fun _ hk => hk.2) (.int .i64 t193)) (fun _ hk => hk.2) (.slice Ao33 t194.length co33)) (fun _ h_ => h_.1))) hb); have n2_ := Aside0.mk (blk_below (g := gb185) (o := .cells #[.int .u64 t192, .int .i64 t193, .slice Ao33 t194.length co33] 25 (0, 0)) (by (with_reducible repeat (first | refine blk_drewN ?_ _ | refine blk_drew ?_ | refine blk_alloc ?_ _)); refine blk_put (cs := #[.int .u64 t192, .int .i64 t193, .slice Ao27 x186002_2.length co27]) ?_ 2 _ rfl; (with_reducible repeat (first | refine blk_drewN ?_ _ | refine blk_drew ?_ | refine blk_alloc ?_ _)); refine blk_put (cs := #[.int .u64 t192, .int .i64 x186001_2, .slice Ao27 x186002_2.length co27]) ?_ 1 _ rfl; (with_reducible repeat (first | refine blk_drewN ?_ _ | refine blk_drew ?_ | refine blk_alloc ?_ _)); refine blk_put (cs := #[.int .u64 x186000_2, .int .i64 x186001_2, .slice Ao27 x186002_2.length co27]) ?_ 0 _ rfl; (with_reducible repeat (first | refine blk_drewN ?_ _ | refine blk_drew ?_ | refine blk_alloc ?_ _)); exact BK185.out) hb); have n3_ := Aside0.mk (below_step (by repeat (first | (with_reducible first | exact HB.out | apply below_alloc | apply pw_below_drewN | apply below_drew1 | refine below_set ?_ GE185.out) | exact HB.out)) hb); clear HO_186002; clear HO196; clear BK185; clear HB; have HO_186002 := n0_; have HO196 := n1_; have BK185 := n2_; have HB := n3_; clear n0_ n1_ n2_ n3_; (try clear hb); (try clear hb2); (try clear hk); (try clear hi)))
                        go_roundg k2
                        case measure => have := HJ5.out; have := HK2.out; omega
                        case rel => exact ⟨(wrap64 (x33_2 + 1)), (t192), (t193), (t194), (.slice Ao33 t194.length co33), (by first | rfl | (simp; done) | (simp [*]; done)), H', ⟨by have := HJ5.out; have := HK2.out; omega⟩, ⟨by (with_reducible repeat (first | apply Kd.R_alloc | apply Kd.R_drewN | apply Kd.R_drew)); exact Kd.R_mono HO196.out (fun _ hk => trivial)⟩, ⟨by (with_reducible repeat (first | refine blk_drewN ?_ _ | refine blk_drew ?_ | refine blk_alloc ?_ _)); exact BK185.out⟩, ⟨by repeat (first | (with_reducible first | exact HB.out | apply below_alloc | apply pw_below_drewN | apply below_drew1 | refine below_set ?_ GE185.out) | exact HB.out)⟩⟩
                · rw [if_neg c18] at H
                  exact absurd H (by simp)
              · rw [if_neg c17] at H
                exact absurd H (by simp)
            · rw [if_neg c16] at H
              have c16b0 : decide (x33_2 < (l3.length : Int)) = false := decide_eq_false c16
              clear c16
              replace H := Option.bind_eq_some_iff.mp H
              obtain ⟨t188, A350, H⟩ := H
              replace H : (some t188) = some r := H
              have A35 := Aside0.mk A350
              clear A350
              obtain rfl := Option.some.inj H
              go_wp2_with (first | ((with_reducible refine gate_callee (f := 12) rfl ?_); refine goesL_ (some 63) rfl rfl Try.func12 (by kernel_rfl) rfl #[] rfl (by (try simp only [List.map_toArray, List.map_cons, List.map_nil]); first | done | rfl | (simp only [List.length_drop, List.length_take]; rfl)) ?_; (with_reducible refine (rillmeterlaw10_awake.calls k2  t188 _ A35.out).mono ?_); rintro e w36 ⟨rfl, hb⟩; refine ⟨_, rfl, ?_⟩; have n0_ := Aside0.mk (Kd.R_below (by (with_reducible repeat (first | apply Kd.R_alloc | apply Kd.R_drewN | apply Kd.R_drew)); exact HO_186002.out) hb); have n1_ := Aside0.mk (blk_below (g := gb185) (o := .cells #[.int .u64 x186000_2, .int .i64 x186001_2, u186002] 25 (0, 0)) (by (with_reducible repeat (first | refine blk_drewN ?_ _ | refine blk_drew ?_ | refine blk_alloc ?_ _)); exact BK185.out) hb); have n2_ := Aside0.mk (below_step (by repeat (first | (with_reducible first | exact HB.out | apply below_alloc | apply pw_below_drewN | apply below_drew1 | refine below_set ?_ GE185.out) | exact HB.out)) hb); clear HO_186002; clear BK185; clear HB; have HO_186002 := n0_; have BK185 := n1_; have HB := n2_; clear n0_ n1_ n2_; (try clear hb); (try clear hb2); (try clear hk); (try clear hi)))
              go_ret
              exact ⟨by first | rfl | (simp [errW_none, errW_some] <;> rfl) | (simp [*, errW_none, errW_some] <;> rfl), by repeat (first | (with_reducible first | exact HB.out | apply below_alloc | apply pw_below_drewN | apply below_drew1 | refine below_set ?_ GE185.out) | exact HB.out)⟩

end Go.Proofs.Ytmlcafnnhpfpaaa.PBloomFew
