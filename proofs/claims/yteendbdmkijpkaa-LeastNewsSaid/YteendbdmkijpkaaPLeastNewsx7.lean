/- The functions that a law uses, each as a plain function, with the proof that a call of the Go function comes to its answer. Condition of each: the arguments read as the data that it names, and the plain function has an answer. Written by a program of this session (standin.py). -/
import Derived.Test.YteendbdmkijpkaaPLeastNewsx0
import Derived.Test.YteendbdmkijpkaaPLeastNewsx1
import Derived.Test.YteendbdmkijpkaaPLeastNewsx2
import Derived.Test.YteendbdmkijpkaaPLeastNewsx5
import Derived.Test.YteendbdmkijpkaaPLeastNewsx6
import Derived.Lib.SliceRun
namespace Go.Proofs.Yteendbdmkijpkaa.PLeastNews
open Go.RowKit Go.Proofs.YteendbdmkijpkaaW.PrintWords Go.Proofs.YteendbdmkijpkaaW.PrintLast Go.Proofs.YteendbdmkijpkaaW.PrintMore
attribute [local go_sem] max2_int min2_int max_two min_two max_three min_three max_four min_four   -- for this text's walks alone
set_option linter.unusedVariables false
set_option linter.unusedSimpArgs false

/-! ### rillmeterlaw11_LeastNews: function 3 -/
mutual
def rillmeterlaw11_LeastNews.j0 : Nat → Int → Int → Int → Int → Int → Bool → Int → Int → List (List Int) → Option (Bool)
  | 0, _, _, _, _, _, _, _, _, _ => none
  | k + 1, x0, x1, x2, x3, x10, x43, x225000, x225001, x225002 => if x43 = true then ((rillmeterlaw11_ref.f x225000 x225001 x225002).bind fun bt225 => ((rillmeterref11_Equal.f k bt225.1 bt225.2.1 bt225.2.2 0 0 ([] : List (List Int))).bind fun t230 => (if t230 = true then (if x10 = 1 then ((rillmeterlaw11_awake.f k).bind fun t231 => (some t231)) else (some false)) else (some false)))) else (if (x225002.length : Int) = x1 then (if 0 < (x225002.length : Int) then (if ((rd_L1 x225002 0).length : Int) = x2 then (if x225000 = x0 then (if x225001 = x3 then ((rillmeterlaw11_ref.f x225000 x225001 x225002).bind fun bt233 => ((rillmeterref11_Right.f k bt233.1 bt233.2.1 bt233.2.2).bind fun t238 => (rillmeterlaw11_LeastNews.j1 k x10 (!t238) x225000 x225001 x225002))) else (rillmeterlaw11_LeastNews.j1 k x10 true x225000 x225001 x225002)) else (rillmeterlaw11_LeastNews.j1 k x10 true x225000 x225001 x225002)) else (rillmeterlaw11_LeastNews.j1 k x10 true x225000 x225001 x225002)) else (none)) else (rillmeterlaw11_LeastNews.j1 k x10 true x225000 x225001 x225002))
def rillmeterlaw11_LeastNews.j1 : Nat → Int → Bool → Int → Int → List (List Int) → Option (Bool)
  | 0, _, _, _, _, _ => none
  | k + 1, x10, x86, x225000, x225001, x225002 => if x86 = true then (some false) else (rillmeterlaw11_LeastNews.l0 k x10 (x225002.length : Int) 0 x225000 x225001 x225002)
def rillmeterlaw11_LeastNews.l0 : Nat → Int → Int → Int → Int → Int → List (List Int) → Option (Bool)
  | 0, _, _, _, _, _, _ => none
  | k + 1, x10, x89, x90, x225000, x225001, x225002 => if x90 < x89 then (if 0 ≤ x90 then (if x90 < (x225002.length : Int) then (rillmeterlaw11_LeastNews.l1 k x10 x89 x90 (rd_L1 x225002 x90) ((rd_L1 x225002 x90).length : Int) 0 x225000 x225001 x225002) else (none)) else (none)) else (if x10 = 0 then ((rillmeterlaw11_awake.f k).bind fun t239 => (some t239)) else (some false))
def rillmeterlaw11_LeastNews.l1 : Nat → Int → Int → Int → List Int → Int → Int → Int → Int → List (List Int) → Option (Bool)
  | 0, _, _, _, _, _, _, _, _, _ => none
  | k + 1, x10, x89, x90, x97, x98, x99, x225000, x225001, x225002 => if x99 < x98 then (if 0 ≤ x99 then (if x99 < (x97.length : Int) then (if (rd x97 x99) = 0 then (rillmeterlaw11_LeastNews.l1 k x10 x89 x90 x97 x98 (wrap64 (x99 + 1)) x225000 x225001 x225002) else (some false)) else (none)) else (none)) else (rillmeterlaw11_LeastNews.l0 k x10 x89 (wrap64 (x90 + 1)) x225000 x225001 x225002)
end
def rillmeterlaw11_LeastNews.f (k : Nat) (a0 : Int) (a1 : Int) (a2 : Int) (a3 : Int) : Option (Bool) := (least_New.f k a0 a1 a2 a3).bind fun bt218 => (if a1 < 1 then (rillmeterlaw11_LeastNews.j0 k a0 a1 a2 a3 bt218.2.2.2 true bt218.1 bt218.2.1 bt218.2.2.1) else (if a1 > 7 then (rillmeterlaw11_LeastNews.j0 k a0 a1 a2 a3 bt218.2.2.2 true bt218.1 bt218.2.1 bt218.2.2.1) else (if a2 < 1 then (rillmeterlaw11_LeastNews.j0 k a0 a1 a2 a3 bt218.2.2.2 true bt218.1 bt218.2.1 bt218.2.2.1) else (if a2 > 256 then (rillmeterlaw11_LeastNews.j0 k a0 a1 a2 a3 bt218.2.2.2 true bt218.1 bt218.2.1 bt218.2.2.1) else (if a3 < 1 then (rillmeterlaw11_LeastNews.j0 k a0 a1 a2 a3 bt218.2.2.2 true bt218.1 bt218.2.1 bt218.2.2.1) else (rillmeterlaw11_LeastNews.j0 k a0 a1 a2 a3 bt218.2.2.2 (decide (a3 > 1099511627776)) bt218.1 bt218.2.1 bt218.2.2.1))))))
theorem rillmeterlaw11_LeastNews.mono_l : ∀ k, (∀ y0 y1 y2 y3 y4 y5 y6 y7 y8, LeO (rillmeterlaw11_LeastNews.j0 k y0 y1 y2 y3 y4 y5 y6 y7 y8) (rillmeterlaw11_LeastNews.j0 (k + 1) y0 y1 y2 y3 y4 y5 y6 y7 y8)) ∧ (∀ y0 y1 y2 y3 y4, LeO (rillmeterlaw11_LeastNews.j1 k y0 y1 y2 y3 y4) (rillmeterlaw11_LeastNews.j1 (k + 1) y0 y1 y2 y3 y4)) ∧ (∀ y0 y1 y2 y3 y4 y5, LeO (rillmeterlaw11_LeastNews.l0 k y0 y1 y2 y3 y4 y5) (rillmeterlaw11_LeastNews.l0 (k + 1) y0 y1 y2 y3 y4 y5)) ∧ (∀ y0 y1 y2 y3 y4 y5 y6 y7 y8, LeO (rillmeterlaw11_LeastNews.l1 k y0 y1 y2 y3 y4 y5 y6 y7 y8) (rillmeterlaw11_LeastNews.l1 (k + 1) y0 y1 y2 y3 y4 y5 y6 y7 y8))
  | 0 => ⟨fun _ _ _ _ _ _ _ _ _ r h => by simp [rillmeterlaw11_LeastNews.j0] at h, fun _ _ _ _ _ r h => by simp [rillmeterlaw11_LeastNews.j1] at h, fun _ _ _ _ _ _ r h => by simp [rillmeterlaw11_LeastNews.l0] at h, fun _ _ _ _ _ _ _ _ _ r h => by simp [rillmeterlaw11_LeastNews.l1] at h⟩
  | k + 1 => by
    obtain ⟨ih0, ih1, ih2, ih3⟩ := rillmeterlaw11_LeastNews.mono_l k
    refine ⟨?_, ?_, ?_, ?_⟩
    · intro y0 y1 y2 y3 y4 y5 y6 y7 y8
      unfold rillmeterlaw11_LeastNews.j0
      repeat' first
      | (with_reducible exact ih0 _ _ _ _ _ _ _ _ _)
      | (with_reducible exact ih1 _ _ _ _ _)
      | (with_reducible exact ih2 _ _ _ _ _ _)
      | (with_reducible exact ih3 _ _ _ _ _ _ _ _ _)
      | (with_reducible exact least_New.mono _ _ _ _ _)
      | (with_reducible exact rillmeterlaw11_awake.mono _)
      | (with_reducible exact rillmeterref11_Equal.mono _ _ _ _ _ _ _)
      | (with_reducible exact rillmeterref11_Right.mono _ _ _ _)
      | (with_reducible exact LeO.refl _)
      | (with_reducible exact LeO.none _)
      | (with_reducible refine LeO.ite ?_ ?_)
      | (with_reducible refine LeO.bind ?_ (fun _ => ?_))
      | exact ih0 _ _ _ _ _ _ _ _ _
      | exact ih1 _ _ _ _ _
      | exact ih2 _ _ _ _ _ _
      | exact ih3 _ _ _ _ _ _ _ _ _
      | exact least_New.mono _ _ _ _ _
      | exact rillmeterlaw11_awake.mono _
      | exact rillmeterref11_Equal.mono _ _ _ _ _ _ _
      | exact rillmeterref11_Right.mono _ _ _ _
      | exact LeO.none _
      | refine LeO.ite ?_ ?_
      | refine LeO.bind ?_ (fun _ => ?_)
    · intro y0 y1 y2 y3 y4
      unfold rillmeterlaw11_LeastNews.j1
      repeat' first
      | (with_reducible exact ih0 _ _ _ _ _ _ _ _ _)
      | (with_reducible exact ih1 _ _ _ _ _)
      | (with_reducible exact ih2 _ _ _ _ _ _)
      | (with_reducible exact ih3 _ _ _ _ _ _ _ _ _)
      | (with_reducible exact least_New.mono _ _ _ _ _)
      | (with_reducible exact rillmeterlaw11_awake.mono _)
      | (with_reducible exact rillmeterref11_Equal.mono _ _ _ _ _ _ _)
      | (with_reducible exact rillmeterref11_Right.mono _ _ _ _)
      | (with_reducible exact LeO.refl _)
      | (with_reducible exact LeO.none _)
      | (with_reducible refine LeO.ite ?_ ?_)
      | (with_reducible refine LeO.bind ?_ (fun _ => ?_))
      | exact ih0 _ _ _ _ _ _ _ _ _
      | exact ih1 _ _ _ _ _
      | exact ih2 _ _ _ _ _ _
      | exact ih3 _ _ _ _ _ _ _ _ _
      | exact least_New.mono _ _ _ _ _
      | exact rillmeterlaw11_awake.mono _
      | exact rillmeterref11_Equal.mono _ _ _ _ _ _ _
      | exact rillmeterref11_Right.mono _ _ _ _
      | exact LeO.none _
      | refine LeO.ite ?_ ?_
      | refine LeO.bind ?_ (fun _ => ?_)
    · intro y0 y1 y2 y3 y4 y5
      unfold rillmeterlaw11_LeastNews.l0
      repeat' first
      | (with_reducible exact ih0 _ _ _ _ _ _ _ _ _)
      | (with_reducible exact ih1 _ _ _ _ _)
      | (with_reducible exact ih2 _ _ _ _ _ _)
      | (with_reducible exact ih3 _ _ _ _ _ _ _ _ _)
      | (with_reducible exact least_New.mono _ _ _ _ _)
      | (with_reducible exact rillmeterlaw11_awake.mono _)
      | (with_reducible exact rillmeterref11_Equal.mono _ _ _ _ _ _ _)
      | (with_reducible exact rillmeterref11_Right.mono _ _ _ _)
      | (with_reducible exact LeO.refl _)
      | (with_reducible exact LeO.none _)
      | (with_reducible refine LeO.ite ?_ ?_)
      | (with_reducible refine LeO.bind ?_ (fun _ => ?_))
      | exact ih0 _ _ _ _ _ _ _ _ _
      | exact ih1 _ _ _ _ _
      | exact ih2 _ _ _ _ _ _
      | exact ih3 _ _ _ _ _ _ _ _ _
      | exact least_New.mono _ _ _ _ _
      | exact rillmeterlaw11_awake.mono _
      | exact rillmeterref11_Equal.mono _ _ _ _ _ _ _
      | exact rillmeterref11_Right.mono _ _ _ _
      | exact LeO.none _
      | refine LeO.ite ?_ ?_
      | refine LeO.bind ?_ (fun _ => ?_)
    · intro y0 y1 y2 y3 y4 y5 y6 y7 y8
      unfold rillmeterlaw11_LeastNews.l1
      repeat' first
      | (with_reducible exact ih0 _ _ _ _ _ _ _ _ _)
      | (with_reducible exact ih1 _ _ _ _ _)
      | (with_reducible exact ih2 _ _ _ _ _ _)
      | (with_reducible exact ih3 _ _ _ _ _ _ _ _ _)
      | (with_reducible exact least_New.mono _ _ _ _ _)
      | (with_reducible exact rillmeterlaw11_awake.mono _)
      | (with_reducible exact rillmeterref11_Equal.mono _ _ _ _ _ _ _)
      | (with_reducible exact rillmeterref11_Right.mono _ _ _ _)
      | (with_reducible exact LeO.refl _)
      | (with_reducible exact LeO.none _)
      | (with_reducible refine LeO.ite ?_ ?_)
      | (with_reducible refine LeO.bind ?_ (fun _ => ?_))
      | exact ih0 _ _ _ _ _ _ _ _ _
      | exact ih1 _ _ _ _ _
      | exact ih2 _ _ _ _ _ _
      | exact ih3 _ _ _ _ _ _ _ _ _
      | exact least_New.mono _ _ _ _ _
      | exact rillmeterlaw11_awake.mono _
      | exact rillmeterref11_Equal.mono _ _ _ _ _ _ _
      | exact rillmeterref11_Right.mono _ _ _ _
      | exact LeO.none _
      | refine LeO.ite ?_ ?_
      | refine LeO.bind ?_ (fun _ => ?_)
theorem rillmeterlaw11_LeastNews.mono : ∀ a0 a1 a2 a3 k, LeO (rillmeterlaw11_LeastNews.f k a0 a1 a2 a3) (rillmeterlaw11_LeastNews.f (k + 1) a0 a1 a2 a3) := by
  intro a0 a1 a2 a3 k
  obtain ⟨ih0, ih1, ih2, ih3⟩ := rillmeterlaw11_LeastNews.mono_l k
  unfold rillmeterlaw11_LeastNews.f
  repeat' first
      | (with_reducible exact ih0 _ _ _ _ _ _ _ _ _)
      | (with_reducible exact ih1 _ _ _ _ _)
      | (with_reducible exact ih2 _ _ _ _ _ _)
      | (with_reducible exact ih3 _ _ _ _ _ _ _ _ _)
      | (with_reducible exact least_New.mono _ _ _ _ _)
      | (with_reducible exact rillmeterlaw11_awake.mono _)
      | (with_reducible exact rillmeterref11_Equal.mono _ _ _ _ _ _ _)
      | (with_reducible exact rillmeterref11_Right.mono _ _ _ _)
      | (with_reducible exact LeO.refl _)
      | (with_reducible exact LeO.none _)
      | (with_reducible refine LeO.ite ?_ ?_)
      | (with_reducible refine LeO.bind ?_ (fun _ => ?_))
      | exact ih0 _ _ _ _ _ _ _ _ _
      | exact ih1 _ _ _ _ _
      | exact ih2 _ _ _ _ _ _
      | exact ih3 _ _ _ _ _ _ _ _ _
      | exact least_New.mono _ _ _ _ _
      | exact rillmeterlaw11_awake.mono _
      | exact rillmeterref11_Equal.mono _ _ _ _ _ _ _
      | exact rillmeterref11_Right.mono _ _ _ _
      | exact LeO.none _
      | refine LeO.ite ?_ ?_
      | refine LeO.bind ?_ (fun _ => ?_)
set_option maxHeartbeats 8000000 in
set_option maxRecDepth 100000 in
theorem rillmeterlaw11_LeastNews.calls (k : Nat) (a0 : Int) (a1 : Int) (a2 : Int) (a3 : Int) (r : Bool) (w : World) (h : rillmeterlaw11_LeastNews.f k a0 a1 a2 a3 = some r) (hrt : Aside0 (r = true)) :
    Calls Try.prog 3 #[.int .u64 a0, .int .i64 a1, .int .i64 a2, .int .i64 a3] w fun e w' => e = .returned (.bool r) ∧ Below w.heap.size w w' := by
  have hu25 := Try.underlying25
  have hu30 := Try.underlying30
  have HB := Aside0.mk (Below.refl w.heap.size w)
  have H : ((least_New.f k a0 a1 a2 a3).bind fun bt218 => (if a1 < 1 then (rillmeterlaw11_LeastNews.j0 k a0 a1 a2 a3 bt218.2.2.2 true bt218.1 bt218.2.1 bt218.2.2.1) else (if a1 > 7 then (rillmeterlaw11_LeastNews.j0 k a0 a1 a2 a3 bt218.2.2.2 true bt218.1 bt218.2.1 bt218.2.2.1) else (if a2 < 1 then (rillmeterlaw11_LeastNews.j0 k a0 a1 a2 a3 bt218.2.2.2 true bt218.1 bt218.2.1 bt218.2.2.1) else (if a2 > 256 then (rillmeterlaw11_LeastNews.j0 k a0 a1 a2 a3 bt218.2.2.2 true bt218.1 bt218.2.1 bt218.2.2.1) else (if a3 < 1 then (rillmeterlaw11_LeastNews.j0 k a0 a1 a2 a3 bt218.2.2.2 true bt218.1 bt218.2.1 bt218.2.2.1) else (rillmeterlaw11_LeastNews.j0 k a0 a1 a2 a3 bt218.2.2.2 (decide (a3 > 1099511627776)) bt218.1 bt218.2.1 bt218.2.2.1))))))) = some r := h
  clear h
  replace H := Option.bind_eq_some_iff.mp H
  obtain ⟨⟨t218, t219, t220, t223⟩, A50, H⟩ := H
  replace H : (if a1 < 1 then (rillmeterlaw11_LeastNews.j0 k a0 a1 a2 a3 t223 true t218 t219 t220) else (if a1 > 7 then (rillmeterlaw11_LeastNews.j0 k a0 a1 a2 a3 t223 true t218 t219 t220) else (if a2 < 1 then (rillmeterlaw11_LeastNews.j0 k a0 a1 a2 a3 t223 true t218 t219 t220) else (if a2 > 256 then (rillmeterlaw11_LeastNews.j0 k a0 a1 a2 a3 t223 true t218 t219 t220) else (if a3 < 1 then (rillmeterlaw11_LeastNews.j0 k a0 a1 a2 a3 t223 true t218 t219 t220) else (rillmeterlaw11_LeastNews.j0 k a0 a1 a2 a3 t223 (decide (a3 > 1099511627776)) t218 t219 t220)))))) = some r := H
  have A5 := Aside0.mk A50
  clear A50
  have HC6 := Aside0.mk H
  clear H
  go_enter Try.func3, Try.ntmps3
  go_upto_region 2 with (first | ((with_reducible refine gate_callee (f := 9) rfl ?_); refine goesL_ (some 19) rfl rfl Try.func9 (by kernel_rfl) rfl #[.int .u64 a0, .int .i64 a1, .int .i64 a2, .int .i64 a3] rfl (by (try simp only [List.map_toArray, List.map_cons, List.map_nil]); first | done | rfl | (simp only [List.length_drop, List.length_take]; rfl)) ?_; (with_reducible refine (least_New.calls k a0 a1 a2 a3 t218 t219 t220 t223 _ A5.out).mono ?_); rintro e w7 ⟨v221, rfl, ho0, hb⟩; refine ⟨_, rfl, ?_⟩; have n0_ := Aside0.mk (Kd.S_lower ho0 (below_size (by repeat (first | (with_reducible first | exact HB.out | apply below_alloc | apply pw_below_drewN | apply below_drew1) | exact HB.out)))); have n1_ := Aside0.mk (below_step (by repeat (first | (with_reducible first | exact HB.out | apply below_alloc | apply pw_below_drewN | apply below_drew1) | exact HB.out)) hb); clear HB; have HO222 := n0_; have HB := n1_; clear n0_ n1_; (try clear hb); (try clear hb2); (try clear hk); (try clear hi); (try clear ho0)) | ((with_reducible refine gate_dst (N := 9) rfl ?_); (try (refine gate_guard (by rfl) ?_; dsimp only)); refine box_event ?hg (N := 9) ?hd (cs := #[.int .u64 0, .int .i64 0, .slice none 0 0]) (t := 25) ?hr ?_; (case hd => rfl); (case hg => rfl); (case hr => first | (go_simp; done) | (go_simp; rfl)); intro gb224 hg w8 hbox hb; have n0_ := Aside0.mk (Kd.S_below (by (with_reducible repeat (first | apply Kd.S_alloc | apply Kd.S_drewN | apply Kd.S_drew)); exact HO222.out) hb); have n1_ := Aside0.mk (below_step (by repeat (first | (with_reducible first | exact HB.out | apply below_alloc | apply pw_below_drewN | apply below_drew1) | exact HB.out)) hb); have n2_ := Aside0.mk (hbox); have n3_ := Aside0.mk ((by rw [hg]; exact (below_size (by repeat (first | (with_reducible first | exact HB.out | apply below_alloc | apply pw_below_drewN | apply below_drew1) | exact HB.out))) : w.heap.size ≤ gb224)); have n4_ := Aside0.mk ((by rw [hg]; exact (below_size (by repeat (first | (with_reducible first | exact HB.out | apply below_alloc | apply pw_below_drewN | apply below_drew1) | exact HB.out))) : w.heap.size ≤ gb224)); clear HO222; clear HB; have HO222 := n0_; have HB := n1_; have BK224 := n2_; have GW224 := n3_; have GE224 := n4_; clear n0_ n1_ n2_ n3_ n4_; clear hb hbox hg; have hcz9_0 : w8.cell? ⟨gb224, 0, none⟩ = some (.int .u64 0) := (blk_cell BK224.out 0).trans rfl; have hcz9_1 : w8.cell? ⟨gb224, 1, none⟩ = some (.int .i64 0) := (blk_cell BK224.out 1).trans rfl; have hcz9_2 : w8.cell? ⟨gb224, 2, none⟩ = some (.slice none 0 0) := (blk_cell BK224.out 2).trans rfl; have hfz9_0 := blk_frozen BK224.out 0; have hfz9_1 := blk_frozen BK224.out 1; have hfz9_2 := blk_frozen BK224.out 2; obtain ⟨Ao10, co10, eo10⟩ := Kd.S_slice HO222.out; subst eo10))
  (try simp only [Act.put, List.setIfInBounds_toArray, List.set_cons_zero, List.set_cons_succ])
  go_cut [43] (fun v43 wc => ∃ (kq : Nat) (x43_5 : Bool), v43 = .bool x43_5 ∧ Aside0 (rillmeterlaw11_LeastNews.j0 kq a0 a1 a2 a3 t223 x43_5 t218 t219 t220 = some r) ∧ Aside0 (kq ≤ k) ∧ Aside0 (Kd.S (Kd.slice 3 (Kd.int .i64)) 33 wc w.heap.size (fun _ => True) (.slice Ao10 t220.length co10) t220) ∧ Aside0 (wc.heap[gb224]? = some (.cells #[.int .u64 t218, .int .i64 t219, (.slice Ao10 t220.length co10)] 25 (0, 0))) ∧ Aside0 (Below w.heap.size w wc))
  case first =>
    have H := HC6.out
    clear HC6
    by_cases c11 : a1 < 1
    · rw [if_pos c11] at H
      have c11b0 : decide (a1 < 1) = true := decide_eq_true c11
      clear c11
      (first | rw [c11b0] | (simp only [i64_w, i32_w]; rw [c11b0]) | skip)
      have H' := Aside0.mk H
      clear H
      go_wp2
      go_meet
      case rel => exact ⟨_, (true), (by first | rfl | (simp; done) | (simp [*]; done)), H', ⟨by first | omega | exact Nat.le_refl _⟩, ⟨by (with_reducible repeat (first | apply Kd.S_alloc | apply Kd.S_drewN | apply Kd.S_drew)); exact Kd.S_mono (Kd.S_far (p := ⟨gb224, 2, none⟩) (Kd.S_far (p := ⟨gb224, 1, none⟩) (Kd.S_far (p := ⟨gb224, 0, none⟩) (Kd.S_types HO222.out BK224.out (by decide)) (fun _ hk => hk.2) (.int .u64 t218)) (fun _ hk => hk.2) (.int .i64 t219)) (fun _ hk => hk.2) (.slice Ao10 t220.length co10)) (fun _ hk => trivial)⟩, ⟨by (with_reducible repeat (first | refine blk_drewN ?_ _ | refine blk_drew ?_ | refine blk_alloc ?_ _)); refine blk_put (cs := #[.int .u64 t218, .int .i64 t219, .slice none 0 0]) ?_ 2 _ rfl; (with_reducible repeat (first | refine blk_drewN ?_ _ | refine blk_drew ?_ | refine blk_alloc ?_ _)); refine blk_put (cs := #[.int .u64 t218, .int .i64 0, .slice none 0 0]) ?_ 1 _ rfl; (with_reducible repeat (first | refine blk_drewN ?_ _ | refine blk_drew ?_ | refine blk_alloc ?_ _)); refine blk_put (cs := #[.int .u64 0, .int .i64 0, .slice none 0 0]) ?_ 0 _ rfl; (with_reducible repeat (first | refine blk_drewN ?_ _ | refine blk_drew ?_ | refine blk_alloc ?_ _)); exact BK224.out⟩, ⟨by repeat (first | (with_reducible first | exact HB.out | apply below_alloc | apply pw_below_drewN | apply below_drew1 | refine below_set ?_ GE224.out) | exact HB.out)⟩⟩
    · rw [if_neg c11] at H
      have c11b0 : decide (a1 < 1) = false := decide_eq_false c11
      clear c11
      (first | rw [c11b0] | (simp only [i64_w, i32_w]; rw [c11b0]) | skip)
      by_cases c12 : a1 > 7
      · rw [if_pos c12] at H
        have c12b0 : decide (7 < a1) = true := decide_eq_true c12
        clear c12
        have H' := Aside0.mk H
        clear H
        go_wp2
        go_meet
        case rel => exact ⟨_, (true), (by first | rfl | (simp; done) | (simp [*]; done)), H', ⟨by first | omega | exact Nat.le_refl _⟩, ⟨by (with_reducible repeat (first | apply Kd.S_alloc | apply Kd.S_drewN | apply Kd.S_drew)); exact Kd.S_mono (Kd.S_far (p := ⟨gb224, 2, none⟩) (Kd.S_far (p := ⟨gb224, 1, none⟩) (Kd.S_far (p := ⟨gb224, 0, none⟩) (Kd.S_types HO222.out BK224.out (by decide)) (fun _ hk => hk.2) (.int .u64 t218)) (fun _ hk => hk.2) (.int .i64 t219)) (fun _ hk => hk.2) (.slice Ao10 t220.length co10)) (fun _ hk => trivial)⟩, ⟨by (with_reducible repeat (first | refine blk_drewN ?_ _ | refine blk_drew ?_ | refine blk_alloc ?_ _)); refine blk_put (cs := #[.int .u64 t218, .int .i64 t219, .slice none 0 0]) ?_ 2 _ rfl; (with_reducible repeat (first | refine blk_drewN ?_ _ | refine blk_drew ?_ | refine blk_alloc ?_ _)); refine blk_put (cs := #[.int .u64 t218, .int .i64 0, .slice none 0 0]) ?_ 1 _ rfl; (with_reducible repeat (first | refine blk_drewN ?_ _ | refine blk_drew ?_ | refine blk_alloc ?_ _)); refine blk_put (cs := #[.int .u64 0, .int .i64 0, .slice none 0 0]) ?_ 0 _ rfl; (with_reducible repeat (first | refine blk_drewN ?_ _ | refine blk_drew ?_ | refine blk_alloc ?_ _)); exact BK224.out⟩, ⟨by repeat (first | (with_reducible first | exact HB.out | apply below_alloc | apply pw_below_drewN | apply below_drew1 | refine below_set ?_ GE224.out) | exact HB.out)⟩⟩
      · rw [if_neg c12] at H
        have c12b0 : decide (7 < a1) = false := decide_eq_false c12
        clear c12
        by_cases c13 : a2 < 1
        · rw [if_pos c13] at H
          have c13b0 : decide (a2 < 1) = true := decide_eq_true c13
          clear c13
          have H' := Aside0.mk H
          clear H
          go_wp2
          go_meet
          case rel => exact ⟨_, (true), (by first | rfl | (simp; done) | (simp [*]; done)), H', ⟨by first | omega | exact Nat.le_refl _⟩, ⟨by (with_reducible repeat (first | apply Kd.S_alloc | apply Kd.S_drewN | apply Kd.S_drew)); exact Kd.S_mono (Kd.S_far (p := ⟨gb224, 2, none⟩) (Kd.S_far (p := ⟨gb224, 1, none⟩) (Kd.S_far (p := ⟨gb224, 0, none⟩) (Kd.S_types HO222.out BK224.out (by decide)) (fun _ hk => hk.2) (.int .u64 t218)) (fun _ hk => hk.2) (.int .i64 t219)) (fun _ hk => hk.2) (.slice Ao10 t220.length co10)) (fun _ hk => trivial)⟩, ⟨by (with_reducible repeat (first | refine blk_drewN ?_ _ | refine blk_drew ?_ | refine blk_alloc ?_ _)); refine blk_put (cs := #[.int .u64 t218, .int .i64 t219, .slice none 0 0]) ?_ 2 _ rfl; (with_reducible repeat (first | refine blk_drewN ?_ _ | refine blk_drew ?_ | refine blk_alloc ?_ _)); refine blk_put (cs := #[.int .u64 t218, .int .i64 0, .slice none 0 0]) ?_ 1 _ rfl; (with_reducible repeat (first | refine blk_drewN ?_ _ | refine blk_drew ?_ | refine blk_alloc ?_ _)); refine blk_put (cs := #[.int .u64 0, .int .i64 0, .slice none 0 0]) ?_ 0 _ rfl; (with_reducible repeat (first | refine blk_drewN ?_ _ | refine blk_drew ?_ | refine blk_alloc ?_ _)); exact BK224.out⟩, ⟨by repeat (first | (with_reducible first | exact HB.out | apply below_alloc | apply pw_below_drewN | apply below_drew1 | refine below_set ?_ GE224.out) | exact HB.out)⟩⟩
        · rw [if_neg c13] at H
          have c13b0 : decide (a2 < 1) = false := decide_eq_false c13
          clear c13
          by_cases c14 : a2 > 256
          · rw [if_pos c14] at H
            have c14b0 : decide (256 < a2) = true := decide_eq_true c14
            clear c14
            have H' := Aside0.mk H
            clear H
            go_wp2
            go_meet
            case rel => exact ⟨_, (true), (by first | rfl | (simp; done) | (simp [*]; done)), H', ⟨by first | omega | exact Nat.le_refl _⟩, ⟨by (with_reducible repeat (first | apply Kd.S_alloc | apply Kd.S_drewN | apply Kd.S_drew)); exact Kd.S_mono (Kd.S_far (p := ⟨gb224, 2, none⟩) (Kd.S_far (p := ⟨gb224, 1, none⟩) (Kd.S_far (p := ⟨gb224, 0, none⟩) (Kd.S_types HO222.out BK224.out (by decide)) (fun _ hk => hk.2) (.int .u64 t218)) (fun _ hk => hk.2) (.int .i64 t219)) (fun _ hk => hk.2) (.slice Ao10 t220.length co10)) (fun _ hk => trivial)⟩, ⟨by (with_reducible repeat (first | refine blk_drewN ?_ _ | refine blk_drew ?_ | refine blk_alloc ?_ _)); refine blk_put (cs := #[.int .u64 t218, .int .i64 t219, .slice none 0 0]) ?_ 2 _ rfl; (with_reducible repeat (first | refine blk_drewN ?_ _ | refine blk_drew ?_ | refine blk_alloc ?_ _)); refine blk_put (cs := #[.int .u64 t218, .int .i64 0, .slice none 0 0]) ?_ 1 _ rfl; (with_reducible repeat (first | refine blk_drewN ?_ _ | refine blk_drew ?_ | refine blk_alloc ?_ _)); refine blk_put (cs := #[.int .u64 0, .int .i64 0, .slice none 0 0]) ?_ 0 _ rfl; (with_reducible repeat (first | refine blk_drewN ?_ _ | refine blk_drew ?_ | refine blk_alloc ?_ _)); exact BK224.out⟩, ⟨by repeat (first | (with_reducible first | exact HB.out | apply below_alloc | apply pw_below_drewN | apply below_drew1 | refine below_set ?_ GE224.out) | exact HB.out)⟩⟩
          · rw [if_neg c14] at H
            have c14b0 : decide (256 < a2) = false := decide_eq_false c14
            clear c14
            by_cases c15 : a3 < 1
            · rw [if_pos c15] at H
              have c15b0 : decide (a3 < 1) = true := decide_eq_true c15
              clear c15
              have H' := Aside0.mk H
              clear H
              go_wp2
              go_meet
              case rel => exact ⟨_, (true), (by first | rfl | (simp; done) | (simp [*]; done)), H', ⟨by first | omega | exact Nat.le_refl _⟩, ⟨by (with_reducible repeat (first | apply Kd.S_alloc | apply Kd.S_drewN | apply Kd.S_drew)); exact Kd.S_mono (Kd.S_far (p := ⟨gb224, 2, none⟩) (Kd.S_far (p := ⟨gb224, 1, none⟩) (Kd.S_far (p := ⟨gb224, 0, none⟩) (Kd.S_types HO222.out BK224.out (by decide)) (fun _ hk => hk.2) (.int .u64 t218)) (fun _ hk => hk.2) (.int .i64 t219)) (fun _ hk => hk.2) (.slice Ao10 t220.length co10)) (fun _ hk => trivial)⟩, ⟨by (with_reducible repeat (first | refine blk_drewN ?_ _ | refine blk_drew ?_ | refine blk_alloc ?_ _)); refine blk_put (cs := #[.int .u64 t218, .int .i64 t219, .slice none 0 0]) ?_ 2 _ rfl; (with_reducible repeat (first | refine blk_drewN ?_ _ | refine blk_drew ?_ | refine blk_alloc ?_ _)); refine blk_put (cs := #[.int .u64 t218, .int .i64 0, .slice none 0 0]) ?_ 1 _ rfl; (with_reducible repeat (first | refine blk_drewN ?_ _ | refine blk_drew ?_ | refine blk_alloc ?_ _)); refine blk_put (cs := #[.int .u64 0, .int .i64 0, .slice none 0 0]) ?_ 0 _ rfl; (with_reducible repeat (first | refine blk_drewN ?_ _ | refine blk_drew ?_ | refine blk_alloc ?_ _)); exact BK224.out⟩, ⟨by repeat (first | (with_reducible first | exact HB.out | apply below_alloc | apply pw_below_drewN | apply below_drew1 | refine below_set ?_ GE224.out) | exact HB.out)⟩⟩
            · rw [if_neg c15] at H
              have c15b0 : decide (a3 < 1) = false := decide_eq_false c15
              clear c15
              have H' := Aside0.mk H
              clear H
              go_wp2
              go_meet
              case rel => exact ⟨_, (decide (a3 > 1099511627776)), (by first | rfl | (simp; done) | (simp [*]; done)), H', ⟨by first | omega | exact Nat.le_refl _⟩, ⟨by (with_reducible repeat (first | apply Kd.S_alloc | apply Kd.S_drewN | apply Kd.S_drew)); exact Kd.S_mono (Kd.S_far (p := ⟨gb224, 2, none⟩) (Kd.S_far (p := ⟨gb224, 1, none⟩) (Kd.S_far (p := ⟨gb224, 0, none⟩) (Kd.S_types HO222.out BK224.out (by decide)) (fun _ hk => hk.2) (.int .u64 t218)) (fun _ hk => hk.2) (.int .i64 t219)) (fun _ hk => hk.2) (.slice Ao10 t220.length co10)) (fun _ hk => trivial)⟩, ⟨by (with_reducible repeat (first | refine blk_drewN ?_ _ | refine blk_drew ?_ | refine blk_alloc ?_ _)); refine blk_put (cs := #[.int .u64 t218, .int .i64 t219, .slice none 0 0]) ?_ 2 _ rfl; (with_reducible repeat (first | refine blk_drewN ?_ _ | refine blk_drew ?_ | refine blk_alloc ?_ _)); refine blk_put (cs := #[.int .u64 t218, .int .i64 0, .slice none 0 0]) ?_ 1 _ rfl; (with_reducible repeat (first | refine blk_drewN ?_ _ | refine blk_drew ?_ | refine blk_alloc ?_ _)); refine blk_put (cs := #[.int .u64 0, .int .i64 0, .slice none 0 0]) ?_ 0 _ rfl; (with_reducible repeat (first | refine blk_drewN ?_ _ | refine blk_drew ?_ | refine blk_alloc ?_ _)); exact BK224.out⟩, ⟨by repeat (first | (with_reducible first | exact HB.out | apply below_alloc | apply pw_below_drewN | apply below_drew1 | refine below_set ?_ GE224.out) | exact HB.out)⟩⟩
  case rest =>
    clear HC6
    try clear c1
    try clear p2
    try clear c3
    try clear c9
    try clear c11
    try clear c11b0
    try clear c12
    try clear c12b0
    try clear c13
    try clear c13b0
    try clear c14
    try clear c14b0
    try clear c15
    try clear c15b0
    try clear hcz9_0
    try clear hcz9_1
    try clear hcz9_2
    try clear hfz9_0
    try clear hfz9_1
    try clear hfz9_2
    obtain ⟨kq, x43_5, rfl, HA, HJ5, HO_225002, BK224, HB⟩ := hcut
    cases kq with
    | zero => exact absurd HA.out (by simp [rillmeterlaw11_LeastNews.j0])
    | succ kj5 =>
      have H := HA.out
      clear HA
      simp only [rillmeterlaw11_LeastNews.j0] at H
      by_cases c16 : x43_5 = true
      · subst c16
        have H1 : ((rillmeterlaw11_ref.f t218 t219 t220).bind fun bt225 => ((rillmeterref11_Equal.f kj5 bt225.1 bt225.2.1 bt225.2.2 0 0 ([] : List (List Int))).bind fun t230 => (if t230 = true then (if t223 = 1 then ((rillmeterlaw11_awake.f kj5).bind fun t231 => (some t231)) else (some false)) else (some false)))) = some r := by rw [if_pos rfl] at H; exact H
        clear H
        have H := H1
        clear H1
        replace H := Option.bind_eq_some_iff.mp H
        obtain ⟨⟨t225, t226, t227⟩, A170, H⟩ := H
        replace H : ((rillmeterref11_Equal.f kj5 t225 t226 t227 0 0 ([] : List (List Int))).bind fun t230 => (if t230 = true then (if t223 = 1 then ((rillmeterlaw11_awake.f kj5).bind fun t231 => (some t231)) else (some false)) else (some false))) = some r := H
        have A17 := Aside0.mk A170
        clear A170
        replace H := Option.bind_eq_some_iff.mp H
        obtain ⟨t230, A180, H⟩ := H
        replace H : (if t230 = true then (if t223 = 1 then ((rillmeterlaw11_awake.f kj5).bind fun t231 => (some t231)) else (some false)) else (some false)) = some r := H
        have A18 := Aside0.mk A180
        clear A180
        by_cases c19 : t230 = true
        · subst c19
          have H1 : (if t223 = 1 then ((rillmeterlaw11_awake.f kj5).bind fun t231 => (some t231)) else (some false)) = some r := by rw [if_pos rfl] at H; exact H
          clear H
          have H := H1
          clear H1
          by_cases c20 : t223 = 1
          · rw [if_pos c20] at H
            have c20b0 : (t223 == 1) = true := beq_iff_eq.mpr c20
            have c20b1 : (t223 != 1) = false := bne_eq_false_iff_eq.mpr c20
            clear c20
            replace H := Option.bind_eq_some_iff.mp H
            obtain ⟨t231, A210, H⟩ := H
            replace H : (some t231) = some r := H
            have A21 := Aside0.mk A210
            clear A210
            obtain rfl := Option.some.inj H
            have hcz22_0 : wc.cell? ⟨gb224, 0, none⟩ = some (.int .u64 t218) := (blk_cell BK224.out 0).trans rfl
            have hcz22_1 : wc.cell? ⟨gb224, 1, none⟩ = some (.int .i64 t219) := (blk_cell BK224.out 1).trans rfl
            have hcz22_2 : wc.cell? ⟨gb224, 2, none⟩ = some (.slice Ao10 t220.length co10) := (blk_cell BK224.out 2).trans rfl
            have hfz22_0 := blk_frozen BK224.out 0
            have hfz22_1 := blk_frozen BK224.out 1
            have hfz22_2 := blk_frozen BK224.out 2
            go_wp2_with (first | ((with_reducible refine gate_callee (f := 11) rfl ?_); refine goesL_ (some 45) rfl rfl Try.func11 (by kernel_rfl) rfl #[.agg #[.int .u64 t218, .int .i64 t219, .slice Ao10 t220.length co10]] rfl (by (try simp only [List.map_toArray, List.map_cons, List.map_nil]); first | done | rfl | (simp only [List.length_drop, List.length_take]; rfl)) ?_; (with_reducible refine (rillmeterlaw11_ref.calls t218 t219 (fun k_ => (True ∧ k_ ≠ gb224)) _ _ t220 t225 t226 t227 _ ?side1 A17.out).mono ?_); (case side1 => exact Kd.S_V (Kd.S_types (HO_225002.out) BK224.out (by decide))); rintro e w23 ⟨v228, rfl, ho0, hb⟩; refine ⟨_, rfl, ?_⟩; have n0_ := Aside0.mk (Kd.S_below (by (with_reducible repeat (first | apply Kd.S_alloc | apply Kd.S_drewN | apply Kd.S_drew)); exact HO_225002.out) hb); have n1_ := Aside0.mk (Kd.V_lower (Kd.V_mono (ok' := fun k_ => k_ ≠ gb224) ho0 (fun k_ hk_ => Or.elim hk_ (fun hs_ => hs_.2) (fun hn_ => (Kd.freshB (g := gb224) (o := .cells #[.int .u64 t218, .int .i64 t219, .slice Ao10 t220.length co10] 25 (0, 0)) (by (with_reducible repeat (first | refine blk_drewN ?_ _ | refine blk_drew ?_ | refine blk_alloc ?_ _)); exact BK224.out) k_ hn_)))) (below_size (by repeat (first | (with_reducible first | exact HB.out | apply below_alloc | apply pw_below_drewN | apply below_drew1 | refine below_set ?_ GE224.out) | exact HB.out)))); have n2_ := Aside0.mk (blk_below (g := gb224) (o := .cells #[.int .u64 t218, .int .i64 t219, .slice Ao10 t220.length co10] 25 (0, 0)) (by (with_reducible repeat (first | refine blk_drewN ?_ _ | refine blk_drew ?_ | refine blk_alloc ?_ _)); exact BK224.out) hb); have n3_ := Aside0.mk (below_step (by repeat (first | (with_reducible first | exact HB.out | apply below_alloc | apply pw_below_drewN | apply below_drew1 | refine below_set ?_ GE224.out) | exact HB.out)) hb); clear HO_225002; clear BK224; clear HB; have HO_225002 := n0_; have HO229 := n1_; have BK224 := n2_; have HB := n3_; clear n0_ n1_ n2_ n3_; (try clear hb); (try clear hb2); (try clear hk); (try clear hi); (try clear ho0); obtain ⟨Ao24, co24, eo24⟩ := Kd.V_slice HO229.out; subst eo24) | ((with_reducible refine gate_callee (f := 10) rfl ?_); refine goesL_ (some 47) rfl rfl Try.func10 (by kernel_rfl) rfl #[.agg #[.int .u64 t225, .int .i64 t226, .slice Ao24 t227.length co24], .agg #[.int .u64 0, .int .i64 0, .slice none 0 0]] rfl (by (try simp only [List.map_toArray, List.map_cons, List.map_nil]); first | done | rfl | (simp only [List.length_drop, List.length_take]; rfl)) ?_; (refine (rillmeterref11_Equal.calls kj5 t225 t226 _ _ t227 0 0 _ _ ([] : List (List Int)) true _ ?side1 ?side2 ?side3 ?side4 A18.out).mono ?_); (case side1 => repeat (first | exact (Kd.V_reads' HO229.out).2.2 | (with_reducible refine Kd.C_alloc ?_ _) | (with_reducible refine Kd.C_drewN ?_ _) | (with_reducible refine Kd.C_drew ?_))); (case side2 => exact (Kd.V_reads' HO229.out).2.1); (case side3 => exact Kd.C_nil _ _); (case side4 => exact Nat.le_refl _); rintro e w25 ⟨rfl, hb⟩; refine ⟨_, rfl, ?_⟩; have n0_ := Aside0.mk (Kd.S_below (by (with_reducible repeat (first | apply Kd.S_alloc | apply Kd.S_drewN | apply Kd.S_drew)); exact HO_225002.out) hb); have n1_ := Aside0.mk (Kd.V_below (by (with_reducible repeat (first | apply Kd.V_alloc | apply Kd.V_drewN | apply Kd.V_drew)); exact HO229.out) hb); have n2_ := Aside0.mk (blk_below (g := gb224) (o := .cells #[.int .u64 t218, .int .i64 t219, .slice Ao10 t220.length co10] 25 (0, 0)) (by (with_reducible repeat (first | refine blk_drewN ?_ _ | refine blk_drew ?_ | refine blk_alloc ?_ _)); exact BK224.out) hb); have n3_ := Aside0.mk (below_step (by repeat (first | (with_reducible first | exact HB.out | apply below_alloc | apply pw_below_drewN | apply below_drew1 | refine below_set ?_ GE224.out) | exact HB.out)) hb); clear HO_225002; clear HO229; clear BK224; clear HB; have HO_225002 := n0_; have HO229 := n1_; have BK224 := n2_; have HB := n3_; clear n0_ n1_ n2_ n3_; (try clear hb); (try clear hb2); (try clear hk); (try clear hi)) | (go_at_call 12; (with_reducible refine (rillmeterlaw11_awake.calls kj5  t231 _ A21.out).mono ?_); rintro e w26 ⟨rfl, hb⟩; have n0_ := Aside0.mk (Kd.S_below (by (with_reducible repeat (first | apply Kd.S_alloc | apply Kd.S_drewN | apply Kd.S_drew)); exact HO_225002.out) hb); have n1_ := Aside0.mk (Kd.V_below (by (with_reducible repeat (first | apply Kd.V_alloc | apply Kd.V_drewN | apply Kd.V_drew)); exact HO229.out) hb); have n2_ := Aside0.mk (blk_below (g := gb224) (o := .cells #[.int .u64 t218, .int .i64 t219, .slice Ao10 t220.length co10] 25 (0, 0)) (by (with_reducible repeat (first | refine blk_drewN ?_ _ | refine blk_drew ?_ | refine blk_alloc ?_ _)); exact BK224.out) hb); have n3_ := Aside0.mk (below_step (by repeat (first | (with_reducible first | exact HB.out | apply below_alloc | apply pw_below_drewN | apply below_drew1 | refine below_set ?_ GE224.out) | exact HB.out)) hb); clear HO_225002; clear HO229; clear BK224; clear HB; have HO_225002 := n0_; have HO229 := n1_; have BK224 := n2_; have HB := n3_; clear n0_ n1_ n2_ n3_; (try clear hb); (try clear hb2); (try clear hk); (try clear hi)))
            go_ret
            exact ⟨by first | rfl | (simp [errW_none, errW_some] <;> rfl) | (simp [*, errW_none, errW_some] <;> rfl), by repeat (first | (with_reducible first | exact HB.out | apply below_alloc | apply pw_below_drewN | apply below_drew1 | refine below_set ?_ GE224.out) | exact HB.out)⟩
          · rw [if_neg c20] at H
            have c20b0 : (t223 == 1) = false := beq_eq_false_iff_ne.mpr c20
            have c20b1 : (t223 != 1) = true := bne_iff_ne.mpr c20
            exact absurd ((Option.some.inj H).trans hrt.out) (by decide)
        · replace c19 := Bool.eq_false_iff.mpr c19
          subst c19
          have H1 : (some false) = some r := by rw [if_neg (show ¬ (false = true) by decide)] at H; exact H
          clear H
          have H := H1
          clear H1
          exact absurd ((Option.some.inj H).trans hrt.out) (by decide)
      · replace c16 := Bool.eq_false_iff.mpr c16
        subst c16
        have H1 : (if (t220.length : Int) = a1 then (if 0 < (t220.length : Int) then (if ((rd_L1 t220 0).length : Int) = a2 then (if t218 = a0 then (if t219 = a3 then ((rillmeterlaw11_ref.f t218 t219 t220).bind fun bt233 => ((rillmeterref11_Right.f kj5 bt233.1 bt233.2.1 bt233.2.2).bind fun t238 => (rillmeterlaw11_LeastNews.j1 kj5 t223 (!t238) t218 t219 t220))) else (rillmeterlaw11_LeastNews.j1 kj5 t223 true t218 t219 t220)) else (rillmeterlaw11_LeastNews.j1 kj5 t223 true t218 t219 t220)) else (rillmeterlaw11_LeastNews.j1 kj5 t223 true t218 t219 t220)) else (none)) else (rillmeterlaw11_LeastNews.j1 kj5 t223 true t218 t219 t220)) = some r := by rw [if_neg (show ¬ (false = true) by decide)] at H; exact H
        clear H
        have H := H1
        clear H1
        have HC27 := Aside0.mk H
        clear H
        go_upto_region 4 with (fail)
        go_cut [86] (fun v86 wc => ∃ (kq : Nat) (x86_26 : Bool), v86 = .bool x86_26 ∧ Aside0 (rillmeterlaw11_LeastNews.j1 kq t223 x86_26 t218 t219 t220 = some r) ∧ Aside0 (kq ≤ kj5) ∧ Aside0 (Kd.S (Kd.slice 3 (Kd.int .i64)) 33 wc w.heap.size (fun _ => True) (.slice Ao10 t220.length co10) t220) ∧ Aside0 (wc.heap[gb224]? = some (.cells #[.int .u64 t218, .int .i64 t219, (.slice Ao10 t220.length co10)] 25 (0, 0))) ∧ Aside0 (Below w.heap.size w wc))
        case first =>
          have H := HC27.out
          clear HC27
          by_cases c28 : (t220.length : Int) = a1
          · rw [if_pos c28] at H
            have c28b0 : ((t220.length : Int) == a1) = true := beq_iff_eq.mpr c28
            have c28b1 : ((t220.length : Int) != a1) = false := bne_eq_false_iff_eq.mpr c28
            clear c28
            (first | rw [c28b0] | (simp only [i64_w, i32_w]; rw [c28b0]) | skip)
            by_cases c29 : 0 < (t220.length : Int)
            · rw [if_pos c29] at H
              have c29b0 : decide (0 < (t220.length : Int)) = true := decide_eq_true c29
              have c29b1 : decide (0 < t220.length) = true := decide_eq_true (by omega)
              clear c29
              by_cases c30 : ((rd_L1 t220 0).length : Int) = a2
              · rw [if_pos c30] at H
                have c30b0 : (((rd_L1 t220 0).length : Int) == a2) = true := beq_iff_eq.mpr c30
                have c30b1 : (((rd_L1 t220 0).length : Int) != a2) = false := bne_eq_false_iff_eq.mpr c30
                clear c30
                by_cases c31 : t218 = a0
                · rw [if_pos c31] at H
                  have c31b0 : (t218 == a0) = true := beq_iff_eq.mpr c31
                  have c31b1 : (t218 != a0) = false := bne_eq_false_iff_eq.mpr c31
                  clear c31
                  by_cases c32 : t219 = a3
                  · rw [if_pos c32] at H
                    have c32b0 : (t219 == a3) = true := beq_iff_eq.mpr c32
                    have c32b1 : (t219 != a3) = false := bne_eq_false_iff_eq.mpr c32
                    clear c32
                    replace H := Option.bind_eq_some_iff.mp H
                    obtain ⟨⟨t233, t234, t235⟩, A330, H⟩ := H
                    replace H : ((rillmeterref11_Right.f kj5 t233 t234 t235).bind fun t238 => (rillmeterlaw11_LeastNews.j1 kj5 t223 (!t238) t218 t219 t220)) = some r := H
                    have A33 := Aside0.mk A330
                    clear A330
                    replace H := Option.bind_eq_some_iff.mp H
                    obtain ⟨t238, A340, H⟩ := H
                    replace H : (rillmeterlaw11_LeastNews.j1 kj5 t223 (!t238) t218 t219 t220) = some r := H
                    have A34 := Aside0.mk A340
                    clear A340
                    have H' := Aside0.mk H
                    clear H
                    have hcz35_0 : wc.cell? ⟨gb224, 0, none⟩ = some (.int .u64 t218) := (blk_cell BK224.out 0).trans rfl
                    have hcz35_1 : wc.cell? ⟨gb224, 1, none⟩ = some (.int .i64 t219) := (blk_cell BK224.out 1).trans rfl
                    have hcz35_2 : wc.cell? ⟨gb224, 2, none⟩ = some (.slice Ao10 t220.length co10) := (blk_cell BK224.out 2).trans rfl
                    have hfz35_0 := blk_frozen BK224.out 0
                    have hfz35_1 := blk_frozen BK224.out 1
                    have hfz35_2 := blk_frozen BK224.out 2
                    have p232 : 0 ≤ (0 : Int) := (by omega)
                    have q232 : 0 < (t220.length : Int) := of_decide_eq_true (by first | (with_reducible assumption) | assumption)
                    obtain ⟨ad232, A232_0, c232_0, e232, hx232_0, hl232_0, hi232_0⟩ := at_L1 (Kd.S_reads' HO_225002.out).2.2 0 p232 q232
                    cases e232
                    obtain ⟨ce232, hce232, hMe232, hcc232⟩ := Kd.S_get HO_225002.out [] 0 p232 (by first | exact q232 | exact of_decide_eq_true (by first | (with_reducible assumption) | assumption) | (have e_ := (Kd.S_reads' HO_225002.out).1; omega))
                    obtain ⟨ve232_0, rfl, ge232_0⟩ := hMe232
                    have hv232_0 := hcc232 0 _ rfl
                    rw [Nat.add_zero, show ((Kd.slice 3 (Kd.int .i64))).sz = 1 from rfl, Nat.mul_one] at hv232_0
                    replace hv232_0 := Option.some.inj (hv232_0.symm.trans hx232_0)
                    rw [hv232_0] at ge232_0
                    have HL232_0 := Aside0.mk (show Kd.R (Kd.int .i64) 3 _ _ _ _ (rd_L1 t220 0) from ge232_0)
                    clear hv232_0 ge232_0
                    clear hcc232 hce232
                    have qi232 : (0 < t220.length) = True := eq_true (by omega)
                    (try rw [show ((0 : Int)).toNat = 0 from rfl] at hx232_0)
                    (try rw [Addr.add_zero'] at hx232_0)
                    have HR232_0 := Aside0.mk hi232_0
                    have HC232_0 := Aside0.mk hl232_0
                    clear hi232_0 hl232_0
                    replace p232 := eq_true p232
                    replace q232 := eq_true q232
                    go_wp2_with (first | (go_at_call 11; (with_reducible refine (rillmeterlaw11_ref.calls t218 t219 (fun k_ => (True ∧ k_ ≠ gb224)) _ _ t220 t233 t234 t235 _ ?side1 A33.out).mono ?_); (case side1 => exact Kd.S_V (Kd.S_types (HO_225002.out) BK224.out (by decide))); rintro e w36 ⟨v236, rfl, ho0, hb⟩; have n0_ := Aside0.mk (Kd.S_below (by (with_reducible repeat (first | apply Kd.S_alloc | apply Kd.S_drewN | apply Kd.S_drew)); exact HO_225002.out) hb); have n1_ := Aside0.mk (Kd.R_below (by (with_reducible repeat (first | apply Kd.R_alloc | apply Kd.R_drewN | apply Kd.R_drew)); exact HL232_0.out) hb); have n2_ := Aside0.mk (Kd.V_lower (Kd.V_mono (ok' := fun k_ => k_ ≠ gb224) ho0 (fun k_ hk_ => Or.elim hk_ (fun hs_ => hs_.2) (fun hn_ => (Kd.freshB (g := gb224) (o := .cells #[.int .u64 t218, .int .i64 t219, .slice (some ad232) t220.length co10] 25 (0, 0)) (by (with_reducible repeat (first | refine blk_drewN ?_ _ | refine blk_drew ?_ | refine blk_alloc ?_ _)); exact BK224.out) k_ hn_)))) (below_size (by repeat (first | (with_reducible first | exact HB.out | apply below_alloc | apply pw_below_drewN | apply below_drew1 | refine below_set ?_ GE224.out) | exact HB.out)))); have n3_ := Aside0.mk (blk_below (g := gb224) (o := .cells #[.int .u64 t218, .int .i64 t219, .slice (some ad232) t220.length co10] 25 (0, 0)) (by (with_reducible repeat (first | refine blk_drewN ?_ _ | refine blk_drew ?_ | refine blk_alloc ?_ _)); exact BK224.out) hb); have n4_ := Aside0.mk (Kd.C_below (by repeat (first | (with_reducible exact HR232_0.out) | (with_reducible refine Kd.C_alloc ?_ _) | (with_reducible refine Kd.C_drewN ?_ _) | (with_reducible refine Kd.C_drew ?_) | exact HR232_0.out)) hb); have n5_ := Aside0.mk (below_step (by repeat (first | (with_reducible first | exact HB.out | apply below_alloc | apply pw_below_drewN | apply below_drew1 | refine below_set ?_ GE224.out) | exact HB.out)) hb); clear HO_225002; clear HL232_0; clear BK224; clear HR232_0; clear HB; have HO_225002 := n0_; have HL232_0 := n1_; have HO237 := n2_; have BK224 := n3_; have HR232_0 := n4_; have HB := n5_; clear n0_ n1_ n2_ n3_ n4_ n5_; (try clear hb); (try clear hb2); (try clear hk); (try clear hi); (try clear ho0); obtain ⟨Ao37, co37, eo37⟩ := Kd.V_slice HO237.out; subst eo37) | (go_at_call 13; (with_reducible refine (rillmeterref11_Right.calls kj5 t233 t234 _ _ t235 t238 _ ?side1 ?side2 A34.out).mono ?_); (case side1 => repeat (first | exact (Kd.V_reads' HO237.out).2.2 | (with_reducible refine Kd.C_alloc ?_ _) | (with_reducible refine Kd.C_drewN ?_ _) | (with_reducible refine Kd.C_drew ?_))); (case side2 => exact (Kd.V_reads' HO237.out).2.1); rintro e w38 ⟨rfl, hb⟩; have n0_ := Aside0.mk (Kd.S_below (by (with_reducible repeat (first | apply Kd.S_alloc | apply Kd.S_drewN | apply Kd.S_drew)); exact HO_225002.out) hb); have n1_ := Aside0.mk (Kd.R_below (by (with_reducible repeat (first | apply Kd.R_alloc | apply Kd.R_drewN | apply Kd.R_drew)); exact HL232_0.out) hb); have n2_ := Aside0.mk (Kd.V_below (by (with_reducible repeat (first | apply Kd.V_alloc | apply Kd.V_drewN | apply Kd.V_drew)); exact HO237.out) hb); have n3_ := Aside0.mk (blk_below (g := gb224) (o := .cells #[.int .u64 t218, .int .i64 t219, .slice (some ad232) t220.length co10] 25 (0, 0)) (by (with_reducible repeat (first | refine blk_drewN ?_ _ | refine blk_drew ?_ | refine blk_alloc ?_ _)); exact BK224.out) hb); have n4_ := Aside0.mk (Kd.C_below (by repeat (first | (with_reducible exact HR232_0.out) | (with_reducible refine Kd.C_alloc ?_ _) | (with_reducible refine Kd.C_drewN ?_ _) | (with_reducible refine Kd.C_drew ?_) | exact HR232_0.out)) hb); have n5_ := Aside0.mk (below_step (by repeat (first | (with_reducible first | exact HB.out | apply below_alloc | apply pw_below_drewN | apply below_drew1 | refine below_set ?_ GE224.out) | exact HB.out)) hb); clear HO_225002; clear HL232_0; clear HO237; clear BK224; clear HR232_0; clear HB; have HO_225002 := n0_; have HL232_0 := n1_; have HO237 := n2_; have BK224 := n3_; have HR232_0 := n4_; have HB := n5_; clear n0_ n1_ n2_ n3_ n4_ n5_; (try clear hb); (try clear hb2); (try clear hk); (try clear hi)))
                    go_meet
                    case rel => exact ⟨_, (!t238), (by first | rfl | (simp; done) | (simp [*]; done)), H', ⟨by have := HJ5.out; first | omega | exact Nat.le_refl _⟩, ⟨by (with_reducible repeat (first | apply Kd.S_alloc | apply Kd.S_drewN | apply Kd.S_drew)); exact HO_225002.out⟩, ⟨by (with_reducible repeat (first | refine blk_drewN ?_ _ | refine blk_drew ?_ | refine blk_alloc ?_ _)); exact BK224.out⟩, ⟨by repeat (first | (with_reducible first | exact HB.out | apply below_alloc | apply pw_below_drewN | apply below_drew1 | refine below_set ?_ GE224.out) | exact HB.out)⟩⟩
                  · rw [if_neg c32] at H
                    have c32b0 : (t219 == a3) = false := beq_eq_false_iff_ne.mpr c32
                    have c32b1 : (t219 != a3) = true := bne_iff_ne.mpr c32
                    have H' := Aside0.mk H
                    clear H
                    have hcz39_0 : wc.cell? ⟨gb224, 0, none⟩ = some (.int .u64 t218) := (blk_cell BK224.out 0).trans rfl
                    have hcz39_1 : wc.cell? ⟨gb224, 1, none⟩ = some (.int .i64 t219) := (blk_cell BK224.out 1).trans rfl
                    have hcz39_2 : wc.cell? ⟨gb224, 2, none⟩ = some (.slice Ao10 t220.length co10) := (blk_cell BK224.out 2).trans rfl
                    have hfz39_0 := blk_frozen BK224.out 0
                    have hfz39_1 := blk_frozen BK224.out 1
                    have hfz39_2 := blk_frozen BK224.out 2
                    have p232 : 0 ≤ (0 : Int) := (by omega)
                    have q232 : 0 < (t220.length : Int) := of_decide_eq_true (by first | (with_reducible assumption) | assumption)
                    obtain ⟨ad232, A232_0, c232_0, e232, hx232_0, hl232_0, hi232_0⟩ := at_L1 (Kd.S_reads' HO_225002.out).2.2 0 p232 q232
                    cases e232
                    obtain ⟨ce232, hce232, hMe232, hcc232⟩ := Kd.S_get HO_225002.out [] 0 p232 (by first | exact q232 | exact of_decide_eq_true (by first | (with_reducible assumption) | assumption) | (have e_ := (Kd.S_reads' HO_225002.out).1; omega))
                    obtain ⟨ve232_0, rfl, ge232_0⟩ := hMe232
                    have hv232_0 := hcc232 0 _ rfl
                    rw [Nat.add_zero, show ((Kd.slice 3 (Kd.int .i64))).sz = 1 from rfl, Nat.mul_one] at hv232_0
                    replace hv232_0 := Option.some.inj (hv232_0.symm.trans hx232_0)
                    rw [hv232_0] at ge232_0
                    have HL232_0 := Aside0.mk (show Kd.R (Kd.int .i64) 3 _ _ _ _ (rd_L1 t220 0) from ge232_0)
                    clear hv232_0 ge232_0
                    clear hcc232 hce232
                    have qi232 : (0 < t220.length) = True := eq_true (by omega)
                    (try rw [show ((0 : Int)).toNat = 0 from rfl] at hx232_0)
                    (try rw [Addr.add_zero'] at hx232_0)
                    have HR232_0 := Aside0.mk hi232_0
                    have HC232_0 := Aside0.mk hl232_0
                    clear hi232_0 hl232_0
                    replace p232 := eq_true p232
                    replace q232 := eq_true q232
                    go_wp2
                    go_meet
                    case rel => exact ⟨_, (true), (by first | rfl | (simp; done) | (simp [*]; done)), H', ⟨by have := HJ5.out; first | omega | exact Nat.le_refl _⟩, ⟨by (with_reducible repeat (first | apply Kd.S_alloc | apply Kd.S_drewN | apply Kd.S_drew)); exact HO_225002.out⟩, ⟨by (with_reducible repeat (first | refine blk_drewN ?_ _ | refine blk_drew ?_ | refine blk_alloc ?_ _)); exact BK224.out⟩, ⟨by repeat (first | (with_reducible first | exact HB.out | apply below_alloc | apply pw_below_drewN | apply below_drew1 | refine below_set ?_ GE224.out) | exact HB.out)⟩⟩
                · rw [if_neg c31] at H
                  have c31b0 : (t218 == a0) = false := beq_eq_false_iff_ne.mpr c31
                  have c31b1 : (t218 != a0) = true := bne_iff_ne.mpr c31
                  have H' := Aside0.mk H
                  clear H
                  have hcz40_0 : wc.cell? ⟨gb224, 0, none⟩ = some (.int .u64 t218) := (blk_cell BK224.out 0).trans rfl
                  have hcz40_1 : wc.cell? ⟨gb224, 1, none⟩ = some (.int .i64 t219) := (blk_cell BK224.out 1).trans rfl
                  have hcz40_2 : wc.cell? ⟨gb224, 2, none⟩ = some (.slice Ao10 t220.length co10) := (blk_cell BK224.out 2).trans rfl
                  have hfz40_0 := blk_frozen BK224.out 0
                  have hfz40_1 := blk_frozen BK224.out 1
                  have hfz40_2 := blk_frozen BK224.out 2
                  have p232 : 0 ≤ (0 : Int) := (by omega)
                  have q232 : 0 < (t220.length : Int) := of_decide_eq_true (by first | (with_reducible assumption) | assumption)
                  obtain ⟨ad232, A232_0, c232_0, e232, hx232_0, hl232_0, hi232_0⟩ := at_L1 (Kd.S_reads' HO_225002.out).2.2 0 p232 q232
                  cases e232
                  obtain ⟨ce232, hce232, hMe232, hcc232⟩ := Kd.S_get HO_225002.out [] 0 p232 (by first | exact q232 | exact of_decide_eq_true (by first | (with_reducible assumption) | assumption) | (have e_ := (Kd.S_reads' HO_225002.out).1; omega))
                  obtain ⟨ve232_0, rfl, ge232_0⟩ := hMe232
                  have hv232_0 := hcc232 0 _ rfl
                  rw [Nat.add_zero, show ((Kd.slice 3 (Kd.int .i64))).sz = 1 from rfl, Nat.mul_one] at hv232_0
                  replace hv232_0 := Option.some.inj (hv232_0.symm.trans hx232_0)
                  rw [hv232_0] at ge232_0
                  have HL232_0 := Aside0.mk (show Kd.R (Kd.int .i64) 3 _ _ _ _ (rd_L1 t220 0) from ge232_0)
                  clear hv232_0 ge232_0
                  clear hcc232 hce232
                  have qi232 : (0 < t220.length) = True := eq_true (by omega)
                  (try rw [show ((0 : Int)).toNat = 0 from rfl] at hx232_0)
                  (try rw [Addr.add_zero'] at hx232_0)
                  have HR232_0 := Aside0.mk hi232_0
                  have HC232_0 := Aside0.mk hl232_0
                  clear hi232_0 hl232_0
                  replace p232 := eq_true p232
                  replace q232 := eq_true q232
                  go_wp2
                  go_meet
                  case rel => exact ⟨_, (true), (by first | rfl | (simp; done) | (simp [*]; done)), H', ⟨by have := HJ5.out; first | omega | exact Nat.le_refl _⟩, ⟨by (with_reducible repeat (first | apply Kd.S_alloc | apply Kd.S_drewN | apply Kd.S_drew)); exact HO_225002.out⟩, ⟨by (with_reducible repeat (first | refine blk_drewN ?_ _ | refine blk_drew ?_ | refine blk_alloc ?_ _)); exact BK224.out⟩, ⟨by repeat (first | (with_reducible first | exact HB.out | apply below_alloc | apply pw_below_drewN | apply below_drew1 | refine below_set ?_ GE224.out) | exact HB.out)⟩⟩
              · rw [if_neg c30] at H
                have c30b0 : (((rd_L1 t220 0).length : Int) == a2) = false := beq_eq_false_iff_ne.mpr c30
                have c30b1 : (((rd_L1 t220 0).length : Int) != a2) = true := bne_iff_ne.mpr c30
                have H' := Aside0.mk H
                clear H
                have hcz41_0 : wc.cell? ⟨gb224, 0, none⟩ = some (.int .u64 t218) := (blk_cell BK224.out 0).trans rfl
                have hcz41_1 : wc.cell? ⟨gb224, 1, none⟩ = some (.int .i64 t219) := (blk_cell BK224.out 1).trans rfl
                have hcz41_2 : wc.cell? ⟨gb224, 2, none⟩ = some (.slice Ao10 t220.length co10) := (blk_cell BK224.out 2).trans rfl
                have hfz41_0 := blk_frozen BK224.out 0
                have hfz41_1 := blk_frozen BK224.out 1
                have hfz41_2 := blk_frozen BK224.out 2
                have p232 : 0 ≤ (0 : Int) := (by omega)
                have q232 : 0 < (t220.length : Int) := of_decide_eq_true (by first | (with_reducible assumption) | assumption)
                obtain ⟨ad232, A232_0, c232_0, e232, hx232_0, hl232_0, hi232_0⟩ := at_L1 (Kd.S_reads' HO_225002.out).2.2 0 p232 q232
                cases e232
                obtain ⟨ce232, hce232, hMe232, hcc232⟩ := Kd.S_get HO_225002.out [] 0 p232 (by first | exact q232 | exact of_decide_eq_true (by first | (with_reducible assumption) | assumption) | (have e_ := (Kd.S_reads' HO_225002.out).1; omega))
                obtain ⟨ve232_0, rfl, ge232_0⟩ := hMe232
                have hv232_0 := hcc232 0 _ rfl
                rw [Nat.add_zero, show ((Kd.slice 3 (Kd.int .i64))).sz = 1 from rfl, Nat.mul_one] at hv232_0
                replace hv232_0 := Option.some.inj (hv232_0.symm.trans hx232_0)
                rw [hv232_0] at ge232_0
                have HL232_0 := Aside0.mk (show Kd.R (Kd.int .i64) 3 _ _ _ _ (rd_L1 t220 0) from ge232_0)
                clear hv232_0 ge232_0
                clear hcc232 hce232
                have qi232 : (0 < t220.length) = True := eq_true (by omega)
                (try rw [show ((0 : Int)).toNat = 0 from rfl] at hx232_0)
                (try rw [Addr.add_zero'] at hx232_0)
                have HR232_0 := Aside0.mk hi232_0
                have HC232_0 := Aside0.mk hl232_0
                clear hi232_0 hl232_0
                replace p232 := eq_true p232
                replace q232 := eq_true q232
                go_wp2
                go_meet
                case rel => exact ⟨_, (true), (by first | rfl | (simp; done) | (simp [*]; done)), H', ⟨by have := HJ5.out; first | omega | exact Nat.le_refl _⟩, ⟨by (with_reducible repeat (first | apply Kd.S_alloc | apply Kd.S_drewN | apply Kd.S_drew)); exact HO_225002.out⟩, ⟨by (with_reducible repeat (first | refine blk_drewN ?_ _ | refine blk_drew ?_ | refine blk_alloc ?_ _)); exact BK224.out⟩, ⟨by repeat (first | (with_reducible first | exact HB.out | apply below_alloc | apply pw_below_drewN | apply below_drew1 | refine below_set ?_ GE224.out) | exact HB.out)⟩⟩
            · rw [if_neg c29] at H
              exact absurd H (by simp)
          · rw [if_neg c28] at H
            have c28b0 : ((t220.length : Int) == a1) = false := beq_eq_false_iff_ne.mpr c28
            have c28b1 : ((t220.length : Int) != a1) = true := bne_iff_ne.mpr c28
            (first | rw [c28b0] | (simp only [i64_w, i32_w]; rw [c28b0]) | skip)
            have H' := Aside0.mk H
            clear H
            have hcz42_0 : wc.cell? ⟨gb224, 0, none⟩ = some (.int .u64 t218) := (blk_cell BK224.out 0).trans rfl
            have hcz42_1 : wc.cell? ⟨gb224, 1, none⟩ = some (.int .i64 t219) := (blk_cell BK224.out 1).trans rfl
            have hcz42_2 : wc.cell? ⟨gb224, 2, none⟩ = some (.slice Ao10 t220.length co10) := (blk_cell BK224.out 2).trans rfl
            have hfz42_0 := blk_frozen BK224.out 0
            have hfz42_1 := blk_frozen BK224.out 1
            have hfz42_2 := blk_frozen BK224.out 2
            go_wp2
            go_meet
            case rel => exact ⟨_, (true), (by first | rfl | (simp; done) | (simp [*]; done)), H', ⟨by have := HJ5.out; first | omega | exact Nat.le_refl _⟩, ⟨by (with_reducible repeat (first | apply Kd.S_alloc | apply Kd.S_drewN | apply Kd.S_drew)); exact HO_225002.out⟩, ⟨by (with_reducible repeat (first | refine blk_drewN ?_ _ | refine blk_drew ?_ | refine blk_alloc ?_ _)); exact BK224.out⟩, ⟨by repeat (first | (with_reducible first | exact HB.out | apply below_alloc | apply pw_below_drewN | apply below_drew1 | refine below_set ?_ GE224.out) | exact HB.out)⟩⟩
        case rest =>
          clear HC27
          try clear c1
          try clear c2
          try clear p2
          try clear q2
          try clear hx2
          try clear qi2
          try clear c3
          try clear c9
          try clear c10
          try clear c11
          try clear c11b0
          try clear c12
          try clear c12b0
          try clear c13
          try clear c13b0
          try clear c14
          try clear c14b0
          try clear c15
          try clear c15b0
          try clear c16
          try clear c19
          try clear c20
          try clear c20b0
          try clear c20b1
          try clear c23
          try clear p23
          try clear q23
          try clear hx23
          try clear qi23
          try clear c28
          try clear c28b0
          try clear c28b1
          try clear c29
          try clear c29b0
          try clear c29b1
          try clear c30
          try clear c30b0
          try clear c30b1
          try clear c31
          try clear c31b0
          try clear c31b1
          try clear c32
          try clear c32b0
          try clear c32b1
          try clear hcz22_0
          try clear hcz22_1
          try clear hcz22_2
          try clear hcz35_0
          try clear hcz35_1
          try clear hcz35_2
          try clear hcz39_0
          try clear hcz39_1
          try clear hcz39_2
          try clear hcz40_0
          try clear hcz40_1
          try clear hcz40_2
          try clear hcz41_0
          try clear hcz41_1
          try clear hcz41_2
          try clear hcz42_0
          try clear hcz42_1
          try clear hcz42_2
          try clear hcz9_0
          try clear hcz9_1
          try clear hcz9_2
          try clear hfz22_0
          try clear hfz22_1
          try clear hfz22_2
          try clear hfz35_0
          try clear hfz35_1
          try clear hfz35_2
          try clear hfz39_0
          try clear hfz39_1
          try clear hfz39_2
          try clear hfz40_0
          try clear hfz40_1
          try clear hfz40_2
          try clear hfz41_0
          try clear hfz41_1
          try clear hfz41_2
          try clear hfz42_0
          try clear hfz42_1
          try clear hfz42_2
          try clear hfz9_0
          try clear hfz9_1
          try clear hfz9_2
          try clear hx232_0
          try clear p2
          try clear p232
          try clear q232
          obtain ⟨kq, x86_26, rfl, HA, HJ26, HO_225002, BK224, HB⟩ := hcut
          cases kq with
          | zero => exact absurd HA.out (by simp [rillmeterlaw11_LeastNews.j1])
          | succ kj26 =>
            have H := HA.out
            clear HA
            simp only [rillmeterlaw11_LeastNews.j1] at H
            by_cases c43 : x86_26 = true
            · subst c43
              have H1 : (some false) = some r := by rw [if_pos rfl] at H; exact H
              clear H
              have H := H1
              clear H1
              exact absurd ((Option.some.inj H).trans hrt.out) (by decide)
            · replace c43 := Bool.eq_false_iff.mpr c43
              subst c43
              have H1 : (rillmeterlaw11_LeastNews.l0 kj26 t223 (t220.length : Int) 0 t218 t219 t220) = some r := by rw [if_neg (show ¬ (false = true) by decide)] at H; exact H
              clear H
              have H := H1
              clear H1
              have H' := Aside0.mk H
              clear H
              have hcz44_0 : wc.cell? ⟨gb224, 0, none⟩ = some (.int .u64 t218) := (blk_cell BK224.out 0).trans rfl
              have hcz44_1 : wc.cell? ⟨gb224, 1, none⟩ = some (.int .i64 t219) := (blk_cell BK224.out 1).trans rfl
              have hcz44_2 : wc.cell? ⟨gb224, 2, none⟩ = some (.slice Ao10 t220.length co10) := (blk_cell BK224.out 2).trans rfl
              have hfz44_0 := blk_frozen BK224.out 0
              have hfz44_1 := blk_frozen BK224.out 1
              have hfz44_2 := blk_frozen BK224.out 2
              go_wp2
              go_loopg [90] kj26 (fun kq v90 w' => ∃ (x90_3 : Int), v90 = .int .i64 x90_3 ∧ Aside0 (rillmeterlaw11_LeastNews.l0 kq t223 (t220.length : Int) x90_3 t218 t219 t220 = some r) ∧ Aside0 (kq ≤ kj26) ∧ Aside0 (Kd.S (Kd.slice 3 (Kd.int .i64)) 33 w' w.heap.size (fun _ => True) (.slice Ao10 t220.length co10) t220) ∧ Aside0 (w'.heap[gb224]? = some (.cells #[.int .u64 t218, .int .i64 t219, (.slice Ao10 t220.length co10)] 25 (0, 0))) ∧ Aside0 (Below w.heap.size w w'))
              case atStart => exact ⟨(0), (by first | rfl | (simp; done) | (simp [*]; done)), H', ⟨Nat.le_refl _⟩, ⟨by (with_reducible repeat (first | apply Kd.S_alloc | apply Kd.S_drewN | apply Kd.S_drew)); exact HO_225002.out⟩, ⟨by (with_reducible repeat (first | refine blk_drewN ?_ _ | refine blk_drew ?_ | refine blk_alloc ?_ _)); exact BK224.out⟩, ⟨by repeat (first | (with_reducible first | exact HB.out | apply below_alloc | apply pw_below_drewN | apply below_drew1 | refine below_set ?_ GE224.out) | exact HB.out)⟩⟩
              case round =>
                clear H'
                try clear c1
                try clear c2
                try clear p2
                try clear q2
                try clear hx2
                try clear qi2
                try clear c3
                try clear c4
                try clear c9
                try clear c10
                try clear c11
                try clear c11b0
                try clear c12
                try clear c12b0
                try clear c13
                try clear c13b0
                try clear c14
                try clear c14b0
                try clear c15
                try clear c15b0
                try clear c16
                try clear c19
                try clear c20
                try clear c20b0
                try clear c20b1
                try clear c23
                try clear p23
                try clear q23
                try clear hx23
                try clear qi23
                try clear c28
                try clear c28b0
                try clear c28b1
                try clear c29
                try clear c29b0
                try clear c29b1
                try clear c30
                try clear c30b0
                try clear c30b1
                try clear c31
                try clear c31b0
                try clear c31b1
                try clear c32
                try clear c32b0
                try clear c32b1
                try clear c43
                try clear hcz22_0
                try clear hcz22_1
                try clear hcz22_2
                try clear hcz35_0
                try clear hcz35_1
                try clear hcz35_2
                try clear hcz39_0
                try clear hcz39_1
                try clear hcz39_2
                try clear hcz40_0
                try clear hcz40_1
                try clear hcz40_2
                try clear hcz41_0
                try clear hcz41_1
                try clear hcz41_2
                try clear hcz42_0
                try clear hcz42_1
                try clear hcz42_2
                try clear hcz44_0
                try clear hcz44_1
                try clear hcz44_2
                try clear hcz9_0
                try clear hcz9_1
                try clear hcz9_2
                try clear hfz22_0
                try clear hfz22_1
                try clear hfz22_2
                try clear hfz35_0
                try clear hfz35_1
                try clear hfz35_2
                try clear hfz39_0
                try clear hfz39_1
                try clear hfz39_2
                try clear hfz40_0
                try clear hfz40_1
                try clear hfz40_2
                try clear hfz41_0
                try clear hfz41_1
                try clear hfz41_2
                try clear hfz42_0
                try clear hfz42_1
                try clear hfz42_2
                try clear hfz44_0
                try clear hfz44_1
                try clear hfz44_2
                try clear hfz9_0
                try clear hfz9_1
                try clear hfz9_2
                try clear hx232_0
                try clear p2
                try clear p23
                try clear p232
                try clear q2
                try clear q23
                try clear q232
                obtain ⟨x90_3, rfl, HA, HK3, HO_225002, BK224, HB⟩ := hrel
                cases gk with
                | zero => exact absurd HA.out (by simp [rillmeterlaw11_LeastNews.l0])
                | succ k3 =>
                  have H := HA.out
                  clear HA
                  simp only [rillmeterlaw11_LeastNews.l0] at H
                  by_cases c45 : x90_3 < (t220.length : Int)
                  · rw [if_pos c45] at H
                    have c45b0 : decide (x90_3 < (t220.length : Int)) = true := decide_eq_true c45
                    clear c45
                    by_cases c46 : 0 ≤ x90_3
                    · rw [if_pos c46] at H
                      have c46b0 : decide (0 ≤ x90_3) = true := decide_eq_true c46
                      clear c46
                      by_cases c47 : x90_3 < (t220.length : Int)
                      · rw [if_pos c47] at H
                        have c47b0 : decide (x90_3 < (t220.length : Int)) = true := decide_eq_true c47
                        clear c47
                        have H' := Aside0.mk H
                        clear H
                        have hcz48_0 : wr.cell? ⟨gb224, 0, none⟩ = some (.int .u64 t218) := (blk_cell BK224.out 0).trans rfl
                        have hcz48_1 : wr.cell? ⟨gb224, 1, none⟩ = some (.int .i64 t219) := (blk_cell BK224.out 1).trans rfl
                        have hcz48_2 : wr.cell? ⟨gb224, 2, none⟩ = some (.slice Ao10 t220.length co10) := (blk_cell BK224.out 2).trans rfl
                        have hfz48_0 := blk_frozen BK224.out 0
                        have hfz48_1 := blk_frozen BK224.out 1
                        have hfz48_2 := blk_frozen BK224.out 2
                        have p240 : 0 ≤ (x90_3 : Int) := of_decide_eq_true (by first | (with_reducible assumption) | assumption)
                        have q240 : x90_3 < (t220.length : Int) := of_decide_eq_true (by first | (with_reducible assumption) | assumption)
                        obtain ⟨ad240, A240_0, c240_0, e240, hx240_0, hl240_0, hi240_0⟩ := at_L1 (Kd.S_reads' HO_225002.out).2.2 x90_3 p240 q240
                        cases e240
                        obtain ⟨ce240, hce240, hMe240, hcc240⟩ := Kd.S_get HO_225002.out [] x90_3 p240 (by first | exact q240 | exact of_decide_eq_true (by first | (with_reducible assumption) | assumption) | (have e_ := (Kd.S_reads' HO_225002.out).1; omega))
                        obtain ⟨ve240_0, rfl, ge240_0⟩ := hMe240
                        have hv240_0 := hcc240 0 _ rfl
                        rw [Nat.add_zero, show ((Kd.slice 3 (Kd.int .i64))).sz = 1 from rfl, Nat.mul_one] at hv240_0
                        replace hv240_0 := Option.some.inj (hv240_0.symm.trans hx240_0)
                        rw [hv240_0] at ge240_0
                        have HL240_0 := Aside0.mk (show Kd.R (Kd.int .i64) 3 _ _ _ _ (rd_L1 t220 x90_3) from ge240_0)
                        clear hv240_0 ge240_0
                        clear hcc240 hce240
                        have HR240_0 := Aside0.mk hi240_0
                        have HC240_0 := Aside0.mk hl240_0
                        clear hi240_0 hl240_0
                        replace p240 := eq_true p240
                        replace q240 := eq_true q240
                        go_wp2
                        go_loopg [99] k3 (fun kq v99 w' => ∃ (x99_4 : Int), v99 = .int .i64 x99_4 ∧ Aside0 (rillmeterlaw11_LeastNews.l1 kq t223 (t220.length : Int) x90_3 (rd_L1 t220 x90_3) ((rd_L1 t220 x90_3).length : Int) x99_4 t218 t219 t220 = some r) ∧ Aside0 (kq ≤ k3) ∧ Aside0 (Kd.S (Kd.slice 3 (Kd.int .i64)) 33 w' w.heap.size (fun _ => True) (.slice (some ad240) t220.length co10) t220) ∧ Aside0 (w'.heap[gb224]? = some (.cells #[.int .u64 t218, .int .i64 t219, (.slice (some ad240) t220.length co10)] 25 (0, 0))) ∧ Aside0 (Kd.C (Kd.int .i64) w' A240_0 (rd_L1 t220 x90_3).length (rd_L1 t220 x90_3)) ∧ Aside0 (Below w.heap.size w w'))
                        case atStart => exact ⟨(0), (by first | rfl | (simp; done) | (simp [*]; done)), H', ⟨Nat.le_refl _⟩, ⟨by (with_reducible repeat (first | apply Kd.S_alloc | apply Kd.S_drewN | apply Kd.S_drew)); exact HO_225002.out⟩, ⟨by (with_reducible repeat (first | refine blk_drewN ?_ _ | refine blk_drew ?_ | refine blk_alloc ?_ _)); exact BK224.out⟩, ⟨by repeat (first | (with_reducible exact HR240_0.out) | (with_reducible refine Kd.C_alloc ?_ _) | (with_reducible refine Kd.C_drewN ?_ _) | (with_reducible refine Kd.C_drew ?_) | exact HR240_0.out)⟩, ⟨by repeat (first | (with_reducible first | exact HB.out | apply below_alloc | apply pw_below_drewN | apply below_drew1 | refine below_set ?_ GE224.out) | exact HB.out)⟩⟩
                        case round =>
                          clear H'
                          try clear c1
                          try clear c2
                          try clear p2
                          try clear q2
                          try clear hx2
                          try clear qi2
                          try clear c3
                          try clear c4
                          try clear c9
                          try clear c10
                          try clear c11
                          try clear c11b0
                          try clear c12
                          try clear c12b0
                          try clear c13
                          try clear c13b0
                          try clear c14
                          try clear c14b0
                          try clear c15
                          try clear c15b0
                          try clear c16
                          try clear c19
                          try clear c20
                          try clear c20b0
                          try clear c20b1
                          try clear c23
                          try clear p23
                          try clear q23
                          try clear hx23
                          try clear qi23
                          try clear c24
                          try clear p24
                          try clear q24
                          try clear hx24
                          try clear c28
                          try clear c28b0
                          try clear c28b1
                          try clear c29
                          try clear c29b0
                          try clear c29b1
                          try clear c30
                          try clear c30b0
                          try clear c30b1
                          try clear c31
                          try clear c31b0
                          try clear c31b1
                          try clear c32
                          try clear c32b0
                          try clear c32b1
                          try clear c43
                          try clear c45
                          try clear c45b0
                          try clear c46
                          try clear c46b0
                          try clear c47
                          try clear c47b0
                          try clear hcz22_0
                          try clear hcz22_1
                          try clear hcz22_2
                          try clear hcz35_0
                          try clear hcz35_1
                          try clear hcz35_2
                          try clear hcz39_0
                          try clear hcz39_1
                          try clear hcz39_2
                          try clear hcz40_0
                          try clear hcz40_1
                          try clear hcz40_2
                          try clear hcz41_0
                          try clear hcz41_1
                          try clear hcz41_2
                          try clear hcz42_0
                          try clear hcz42_1
                          try clear hcz42_2
                          try clear hcz44_0
                          try clear hcz44_1
                          try clear hcz44_2
                          try clear hcz48_0
                          try clear hcz48_1
                          try clear hcz48_2
                          try clear hcz9_0
                          try clear hcz9_1
                          try clear hcz9_2
                          try clear hfz22_0
                          try clear hfz22_1
                          try clear hfz22_2
                          try clear hfz35_0
                          try clear hfz35_1
                          try clear hfz35_2
                          try clear hfz39_0
                          try clear hfz39_1
                          try clear hfz39_2
                          try clear hfz40_0
                          try clear hfz40_1
                          try clear hfz40_2
                          try clear hfz41_0
                          try clear hfz41_1
                          try clear hfz41_2
                          try clear hfz42_0
                          try clear hfz42_1
                          try clear hfz42_2
                          try clear hfz44_0
                          try clear hfz44_1
                          try clear hfz44_2
                          try clear hfz48_0
                          try clear hfz48_1
                          try clear hfz48_2
                          try clear hfz9_0
                          try clear hfz9_1
                          try clear hfz9_2
                          try clear hx232_0
                          try clear hx240_0
                          try clear p2
                          try clear p23
                          try clear p232
                          try clear p240
                          try clear q2
                          try clear q23
                          try clear q232
                          try clear q240
                          obtain ⟨x99_4, rfl, HA, HK4, HO_225002, BK224, HR240_0, HB⟩ := hrel
                          cases gk with
                          | zero => exact absurd HA.out (by simp [rillmeterlaw11_LeastNews.l1])
                          | succ k4 =>
                            have H := HA.out
                            clear HA
                            simp only [rillmeterlaw11_LeastNews.l1] at H
                            by_cases c49 : x99_4 < ((rd_L1 t220 x90_3).length : Int)
                            · rw [if_pos c49] at H
                              have c49b0 : decide (x99_4 < ((rd_L1 t220 x90_3).length : Int)) = true := decide_eq_true c49
                              clear c49
                              by_cases c50 : 0 ≤ x99_4
                              · rw [if_pos c50] at H
                                have c50b0 : decide (0 ≤ x99_4) = true := decide_eq_true c50
                                clear c50
                                by_cases c51 : x99_4 < ((rd_L1 t220 x90_3).length : Int)
                                · rw [if_pos c51] at H
                                  have c51b0 : decide (x99_4 < ((rd_L1 t220 x90_3).length : Int)) = true := decide_eq_true c51
                                  clear c51
                                  by_cases c52 : (rd (rd_L1 t220 x90_3) x99_4) = 0
                                  · rw [if_pos c52] at H
                                    have c52b0 : ((rd (rd_L1 t220 x90_3) x99_4) == 0) = true := beq_iff_eq.mpr c52
                                    have c52b1 : ((rd (rd_L1 t220 x90_3) x99_4) != 0) = false := bne_eq_false_iff_eq.mpr c52
                                    clear c52
                                    have H' := Aside0.mk H
                                    clear H
                                    have p241 : 0 ≤ (x99_4 : Int) := of_decide_eq_true (by first | (with_reducible assumption) | assumption)
                                    have q241 : x99_4 < ((rd_L1 t220 x90_3).length : Int) := of_decide_eq_true (by first | (with_reducible assumption) | assumption)
                                    obtain ⟨ad241, e241, hx241_0⟩ := Kd.at_int HR240_0.out x99_4 p241 q241
                                    cases e241
                                    (try replace hx241_0 := (HB.out.cell (World.block_lt_of_cell? w _ hx241_0)).trans hx241_0)
                                    replace p241 := eq_true p241
                                    replace q241 := eq_true q241
                                    go_wp2
                                    go_roundg k4
                                    case measure => have := HJ5.out; have := HJ26.out; have := HK3.out; have := HK4.out; omega
                                    case rel => exact ⟨(wrap64 (x99_4 + 1)), (by first | rfl | (simp; done) | (simp [*]; done)), H', ⟨by have := HJ5.out; have := HJ26.out; have := HK3.out; have := HK4.out; omega⟩, ⟨by (with_reducible repeat (first | apply Kd.S_alloc | apply Kd.S_drewN | apply Kd.S_drew)); exact HO_225002.out⟩, ⟨by (with_reducible repeat (first | refine blk_drewN ?_ _ | refine blk_drew ?_ | refine blk_alloc ?_ _)); exact BK224.out⟩, ⟨by repeat (first | (with_reducible exact HR240_0.out) | (with_reducible refine Kd.C_alloc ?_ _) | (with_reducible refine Kd.C_drewN ?_ _) | (with_reducible refine Kd.C_drew ?_) | exact HR240_0.out)⟩, ⟨by repeat (first | (with_reducible first | exact HB.out | apply below_alloc | apply pw_below_drewN | apply below_drew1 | refine below_set ?_ GE224.out) | exact HB.out)⟩⟩
                                  · rw [if_neg c52] at H
                                    have c52b0 : ((rd (rd_L1 t220 x90_3) x99_4) == 0) = false := beq_eq_false_iff_ne.mpr c52
                                    have c52b1 : ((rd (rd_L1 t220 x90_3) x99_4) != 0) = true := bne_iff_ne.mpr c52
                                    exact absurd ((Option.some.inj H).trans hrt.out) (by decide)
                                · rw [if_neg c51] at H
                                  exact absurd H (by simp)
                              · rw [if_neg c50] at H
                                exact absurd H (by simp)
                            · rw [if_neg c49] at H
                              have c49b0 : decide (x99_4 < ((rd_L1 t220 x90_3).length : Int)) = false := decide_eq_false c49
                              clear c49
                              have H' := Aside0.mk H
                              clear H
                              go_wp2
                              go_roundg k4
                              case measure => have := HJ5.out; have := HJ26.out; have := HK3.out; have := HK4.out; omega
                              case rel => exact ⟨(wrap64 (x90_3 + 1)), (by first | rfl | (simp; done) | (simp [*]; done)), H', ⟨by have := HJ5.out; have := HJ26.out; have := HK3.out; have := HK4.out; omega⟩, ⟨by (with_reducible repeat (first | apply Kd.S_alloc | apply Kd.S_drewN | apply Kd.S_drew)); exact HO_225002.out⟩, ⟨by (with_reducible repeat (first | refine blk_drewN ?_ _ | refine blk_drew ?_ | refine blk_alloc ?_ _)); exact BK224.out⟩, ⟨by repeat (first | (with_reducible first | exact HB.out | apply below_alloc | apply pw_below_drewN | apply below_drew1 | refine below_set ?_ GE224.out) | exact HB.out)⟩⟩
                      · rw [if_neg c47] at H
                        exact absurd H (by simp)
                    · rw [if_neg c46] at H
                      exact absurd H (by simp)
                  · rw [if_neg c45] at H
                    have c45b0 : decide (x90_3 < (t220.length : Int)) = false := decide_eq_false c45
                    clear c45
                    by_cases c53 : t223 = 0
                    · rw [if_pos c53] at H
                      have c53b0 : (t223 == 0) = true := beq_iff_eq.mpr c53
                      have c53b1 : (t223 != 0) = false := bne_eq_false_iff_eq.mpr c53
                      clear c53
                      replace H := Option.bind_eq_some_iff.mp H
                      obtain ⟨t239, A540, H⟩ := H
                      replace H : (some t239) = some r := H
                      have A54 := Aside0.mk A540
                      clear A540
                      obtain rfl := Option.some.inj H
                      go_wp2_with (first | (go_at_call 12; (with_reducible refine (rillmeterlaw11_awake.calls k3  t239 _ A54.out).mono ?_); rintro e w55 ⟨rfl, hb⟩; have n0_ := Aside0.mk (Kd.S_below (by (with_reducible repeat (first | apply Kd.S_alloc | apply Kd.S_drewN | apply Kd.S_drew)); exact HO_225002.out) hb); have n1_ := Aside0.mk (blk_below (g := gb224) (o := .cells #[.int .u64 t218, .int .i64 t219, .slice Ao10 t220.length co10] 25 (0, 0)) (by (with_reducible repeat (first | refine blk_drewN ?_ _ | refine blk_drew ?_ | refine blk_alloc ?_ _)); exact BK224.out) hb); have n2_ := Aside0.mk (below_step (by repeat (first | (with_reducible first | exact HB.out | apply below_alloc | apply pw_below_drewN | apply below_drew1 | refine below_set ?_ GE224.out) | exact HB.out)) hb); clear HO_225002; clear BK224; clear HB; have HO_225002 := n0_; have BK224 := n1_; have HB := n2_; clear n0_ n1_ n2_; (try clear hb); (try clear hb2); (try clear hk); (try clear hi)))
                      go_ret
                      exact ⟨by first | rfl | (simp [errW_none, errW_some] <;> rfl) | (simp [*, errW_none, errW_some] <;> rfl), by repeat (first | (with_reducible first | exact HB.out | apply below_alloc | apply pw_below_drewN | apply below_drew1 | refine below_set ?_ GE224.out) | exact HB.out)⟩
                    · rw [if_neg c53] at H
                      have c53b0 : (t223 == 0) = false := beq_eq_false_iff_ne.mpr c53
                      have c53b1 : (t223 != 0) = true := bne_iff_ne.mpr c53
                      exact absurd ((Option.some.inj H).trans hrt.out) (by decide)

/-- THE ONE PURE STATEMENT of rillmeterlaw11_LeastNews: yours. -/
def rillmeterlaw11_LeastNews.Pure : Prop := ∀ (a0 : Int) (a1 : Int) (a2 : Int) (a3 : Int), (Lit.int .u64 a0).wf = true → (Lit.int .i64 a1).wf = true → (Lit.int .i64 a2).wf = true → (Lit.int .i64 a3).wf = true → ∃ k, rillmeterlaw11_LeastNews.f k a0 a1 a2 a3 = some true
theorem rillmeterlaw11_LeastNews.walk (P : rillmeterlaw11_LeastNews.Pure) (a0 : Int) (a1 : Int) (a2 : Int) (a3 : Int) (w : World) (w0 : (Lit.int .u64 a0).wf = true) (w1 : (Lit.int .i64 a1).wf = true) (w2 : (Lit.int .i64 a2).wf = true) (w3 : (Lit.int .i64 a3).wf = true) :
    Calls Try.prog 3 #[.int .u64 a0, .int .i64 a1, .int .i64 a2, .int .i64 a3] w fun e w' => e = .returned (.bool true) ∧ Below w.heap.size w w' := by
  obtain ⟨k, h⟩ := P a0 a1 a2 a3 w0 w1 w2 w3
  refine (rillmeterlaw11_LeastNews.calls k a0 a1 a2 a3 true w h ⟨rfl⟩).mono ?_
  rintro e w' ⟨rfl, hd⟩
  exact ⟨rfl, hd⟩

end Go.Proofs.Yteendbdmkijpkaa.PLeastNews
