/- The functions that a law uses, each as a plain function, with the proof that a call of the Go function comes to its answer. Condition of each: the arguments read as the data that it names, and the plain function has an answer. Written by a program of this session (standin.py). -/
import Derived.Test.YteakbghjhckoeaaDoorPBitmapNewsx0
import Derived.Test.YteakbghjhckoeaaDoorPBitmapNewsx1
import Derived.Test.YteakbghjhckoeaaDoorPBitmapNewsx2
import Derived.Test.YteakbghjhckoeaaDoorPBitmapNewsx4
import Derived.Lib.SliceRun
import Derived.Test.YteakbghjhckoeaaDoorTabs
namespace Go.Proofs.YteakbghjhckoeaaDoor.PBitmapNews
open Go.RowKit Go.Proofs.YteakbghjhckoeaaDoorW.PrintWords Go.Proofs.YteakbghjhckoeaaDoorW.PrintLast Go.Proofs.YteakbghjhckoeaaDoorW.PrintMore Go.Proofs.YteakbghjhckoeaaDoor.Short Go.Proofs.YteakbghjhckoeaaDoor.Tabs
attribute [local go_sem] max2_int min2_int max_two min_two max_three min_three max_four min_four   -- for this text's walks alone
set_option linter.unusedVariables false
set_option linter.unusedSimpArgs false

/-! ### rillmeterlaw13_BitmapNews: function 3 -/
mutual
def rillmeterlaw13_BitmapNews.j0 : Nat → Int → Int → Int → Int → Bool → Int → List (List Bool) → Option (Bool)
  | 0, _, _, _, _, _, _, _ => none
  | k + 1, x0, x1, x2, x8, x32, x210000, x210001 => if x32 = true then ((rillmeterlaw13_ref.f x210000 x210001).bind fun bt210 => ((rillmeterref13_Equal.f k bt210.1 bt210.2 0 ([] : List (List Bool))).bind fun t214 => (if t214 = true then (if x8 = 1 then ((rillmeterlaw13_awake.f k).bind fun t215 => (some t215)) else (some false)) else (some false)))) else (if (x210001.length : Int) = x1 then (if 0 < (x210001.length : Int) then (if ((rd_L1 x210001 0).length : Int) = x2 then (rillmeterlaw13_BitmapNews.j1 k x8 (x210000 != x0) x210000 x210001) else (rillmeterlaw13_BitmapNews.j1 k x8 true x210000 x210001)) else (none)) else (rillmeterlaw13_BitmapNews.j1 k x8 true x210000 x210001))
def rillmeterlaw13_BitmapNews.j1 : Nat → Int → Bool → Int → List (List Bool) → Option (Bool)
  | 0, _, _, _, _ => none
  | k + 1, x8, x63, x210000, x210001 => if x63 = true then (some false) else (rillmeterlaw13_BitmapNews.l0 k x8 (x210001.length : Int) 0 x210000 x210001)
def rillmeterlaw13_BitmapNews.l0 : Nat → Int → Int → Int → Int → List (List Bool) → Option (Bool)
  | 0, _, _, _, _, _ => none
  | k + 1, x8, x66, x67, x210000, x210001 => if x67 < x66 then (if 0 ≤ x67 then (if x67 < (x210001.length : Int) then (rillmeterlaw13_BitmapNews.l1 k x8 x66 x67 (rd_L1 x210001 x67) ((rd_L1 x210001 x67).length : Int) 0 x210000 x210001) else (none)) else (none)) else (if x8 = 0 then ((rillmeterlaw13_ref.f x210000 x210001).bind fun bt219 => ((rillmeterref13_Right.f k bt219.1 bt219.2).bind fun t223 => (if t223 = true then ((bitmap_Right.f x210000 x210001).bind fun t224 => (if t224 = true then ((rillmeterlaw13_awake.f k).bind fun t225 => (some t225)) else (some false))) else (some false)))) else (some false))
def rillmeterlaw13_BitmapNews.l1 : Nat → Int → Int → Int → List Bool → Int → Int → Int → List (List Bool) → Option (Bool)
  | 0, _, _, _, _, _, _, _, _ => none
  | k + 1, x8, x66, x67, x74, x75, x76, x210000, x210001 => if x76 < x75 then (if 0 ≤ x76 then (if x76 < (x74.length : Int) then (if rdOf false x74 x76 = true then (some false) else (rillmeterlaw13_BitmapNews.l1 k x8 x66 x67 x74 x75 (wrap64 (x76 + 1)) x210000 x210001)) else (none)) else (none)) else (rillmeterlaw13_BitmapNews.l0 k x8 x66 (wrap64 (x67 + 1)) x210000 x210001)
end
def rillmeterlaw13_BitmapNews.f (k : Nat) (a0 : Int) (a1 : Int) (a2 : Int) : Option (Bool) := (bitmap_New.f k a0 a1 a2).bind fun bt204 => (if a1 < 1 then (rillmeterlaw13_BitmapNews.j0 k a0 a1 a2 bt204.2.2 true bt204.1 bt204.2.1) else (if a1 > 16 then (rillmeterlaw13_BitmapNews.j0 k a0 a1 a2 bt204.2.2 true bt204.1 bt204.2.1) else (if a2 < 1 then (rillmeterlaw13_BitmapNews.j0 k a0 a1 a2 bt204.2.2 true bt204.1 bt204.2.1) else (rillmeterlaw13_BitmapNews.j0 k a0 a1 a2 bt204.2.2 (decide (a2 > 256)) bt204.1 bt204.2.1))))
theorem rillmeterlaw13_BitmapNews.mono_l : ∀ k, (∀ y0 y1 y2 y3 y4 y5 y6, LeO (rillmeterlaw13_BitmapNews.j0 k y0 y1 y2 y3 y4 y5 y6) (rillmeterlaw13_BitmapNews.j0 (k + 1) y0 y1 y2 y3 y4 y5 y6)) ∧ (∀ y0 y1 y2 y3, LeO (rillmeterlaw13_BitmapNews.j1 k y0 y1 y2 y3) (rillmeterlaw13_BitmapNews.j1 (k + 1) y0 y1 y2 y3)) ∧ (∀ y0 y1 y2 y3 y4, LeO (rillmeterlaw13_BitmapNews.l0 k y0 y1 y2 y3 y4) (rillmeterlaw13_BitmapNews.l0 (k + 1) y0 y1 y2 y3 y4)) ∧ (∀ y0 y1 y2 y3 y4 y5 y6 y7, LeO (rillmeterlaw13_BitmapNews.l1 k y0 y1 y2 y3 y4 y5 y6 y7) (rillmeterlaw13_BitmapNews.l1 (k + 1) y0 y1 y2 y3 y4 y5 y6 y7))
  | 0 => ⟨fun _ _ _ _ _ _ _ r h => by simp [rillmeterlaw13_BitmapNews.j0] at h, fun _ _ _ _ r h => by simp [rillmeterlaw13_BitmapNews.j1] at h, fun _ _ _ _ _ r h => by simp [rillmeterlaw13_BitmapNews.l0] at h, fun _ _ _ _ _ _ _ _ r h => by simp [rillmeterlaw13_BitmapNews.l1] at h⟩
  | k + 1 => by
    obtain ⟨ih0, ih1, ih2, ih3⟩ := rillmeterlaw13_BitmapNews.mono_l k
    refine ⟨?_, ?_, ?_, ?_⟩
    · intro y0 y1 y2 y3 y4 y5 y6
      unfold rillmeterlaw13_BitmapNews.j0
      repeat' first
      | (with_reducible exact ih0 _ _ _ _ _ _ _)
      | (with_reducible exact ih1 _ _ _ _)
      | (with_reducible exact ih2 _ _ _ _ _)
      | (with_reducible exact ih3 _ _ _ _ _ _ _ _)
      | (with_reducible exact bitmap_New.mono _ _ _ _)
      | (with_reducible exact rillmeterlaw13_awake.mono _)
      | (with_reducible exact rillmeterref13_Equal.mono _ _ _ _ _)
      | (with_reducible exact rillmeterref13_Right.mono _ _ _)
      | (with_reducible exact LeO.refl _)
      | (with_reducible exact LeO.none _)
      | (with_reducible refine LeO.ite ?_ ?_)
      | (with_reducible refine LeO.bind ?_ (fun _ => ?_))
      | exact ih0 _ _ _ _ _ _ _
      | exact ih1 _ _ _ _
      | exact ih2 _ _ _ _ _
      | exact ih3 _ _ _ _ _ _ _ _
      | exact bitmap_New.mono _ _ _ _
      | exact rillmeterlaw13_awake.mono _
      | exact rillmeterref13_Equal.mono _ _ _ _ _
      | exact rillmeterref13_Right.mono _ _ _
      | exact LeO.none _
      | refine LeO.ite ?_ ?_
      | refine LeO.bind ?_ (fun _ => ?_)
    · intro y0 y1 y2 y3
      unfold rillmeterlaw13_BitmapNews.j1
      repeat' first
      | (with_reducible exact ih0 _ _ _ _ _ _ _)
      | (with_reducible exact ih1 _ _ _ _)
      | (with_reducible exact ih2 _ _ _ _ _)
      | (with_reducible exact ih3 _ _ _ _ _ _ _ _)
      | (with_reducible exact bitmap_New.mono _ _ _ _)
      | (with_reducible exact rillmeterlaw13_awake.mono _)
      | (with_reducible exact rillmeterref13_Equal.mono _ _ _ _ _)
      | (with_reducible exact rillmeterref13_Right.mono _ _ _)
      | (with_reducible exact LeO.refl _)
      | (with_reducible exact LeO.none _)
      | (with_reducible refine LeO.ite ?_ ?_)
      | (with_reducible refine LeO.bind ?_ (fun _ => ?_))
      | exact ih0 _ _ _ _ _ _ _
      | exact ih1 _ _ _ _
      | exact ih2 _ _ _ _ _
      | exact ih3 _ _ _ _ _ _ _ _
      | exact bitmap_New.mono _ _ _ _
      | exact rillmeterlaw13_awake.mono _
      | exact rillmeterref13_Equal.mono _ _ _ _ _
      | exact rillmeterref13_Right.mono _ _ _
      | exact LeO.none _
      | refine LeO.ite ?_ ?_
      | refine LeO.bind ?_ (fun _ => ?_)
    · intro y0 y1 y2 y3 y4
      unfold rillmeterlaw13_BitmapNews.l0
      repeat' first
      | (with_reducible exact ih0 _ _ _ _ _ _ _)
      | (with_reducible exact ih1 _ _ _ _)
      | (with_reducible exact ih2 _ _ _ _ _)
      | (with_reducible exact ih3 _ _ _ _ _ _ _ _)
      | (with_reducible exact bitmap_New.mono _ _ _ _)
      | (with_reducible exact rillmeterlaw13_awake.mono _)
      | (with_reducible exact rillmeterref13_Equal.mono _ _ _ _ _)
      | (with_reducible exact rillmeterref13_Right.mono _ _ _)
      | (with_reducible exact LeO.refl _)
      | (with_reducible exact LeO.none _)
      | (with_reducible refine LeO.ite ?_ ?_)
      | (with_reducible refine LeO.bind ?_ (fun _ => ?_))
      | exact ih0 _ _ _ _ _ _ _
      | exact ih1 _ _ _ _
      | exact ih2 _ _ _ _ _
      | exact ih3 _ _ _ _ _ _ _ _
      | exact bitmap_New.mono _ _ _ _
      | exact rillmeterlaw13_awake.mono _
      | exact rillmeterref13_Equal.mono _ _ _ _ _
      | exact rillmeterref13_Right.mono _ _ _
      | exact LeO.none _
      | refine LeO.ite ?_ ?_
      | refine LeO.bind ?_ (fun _ => ?_)
    · intro y0 y1 y2 y3 y4 y5 y6 y7
      unfold rillmeterlaw13_BitmapNews.l1
      repeat' first
      | (with_reducible exact ih0 _ _ _ _ _ _ _)
      | (with_reducible exact ih1 _ _ _ _)
      | (with_reducible exact ih2 _ _ _ _ _)
      | (with_reducible exact ih3 _ _ _ _ _ _ _ _)
      | (with_reducible exact bitmap_New.mono _ _ _ _)
      | (with_reducible exact rillmeterlaw13_awake.mono _)
      | (with_reducible exact rillmeterref13_Equal.mono _ _ _ _ _)
      | (with_reducible exact rillmeterref13_Right.mono _ _ _)
      | (with_reducible exact LeO.refl _)
      | (with_reducible exact LeO.none _)
      | (with_reducible refine LeO.ite ?_ ?_)
      | (with_reducible refine LeO.bind ?_ (fun _ => ?_))
      | exact ih0 _ _ _ _ _ _ _
      | exact ih1 _ _ _ _
      | exact ih2 _ _ _ _ _
      | exact ih3 _ _ _ _ _ _ _ _
      | exact bitmap_New.mono _ _ _ _
      | exact rillmeterlaw13_awake.mono _
      | exact rillmeterref13_Equal.mono _ _ _ _ _
      | exact rillmeterref13_Right.mono _ _ _
      | exact LeO.none _
      | refine LeO.ite ?_ ?_
      | refine LeO.bind ?_ (fun _ => ?_)
theorem rillmeterlaw13_BitmapNews.mono : ∀ a0 a1 a2 k, LeO (rillmeterlaw13_BitmapNews.f k a0 a1 a2) (rillmeterlaw13_BitmapNews.f (k + 1) a0 a1 a2) := by
  intro a0 a1 a2 k
  obtain ⟨ih0, ih1, ih2, ih3⟩ := rillmeterlaw13_BitmapNews.mono_l k
  unfold rillmeterlaw13_BitmapNews.f
  repeat' first
      | (with_reducible exact ih0 _ _ _ _ _ _ _)
      | (with_reducible exact ih1 _ _ _ _)
      | (with_reducible exact ih2 _ _ _ _ _)
      | (with_reducible exact ih3 _ _ _ _ _ _ _ _)
      | (with_reducible exact bitmap_New.mono _ _ _ _)
      | (with_reducible exact rillmeterlaw13_awake.mono _)
      | (with_reducible exact rillmeterref13_Equal.mono _ _ _ _ _)
      | (with_reducible exact rillmeterref13_Right.mono _ _ _)
      | (with_reducible exact LeO.refl _)
      | (with_reducible exact LeO.none _)
      | (with_reducible refine LeO.ite ?_ ?_)
      | (with_reducible refine LeO.bind ?_ (fun _ => ?_))
      | exact ih0 _ _ _ _ _ _ _
      | exact ih1 _ _ _ _
      | exact ih2 _ _ _ _ _
      | exact ih3 _ _ _ _ _ _ _ _
      | exact bitmap_New.mono _ _ _ _
      | exact rillmeterlaw13_awake.mono _
      | exact rillmeterref13_Equal.mono _ _ _ _ _
      | exact rillmeterref13_Right.mono _ _ _
      | exact LeO.none _
      | refine LeO.ite ?_ ?_
      | refine LeO.bind ?_ (fun _ => ?_)
set_option maxHeartbeats 8000000 in
set_option maxRecDepth 100000 in
theorem rillmeterlaw13_BitmapNews.calls (k : Nat) (a0 : Int) (a1 : Int) (a2 : Int) (r : Bool) (w : World) (h : rillmeterlaw13_BitmapNews.f k a0 a1 a2 = some r) (hrt : Aside0 (r = true)) (HT0 : Aside0 (Tab w)) :
    Calls Tryd.prog 3 #[.int .u64 a0, .int .i64 a1, .int .i64 a2] w fun e w' => e = .returned (.bool r) ∧ Below w.heap.size w w' := by
  have hu25 := Tryd.underlying25
  have hu30 := Tryd.underlying30
  have HB := Aside0.mk (Below.refl w.heap.size w)
  have H : ((bitmap_New.f k a0 a1 a2).bind fun bt204 => (if a1 < 1 then (rillmeterlaw13_BitmapNews.j0 k a0 a1 a2 bt204.2.2 true bt204.1 bt204.2.1) else (if a1 > 16 then (rillmeterlaw13_BitmapNews.j0 k a0 a1 a2 bt204.2.2 true bt204.1 bt204.2.1) else (if a2 < 1 then (rillmeterlaw13_BitmapNews.j0 k a0 a1 a2 bt204.2.2 true bt204.1 bt204.2.1) else (rillmeterlaw13_BitmapNews.j0 k a0 a1 a2 bt204.2.2 (decide (a2 > 256)) bt204.1 bt204.2.1))))) = some r := h
  clear h
  replace H := Option.bind_eq_some_iff.mp H
  obtain ⟨⟨t204, t205, t208⟩, A40, H⟩ := H
  replace H : (if a1 < 1 then (rillmeterlaw13_BitmapNews.j0 k a0 a1 a2 t208 true t204 t205) else (if a1 > 16 then (rillmeterlaw13_BitmapNews.j0 k a0 a1 a2 t208 true t204 t205) else (if a2 < 1 then (rillmeterlaw13_BitmapNews.j0 k a0 a1 a2 t208 true t204 t205) else (rillmeterlaw13_BitmapNews.j0 k a0 a1 a2 t208 (decide (a2 > 256)) t204 t205)))) = some r := H
  have A4 := Aside0.mk A40
  clear A40
  have HC5 := Aside0.mk H
  clear H
  go_enter Tryd.func3, Tryd.ntmps3
  go_upto_region 2 with (first | ((with_reducible refine gate_callee (f := 8) rfl ?_); refine goesL_ (some 16) rfl rfl Tryd.func8 (by kernel_rfl) rfl #[.int .u64 a0, .int .i64 a1, .int .i64 a2] rfl (by (try simp only [List.map_toArray, List.map_cons, List.map_nil]); first | done | rfl | (simp only [List.length_drop, List.length_take]; rfl)) ?_; (with_reducible refine (bitmap_New.calls k a0 a1 a2 t204 t205 t208 _ A4.out).mono ?_); rintro e w6 ⟨v206, rfl, ho0, hb⟩; refine ⟨_, rfl, ?_⟩; have n0_ := Aside0.mk (Kd.S_lower ho0 (below_size (by repeat (first | (with_reducible first | exact HB.out | apply below_alloc | apply pw_below_drewN | apply below_drew1) | exact HB.out)))); have n1_ := Aside0.mk (below_step (by repeat (first | (with_reducible first | exact HB.out | apply below_alloc | apply pw_below_drewN | apply below_drew1) | exact HB.out)) hb); clear HB; have HO207 := n0_; have HB := n1_; clear n0_ n1_; (try clear hb); (try clear hb2); (try clear hk); (try clear hi); (try clear ho0)) | ((with_reducible refine gate_dst (N := 7) rfl ?_); (try (refine gate_guard (by rfl) ?_; dsimp only)); refine box_event ?hg (N := 7) ?hd (cs := #[.int .u64 0, .slice none 0 0]) (t := 25) ?hr ?_; (case hd => rfl); (case hg => rfl); (case hr => first | (go_simp; done) | (go_simp; rfl)); intro gb209 hg w7 hbox hb; have n0_ := Aside0.mk (Kd.S_below (by (with_reducible repeat (first | apply Kd.S_alloc | apply Kd.S_drewN | apply Kd.S_drew)); exact HO207.out) hb); have n1_ := Aside0.mk (below_step (by repeat (first | (with_reducible first | exact HB.out | apply below_alloc | apply pw_below_drewN | apply below_drew1) | exact HB.out)) hb); have n2_ := Aside0.mk (hbox); have n3_ := Aside0.mk ((by rw [hg]; exact (below_size (by repeat (first | (with_reducible first | exact HB.out | apply below_alloc | apply pw_below_drewN | apply below_drew1) | exact HB.out))) : w.heap.size ≤ gb209)); have n4_ := Aside0.mk ((by rw [hg]; exact (below_size (by repeat (first | (with_reducible first | exact HB.out | apply below_alloc | apply pw_below_drewN | apply below_drew1) | exact HB.out))) : w.heap.size ≤ gb209)); clear HO207; clear HB; have HO207 := n0_; have HB := n1_; have BK209 := n2_; have GW209 := n3_; have GE209 := n4_; clear n0_ n1_ n2_ n3_ n4_; clear hb hbox hg; have hcz8_0 : w7.cell? ⟨gb209, 0, none⟩ = some (.int .u64 0) := (blk_cell BK209.out 0).trans rfl; have hcz8_1 : w7.cell? ⟨gb209, 1, none⟩ = some (.slice none 0 0) := (blk_cell BK209.out 1).trans rfl; have hfz8_0 := blk_frozen BK209.out 0; have hfz8_1 := blk_frozen BK209.out 1; obtain ⟨Ao9, co9, eo9⟩ := Kd.S_slice HO207.out; subst eo9))
  (try simp only [Act.put, List.setIfInBounds_toArray, List.set_cons_zero, List.set_cons_succ])
  go_cut [32] (fun v32 wc => ∃ (kq : Nat) (x32_4 : Bool), v32 = .bool x32_4 ∧ Aside0 (rillmeterlaw13_BitmapNews.j0 kq a0 a1 a2 t208 x32_4 t204 t205 = some r) ∧ Aside0 (kq ≤ k) ∧ Aside0 (Kd.S (Kd.slice 4 Kd.bool) 33 wc w.heap.size (fun _ => True) (.slice Ao9 t205.length co9) t205) ∧ Aside0 (wc.heap[gb209]? = some (.cells #[.int .u64 t204, (.slice Ao9 t205.length co9)] 25 (0, 0))) ∧ Aside0 (Below w.heap.size w wc))
  case first =>
    have H := HC5.out
    clear HC5
    by_cases c10 : a1 < 1
    · rw [if_pos c10] at H
      have c10b0 : decide (a1 < 1) = true := decide_eq_true c10
      clear c10
      (first | rw [c10b0] | (simp only [i64_w, i32_w]; rw [c10b0]) | skip)
      have H' := Aside0.mk H
      clear H
      go_wp2
      go_meet
      case rel => exact ⟨_, (true), (by first | rfl | (simp; done) | (simp [*]; done)), H', ⟨by first | omega | exact Nat.le_refl _⟩, ⟨by (with_reducible repeat (first | apply Kd.S_alloc | apply Kd.S_drewN | apply Kd.S_drew)); exact Kd.S_mono (Kd.S_far (p := ⟨gb209, 1, none⟩) (Kd.S_far (p := ⟨gb209, 0, none⟩) (Kd.S_types HO207.out BK209.out (by decide)) (fun _ hk => hk.2) (.int .u64 t204)) (fun _ hk => hk.2) (.slice Ao9 t205.length co9)) (fun _ hk => trivial)⟩, ⟨by (with_reducible repeat (first | refine blk_drewN ?_ _ | refine blk_drew ?_ | refine blk_alloc ?_ _)); refine blk_put (cs := #[.int .u64 t204, .slice none 0 0]) ?_ 1 _ rfl; (with_reducible repeat (first | refine blk_drewN ?_ _ | refine blk_drew ?_ | refine blk_alloc ?_ _)); refine blk_put (cs := #[.int .u64 0, .slice none 0 0]) ?_ 0 _ rfl; (with_reducible repeat (first | refine blk_drewN ?_ _ | refine blk_drew ?_ | refine blk_alloc ?_ _)); exact BK209.out⟩, ⟨by repeat (first | (with_reducible first | exact HB.out | apply below_alloc | apply pw_below_drewN | apply below_drew1 | refine below_set ?_ GE209.out) | exact HB.out)⟩⟩
    · rw [if_neg c10] at H
      have c10b0 : decide (a1 < 1) = false := decide_eq_false c10
      clear c10
      (first | rw [c10b0] | (simp only [i64_w, i32_w]; rw [c10b0]) | skip)
      by_cases c11 : a1 > 16
      · rw [if_pos c11] at H
        have c11b0 : decide (16 < a1) = true := decide_eq_true c11
        clear c11
        have H' := Aside0.mk H
        clear H
        go_wp2
        go_meet
        case rel => exact ⟨_, (true), (by first | rfl | (simp; done) | (simp [*]; done)), H', ⟨by first | omega | exact Nat.le_refl _⟩, ⟨by (with_reducible repeat (first | apply Kd.S_alloc | apply Kd.S_drewN | apply Kd.S_drew)); exact Kd.S_mono (Kd.S_far (p := ⟨gb209, 1, none⟩) (Kd.S_far (p := ⟨gb209, 0, none⟩) (Kd.S_types HO207.out BK209.out (by decide)) (fun _ hk => hk.2) (.int .u64 t204)) (fun _ hk => hk.2) (.slice Ao9 t205.length co9)) (fun _ hk => trivial)⟩, ⟨by (with_reducible repeat (first | refine blk_drewN ?_ _ | refine blk_drew ?_ | refine blk_alloc ?_ _)); refine blk_put (cs := #[.int .u64 t204, .slice none 0 0]) ?_ 1 _ rfl; (with_reducible repeat (first | refine blk_drewN ?_ _ | refine blk_drew ?_ | refine blk_alloc ?_ _)); refine blk_put (cs := #[.int .u64 0, .slice none 0 0]) ?_ 0 _ rfl; (with_reducible repeat (first | refine blk_drewN ?_ _ | refine blk_drew ?_ | refine blk_alloc ?_ _)); exact BK209.out⟩, ⟨by repeat (first | (with_reducible first | exact HB.out | apply below_alloc | apply pw_below_drewN | apply below_drew1 | refine below_set ?_ GE209.out) | exact HB.out)⟩⟩
      · rw [if_neg c11] at H
        have c11b0 : decide (16 < a1) = false := decide_eq_false c11
        clear c11
        by_cases c12 : a2 < 1
        · rw [if_pos c12] at H
          have c12b0 : decide (a2 < 1) = true := decide_eq_true c12
          clear c12
          have H' := Aside0.mk H
          clear H
          go_wp2
          go_meet
          case rel => exact ⟨_, (true), (by first | rfl | (simp; done) | (simp [*]; done)), H', ⟨by first | omega | exact Nat.le_refl _⟩, ⟨by (with_reducible repeat (first | apply Kd.S_alloc | apply Kd.S_drewN | apply Kd.S_drew)); exact Kd.S_mono (Kd.S_far (p := ⟨gb209, 1, none⟩) (Kd.S_far (p := ⟨gb209, 0, none⟩) (Kd.S_types HO207.out BK209.out (by decide)) (fun _ hk => hk.2) (.int .u64 t204)) (fun _ hk => hk.2) (.slice Ao9 t205.length co9)) (fun _ hk => trivial)⟩, ⟨by (with_reducible repeat (first | refine blk_drewN ?_ _ | refine blk_drew ?_ | refine blk_alloc ?_ _)); refine blk_put (cs := #[.int .u64 t204, .slice none 0 0]) ?_ 1 _ rfl; (with_reducible repeat (first | refine blk_drewN ?_ _ | refine blk_drew ?_ | refine blk_alloc ?_ _)); refine blk_put (cs := #[.int .u64 0, .slice none 0 0]) ?_ 0 _ rfl; (with_reducible repeat (first | refine blk_drewN ?_ _ | refine blk_drew ?_ | refine blk_alloc ?_ _)); exact BK209.out⟩, ⟨by repeat (first | (with_reducible first | exact HB.out | apply below_alloc | apply pw_below_drewN | apply below_drew1 | refine below_set ?_ GE209.out) | exact HB.out)⟩⟩
        · rw [if_neg c12] at H
          have c12b0 : decide (a2 < 1) = false := decide_eq_false c12
          clear c12
          have H' := Aside0.mk H
          clear H
          go_wp2
          go_meet
          case rel => exact ⟨_, (decide (a2 > 256)), (by first | rfl | (simp; done) | (simp [*]; done)), H', ⟨by first | omega | exact Nat.le_refl _⟩, ⟨by (with_reducible repeat (first | apply Kd.S_alloc | apply Kd.S_drewN | apply Kd.S_drew)); exact Kd.S_mono (Kd.S_far (p := ⟨gb209, 1, none⟩) (Kd.S_far (p := ⟨gb209, 0, none⟩) (Kd.S_types HO207.out BK209.out (by decide)) (fun _ hk => hk.2) (.int .u64 t204)) (fun _ hk => hk.2) (.slice Ao9 t205.length co9)) (fun _ hk => trivial)⟩, ⟨by (with_reducible repeat (first | refine blk_drewN ?_ _ | refine blk_drew ?_ | refine blk_alloc ?_ _)); refine blk_put (cs := #[.int .u64 t204, .slice none 0 0]) ?_ 1 _ rfl; (with_reducible repeat (first | refine blk_drewN ?_ _ | refine blk_drew ?_ | refine blk_alloc ?_ _)); refine blk_put (cs := #[.int .u64 0, .slice none 0 0]) ?_ 0 _ rfl; (with_reducible repeat (first | refine blk_drewN ?_ _ | refine blk_drew ?_ | refine blk_alloc ?_ _)); exact BK209.out⟩, ⟨by repeat (first | (with_reducible first | exact HB.out | apply below_alloc | apply pw_below_drewN | apply below_drew1 | refine below_set ?_ GE209.out) | exact HB.out)⟩⟩
  case rest =>
    clear HC5
    try clear c1
    try clear p2
    try clear c3
    try clear c8
    try clear c10
    try clear c10b0
    try clear c11
    try clear c11b0
    try clear c12
    try clear c12b0
    try clear hcz8_0
    try clear hcz8_1
    try clear hfz8_0
    try clear hfz8_1
    obtain ⟨kq, x32_4, rfl, HA, HJ4, HO_210001, BK209, HB⟩ := hcut
    cases kq with
    | zero => exact absurd HA.out (by simp [rillmeterlaw13_BitmapNews.j0])
    | succ kj4 =>
      have H := HA.out
      clear HA
      simp only [rillmeterlaw13_BitmapNews.j0] at H
      by_cases c13 : x32_4 = true
      · subst c13
        have H1 : ((rillmeterlaw13_ref.f t204 t205).bind fun bt210 => ((rillmeterref13_Equal.f kj4 bt210.1 bt210.2 0 ([] : List (List Bool))).bind fun t214 => (if t214 = true then (if t208 = 1 then ((rillmeterlaw13_awake.f kj4).bind fun t215 => (some t215)) else (some false)) else (some false)))) = some r := by rw [if_pos rfl] at H; exact H
        clear H
        have H := H1
        clear H1
        replace H := Option.bind_eq_some_iff.mp H
        obtain ⟨⟨t210, t211⟩, A140, H⟩ := H
        replace H : ((rillmeterref13_Equal.f kj4 t210 t211 0 ([] : List (List Bool))).bind fun t214 => (if t214 = true then (if t208 = 1 then ((rillmeterlaw13_awake.f kj4).bind fun t215 => (some t215)) else (some false)) else (some false))) = some r := H
        have A14 := Aside0.mk A140
        clear A140
        replace H := Option.bind_eq_some_iff.mp H
        obtain ⟨t214, A150, H⟩ := H
        replace H : (if t214 = true then (if t208 = 1 then ((rillmeterlaw13_awake.f kj4).bind fun t215 => (some t215)) else (some false)) else (some false)) = some r := H
        have A15 := Aside0.mk A150
        clear A150
        by_cases c16 : t214 = true
        · subst c16
          have H1 : (if t208 = 1 then ((rillmeterlaw13_awake.f kj4).bind fun t215 => (some t215)) else (some false)) = some r := by rw [if_pos rfl] at H; exact H
          clear H
          have H := H1
          clear H1
          by_cases c17 : t208 = 1
          · rw [if_pos c17] at H
            have c17b0 : (t208 == 1) = true := beq_iff_eq.mpr c17
            have c17b1 : (t208 != 1) = false := bne_eq_false_iff_eq.mpr c17
            clear c17
            replace H := Option.bind_eq_some_iff.mp H
            obtain ⟨t215, A180, H⟩ := H
            replace H : (some t215) = some r := H
            have A18 := Aside0.mk A180
            clear A180
            obtain rfl := Option.some.inj H
            have hcz19_0 : wc.cell? ⟨gb209, 0, none⟩ = some (.int .u64 t204) := (blk_cell BK209.out 0).trans rfl
            have hcz19_1 : wc.cell? ⟨gb209, 1, none⟩ = some (.slice Ao9 t205.length co9) := (blk_cell BK209.out 1).trans rfl
            have hfz19_0 := blk_frozen BK209.out 0
            have hfz19_1 := blk_frozen BK209.out 1
            go_wp2_with (first | ((with_reducible refine gate_callee (f := 10) rfl ?_); refine goesL_ (some 34) rfl rfl Tryd.func10 (by kernel_rfl) rfl #[.agg #[.int .u64 t204, .slice Ao9 t205.length co9]] rfl (by (try simp only [List.map_toArray, List.map_cons, List.map_nil]); first | done | rfl | (simp only [List.length_drop, List.length_take]; rfl)) ?_; (with_reducible refine (rillmeterlaw13_ref.calls t204 (fun k_ => (True ∧ k_ ≠ gb209)) _ _ t205 t210 t211 _ ?side1 A14.out).mono ?_); (case side1 => exact Kd.S_V (Kd.S_types (HO_210001.out) BK209.out (by decide))); rintro e w20 ⟨v212, rfl, ho0, hb⟩; refine ⟨_, rfl, ?_⟩; have n0_ := Aside0.mk (Kd.S_below (by (with_reducible repeat (first | apply Kd.S_alloc | apply Kd.S_drewN | apply Kd.S_drew)); exact HO_210001.out) hb); have n1_ := Aside0.mk (Kd.V_lower (Kd.V_mono (ok' := fun k_ => k_ ≠ gb209) ho0 (fun k_ hk_ => Or.elim hk_ (fun hs_ => hs_.2) (fun hn_ => (Kd.freshB (g := gb209) (o := .cells #[.int .u64 t204, .slice Ao9 t205.length co9] 25 (0, 0)) (by (with_reducible repeat (first | refine blk_drewN ?_ _ | refine blk_drew ?_ | refine blk_alloc ?_ _)); exact BK209.out) k_ hn_)))) (below_size (by repeat (first | (with_reducible first | exact HB.out | apply below_alloc | apply pw_below_drewN | apply below_drew1 | refine below_set ?_ GE209.out) | exact HB.out)))); have n2_ := Aside0.mk (blk_below (g := gb209) (o := .cells #[.int .u64 t204, .slice Ao9 t205.length co9] 25 (0, 0)) (by (with_reducible repeat (first | refine blk_drewN ?_ _ | refine blk_drew ?_ | refine blk_alloc ?_ _)); exact BK209.out) hb); have n3_ := Aside0.mk (below_step (by repeat (first | (with_reducible first | exact HB.out | apply below_alloc | apply pw_below_drewN | apply below_drew1 | refine below_set ?_ GE209.out) | exact HB.out)) hb); clear HO_210001; clear BK209; clear HB; have HO_210001 := n0_; have HO213 := n1_; have BK209 := n2_; have HB := n3_; clear n0_ n1_ n2_ n3_; (try clear hb); (try clear hb2); (try clear hk); (try clear hi); (try clear ho0); obtain ⟨Ao21, co21, eo21⟩ := Kd.V_slice HO213.out; subst eo21) | ((with_reducible refine gate_callee (f := 9) rfl ?_); refine goesL_ (some 36) rfl rfl Tryd.func9 (by kernel_rfl) rfl #[.agg #[.int .u64 t210, .slice Ao21 t211.length co21], .agg #[.int .u64 0, .slice none 0 0]] rfl (by (try simp only [List.map_toArray, List.map_cons, List.map_nil]); first | done | rfl | (simp only [List.length_drop, List.length_take]; rfl)) ?_; (refine (rillmeterref13_Equal.calls kj4 t210 _ _ t211 0 _ _ ([] : List (List Bool)) true _ ?side1 ?side2 ?side3 ?side4 A15.out).mono ?_); (case side1 => repeat (first | exact (Kd.V_reads' HO213.out).2.2 | (with_reducible refine Kd.C_alloc ?_ _) | (with_reducible refine Kd.C_drewN ?_ _) | (with_reducible refine Kd.C_drew ?_))); (case side2 => exact (Kd.V_reads' HO213.out).2.1); (case side3 => exact Kd.C_nil _ _); (case side4 => exact Nat.le_refl _); rintro e w22 ⟨rfl, hb⟩; refine ⟨_, rfl, ?_⟩; have n0_ := Aside0.mk (Kd.S_below (by (with_reducible repeat (first | apply Kd.S_alloc | apply Kd.S_drewN | apply Kd.S_drew)); exact HO_210001.out) hb); have n1_ := Aside0.mk (Kd.V_below (by (with_reducible repeat (first | apply Kd.V_alloc | apply Kd.V_drewN | apply Kd.V_drew)); exact HO213.out) hb); have n2_ := Aside0.mk (blk_below (g := gb209) (o := .cells #[.int .u64 t204, .slice Ao9 t205.length co9] 25 (0, 0)) (by (with_reducible repeat (first | refine blk_drewN ?_ _ | refine blk_drew ?_ | refine blk_alloc ?_ _)); exact BK209.out) hb); have n3_ := Aside0.mk (below_step (by repeat (first | (with_reducible first | exact HB.out | apply below_alloc | apply pw_below_drewN | apply below_drew1 | refine below_set ?_ GE209.out) | exact HB.out)) hb); clear HO_210001; clear HO213; clear BK209; clear HB; have HO_210001 := n0_; have HO213 := n1_; have BK209 := n2_; have HB := n3_; clear n0_ n1_ n2_ n3_; (try clear hb); (try clear hb2); (try clear hk); (try clear hi)) | (go_at_call 11; (with_reducible refine (rillmeterlaw13_awake.calls kj4  t215 _ A18.out ⟨tb_ HT0 HB⟩).mono ?_); rintro e w23 ⟨rfl, hb⟩; have n0_ := Aside0.mk (Kd.S_below (by (with_reducible repeat (first | apply Kd.S_alloc | apply Kd.S_drewN | apply Kd.S_drew)); exact HO_210001.out) hb); have n1_ := Aside0.mk (Kd.V_below (by (with_reducible repeat (first | apply Kd.V_alloc | apply Kd.V_drewN | apply Kd.V_drew)); exact HO213.out) hb); have n2_ := Aside0.mk (blk_below (g := gb209) (o := .cells #[.int .u64 t204, .slice Ao9 t205.length co9] 25 (0, 0)) (by (with_reducible repeat (first | refine blk_drewN ?_ _ | refine blk_drew ?_ | refine blk_alloc ?_ _)); exact BK209.out) hb); have n3_ := Aside0.mk (below_step (by repeat (first | (with_reducible first | exact HB.out | apply below_alloc | apply pw_below_drewN | apply below_drew1 | refine below_set ?_ GE209.out) | exact HB.out)) hb); clear HO_210001; clear HO213; clear BK209; clear HB; have HO_210001 := n0_; have HO213 := n1_; have BK209 := n2_; have HB := n3_; clear n0_ n1_ n2_ n3_; (try clear hb); (try clear hb2); (try clear hk); (try clear hi)))
            go_ret
            exact ⟨by first | rfl | (simp [errW_none, errW_some] <;> rfl) | (simp [*, errW_none, errW_some] <;> rfl), by repeat (first | (with_reducible first | exact HB.out | apply below_alloc | apply pw_below_drewN | apply below_drew1 | refine below_set ?_ GE209.out) | exact HB.out)⟩
          · rw [if_neg c17] at H
            have c17b0 : (t208 == 1) = false := beq_eq_false_iff_ne.mpr c17
            have c17b1 : (t208 != 1) = true := bne_iff_ne.mpr c17
            exact absurd ((Option.some.inj H).trans hrt.out) (by decide)
        · replace c16 := Bool.eq_false_iff.mpr c16
          subst c16
          have H1 : (some false) = some r := by rw [if_neg (show ¬ (false = true) by decide)] at H; exact H
          clear H
          have H := H1
          clear H1
          exact absurd ((Option.some.inj H).trans hrt.out) (by decide)
      · replace c13 := Bool.eq_false_iff.mpr c13
        subst c13
        have H1 : (if (t205.length : Int) = a1 then (if 0 < (t205.length : Int) then (if ((rd_L1 t205 0).length : Int) = a2 then (rillmeterlaw13_BitmapNews.j1 kj4 t208 (t204 != a0) t204 t205) else (rillmeterlaw13_BitmapNews.j1 kj4 t208 true t204 t205)) else (none)) else (rillmeterlaw13_BitmapNews.j1 kj4 t208 true t204 t205)) = some r := by rw [if_neg (show ¬ (false = true) by decide)] at H; exact H
        clear H
        have H := H1
        clear H1
        have HC24 := Aside0.mk H
        clear H
        go_upto_region 4 with (fail)
        go_cut [63] (fun v63 wc => ∃ (kq : Nat) (x63_23 : Bool), v63 = .bool x63_23 ∧ Aside0 (rillmeterlaw13_BitmapNews.j1 kq t208 x63_23 t204 t205 = some r) ∧ Aside0 (kq ≤ kj4) ∧ Aside0 (Kd.S (Kd.slice 4 Kd.bool) 33 wc w.heap.size (fun _ => True) (.slice Ao9 t205.length co9) t205) ∧ Aside0 (wc.heap[gb209]? = some (.cells #[.int .u64 t204, (.slice Ao9 t205.length co9)] 25 (0, 0))) ∧ Aside0 (Below w.heap.size w wc))
        case first =>
          have H := HC24.out
          clear HC24
          by_cases c25 : (t205.length : Int) = a1
          · rw [if_pos c25] at H
            have c25b0 : ((t205.length : Int) == a1) = true := beq_iff_eq.mpr c25
            have c25b1 : ((t205.length : Int) != a1) = false := bne_eq_false_iff_eq.mpr c25
            clear c25
            (first | rw [c25b0] | (simp only [i64_w, i32_w]; rw [c25b0]) | skip)
            by_cases c26 : 0 < (t205.length : Int)
            · rw [if_pos c26] at H
              have c26b0 : decide (0 < (t205.length : Int)) = true := decide_eq_true c26
              have c26b1 : decide (0 < t205.length) = true := decide_eq_true (by omega)
              clear c26
              by_cases c27 : ((rd_L1 t205 0).length : Int) = a2
              · rw [if_pos c27] at H
                have c27b0 : (((rd_L1 t205 0).length : Int) == a2) = true := beq_iff_eq.mpr c27
                have c27b1 : (((rd_L1 t205 0).length : Int) != a2) = false := bne_eq_false_iff_eq.mpr c27
                clear c27
                have H' := Aside0.mk H
                clear H
                have hcz28_0 : wc.cell? ⟨gb209, 0, none⟩ = some (.int .u64 t204) := (blk_cell BK209.out 0).trans rfl
                have hcz28_1 : wc.cell? ⟨gb209, 1, none⟩ = some (.slice Ao9 t205.length co9) := (blk_cell BK209.out 1).trans rfl
                have hfz28_0 := blk_frozen BK209.out 0
                have hfz28_1 := blk_frozen BK209.out 1
                have p216 : 0 ≤ (0 : Int) := (by omega)
                have q216 : 0 < (t205.length : Int) := of_decide_eq_true (by first | (with_reducible assumption) | assumption)
                obtain ⟨ad216, A216_0, c216_0, e216, hx216_0, hl216_0, hi216_0⟩ := at_L1 (Kd.S_reads' HO_210001.out).2.2 0 p216 q216
                cases e216
                obtain ⟨ce216, hce216, hMe216, hcc216⟩ := Kd.S_get HO_210001.out [] 0 p216 (by first | exact q216 | exact of_decide_eq_true (by first | (with_reducible assumption) | assumption) | (have e_ := (Kd.S_reads' HO_210001.out).1; omega))
                obtain ⟨ve216_0, rfl, ge216_0⟩ := hMe216
                have hv216_0 := hcc216 0 _ rfl
                rw [Nat.add_zero, show ((Kd.slice 4 Kd.bool)).sz = 1 from rfl, Nat.mul_one] at hv216_0
                replace hv216_0 := Option.some.inj (hv216_0.symm.trans hx216_0)
                rw [hv216_0] at ge216_0
                have HL216_0 := Aside0.mk (show Kd.R Kd.bool 4 _ _ _ _ (rd_L1 t205 0) from ge216_0)
                clear hv216_0 ge216_0
                clear hcc216 hce216
                have qi216 : (0 < t205.length) = True := eq_true (by omega)
                (try rw [show ((0 : Int)).toNat = 0 from rfl] at hx216_0)
                (try rw [Addr.add_zero'] at hx216_0)
                have HR216_0 := Aside0.mk hi216_0
                have HC216_0 := Aside0.mk hl216_0
                clear hi216_0 hl216_0
                replace p216 := eq_true p216
                replace q216 := eq_true q216
                go_wp2
                go_meet
                case rel => exact ⟨_, ((t204 != a0)), (by first | rfl | (simp; done) | (simp [*]; done)), H', ⟨by have := HJ4.out; first | omega | exact Nat.le_refl _⟩, ⟨by (with_reducible repeat (first | apply Kd.S_alloc | apply Kd.S_drewN | apply Kd.S_drew)); exact HO_210001.out⟩, ⟨by (with_reducible repeat (first | refine blk_drewN ?_ _ | refine blk_drew ?_ | refine blk_alloc ?_ _)); exact BK209.out⟩, ⟨by repeat (first | (with_reducible first | exact HB.out | apply below_alloc | apply pw_below_drewN | apply below_drew1 | refine below_set ?_ GE209.out) | exact HB.out)⟩⟩
              · rw [if_neg c27] at H
                have c27b0 : (((rd_L1 t205 0).length : Int) == a2) = false := beq_eq_false_iff_ne.mpr c27
                have c27b1 : (((rd_L1 t205 0).length : Int) != a2) = true := bne_iff_ne.mpr c27
                have H' := Aside0.mk H
                clear H
                have hcz29_0 : wc.cell? ⟨gb209, 0, none⟩ = some (.int .u64 t204) := (blk_cell BK209.out 0).trans rfl
                have hcz29_1 : wc.cell? ⟨gb209, 1, none⟩ = some (.slice Ao9 t205.length co9) := (blk_cell BK209.out 1).trans rfl
                have hfz29_0 := blk_frozen BK209.out 0
                have hfz29_1 := blk_frozen BK209.out 1
                have p216 : 0 ≤ (0 : Int) := (by omega)
                have q216 : 0 < (t205.length : Int) := of_decide_eq_true (by first | (with_reducible assumption) | assumption)
                obtain ⟨ad216, A216_0, c216_0, e216, hx216_0, hl216_0, hi216_0⟩ := at_L1 (Kd.S_reads' HO_210001.out).2.2 0 p216 q216
                cases e216
                obtain ⟨ce216, hce216, hMe216, hcc216⟩ := Kd.S_get HO_210001.out [] 0 p216 (by first | exact q216 | exact of_decide_eq_true (by first | (with_reducible assumption) | assumption) | (have e_ := (Kd.S_reads' HO_210001.out).1; omega))
                obtain ⟨ve216_0, rfl, ge216_0⟩ := hMe216
                have hv216_0 := hcc216 0 _ rfl
                rw [Nat.add_zero, show ((Kd.slice 4 Kd.bool)).sz = 1 from rfl, Nat.mul_one] at hv216_0
                replace hv216_0 := Option.some.inj (hv216_0.symm.trans hx216_0)
                rw [hv216_0] at ge216_0
                have HL216_0 := Aside0.mk (show Kd.R Kd.bool 4 _ _ _ _ (rd_L1 t205 0) from ge216_0)
                clear hv216_0 ge216_0
                clear hcc216 hce216
                have qi216 : (0 < t205.length) = True := eq_true (by omega)
                (try rw [show ((0 : Int)).toNat = 0 from rfl] at hx216_0)
                (try rw [Addr.add_zero'] at hx216_0)
                have HR216_0 := Aside0.mk hi216_0
                have HC216_0 := Aside0.mk hl216_0
                clear hi216_0 hl216_0
                replace p216 := eq_true p216
                replace q216 := eq_true q216
                go_wp2
                go_meet
                case rel => exact ⟨_, (true), (by first | rfl | (simp; done) | (simp [*]; done)), H', ⟨by have := HJ4.out; first | omega | exact Nat.le_refl _⟩, ⟨by (with_reducible repeat (first | apply Kd.S_alloc | apply Kd.S_drewN | apply Kd.S_drew)); exact HO_210001.out⟩, ⟨by (with_reducible repeat (first | refine blk_drewN ?_ _ | refine blk_drew ?_ | refine blk_alloc ?_ _)); exact BK209.out⟩, ⟨by repeat (first | (with_reducible first | exact HB.out | apply below_alloc | apply pw_below_drewN | apply below_drew1 | refine below_set ?_ GE209.out) | exact HB.out)⟩⟩
            · rw [if_neg c26] at H
              exact absurd H (by simp)
          · rw [if_neg c25] at H
            have c25b0 : ((t205.length : Int) == a1) = false := beq_eq_false_iff_ne.mpr c25
            have c25b1 : ((t205.length : Int) != a1) = true := bne_iff_ne.mpr c25
            (first | rw [c25b0] | (simp only [i64_w, i32_w]; rw [c25b0]) | skip)
            have H' := Aside0.mk H
            clear H
            have hcz30_0 : wc.cell? ⟨gb209, 0, none⟩ = some (.int .u64 t204) := (blk_cell BK209.out 0).trans rfl
            have hcz30_1 : wc.cell? ⟨gb209, 1, none⟩ = some (.slice Ao9 t205.length co9) := (blk_cell BK209.out 1).trans rfl
            have hfz30_0 := blk_frozen BK209.out 0
            have hfz30_1 := blk_frozen BK209.out 1
            go_wp2
            go_meet
            case rel => exact ⟨_, (true), (by first | rfl | (simp; done) | (simp [*]; done)), H', ⟨by have := HJ4.out; first | omega | exact Nat.le_refl _⟩, ⟨by (with_reducible repeat (first | apply Kd.S_alloc | apply Kd.S_drewN | apply Kd.S_drew)); exact HO_210001.out⟩, ⟨by (with_reducible repeat (first | refine blk_drewN ?_ _ | refine blk_drew ?_ | refine blk_alloc ?_ _)); exact BK209.out⟩, ⟨by repeat (first | (with_reducible first | exact HB.out | apply below_alloc | apply pw_below_drewN | apply below_drew1 | refine below_set ?_ GE209.out) | exact HB.out)⟩⟩
        case rest =>
          clear HC24
          try clear c1
          try clear c2
          try clear p2
          try clear q2
          try clear hx2
          try clear qi2
          try clear c3
          try clear c8
          try clear c9
          try clear c10
          try clear c10b0
          try clear c11
          try clear c11b0
          try clear c12
          try clear c12b0
          try clear c13
          try clear c16
          try clear c17
          try clear c17b0
          try clear c17b1
          try clear c21
          try clear p21
          try clear q21
          try clear hx21
          try clear qi21
          try clear c25
          try clear c25b0
          try clear c25b1
          try clear c26
          try clear c26b0
          try clear c26b1
          try clear c27
          try clear c27b0
          try clear c27b1
          try clear hcz19_0
          try clear hcz19_1
          try clear hcz28_0
          try clear hcz28_1
          try clear hcz29_0
          try clear hcz29_1
          try clear hcz30_0
          try clear hcz30_1
          try clear hcz8_0
          try clear hcz8_1
          try clear hfz19_0
          try clear hfz19_1
          try clear hfz28_0
          try clear hfz28_1
          try clear hfz29_0
          try clear hfz29_1
          try clear hfz30_0
          try clear hfz30_1
          try clear hfz8_0
          try clear hfz8_1
          try clear hx216_0
          try clear p2
          try clear p216
          try clear q216
          obtain ⟨kq, x63_23, rfl, HA, HJ23, HO_210001, BK209, HB⟩ := hcut
          cases kq with
          | zero => exact absurd HA.out (by simp [rillmeterlaw13_BitmapNews.j1])
          | succ kj23 =>
            have H := HA.out
            clear HA
            simp only [rillmeterlaw13_BitmapNews.j1] at H
            by_cases c31 : x63_23 = true
            · subst c31
              have H1 : (some false) = some r := by rw [if_pos rfl] at H; exact H
              clear H
              have H := H1
              clear H1
              exact absurd ((Option.some.inj H).trans hrt.out) (by decide)
            · replace c31 := Bool.eq_false_iff.mpr c31
              subst c31
              have H1 : (rillmeterlaw13_BitmapNews.l0 kj23 t208 (t205.length : Int) 0 t204 t205) = some r := by rw [if_neg (show ¬ (false = true) by decide)] at H; exact H
              clear H
              have H := H1
              clear H1
              have H' := Aside0.mk H
              clear H
              have hcz32_0 : wc.cell? ⟨gb209, 0, none⟩ = some (.int .u64 t204) := (blk_cell BK209.out 0).trans rfl
              have hcz32_1 : wc.cell? ⟨gb209, 1, none⟩ = some (.slice Ao9 t205.length co9) := (blk_cell BK209.out 1).trans rfl
              have hfz32_0 := blk_frozen BK209.out 0
              have hfz32_1 := blk_frozen BK209.out 1
              go_wp2
              go_loopg [67] kj23 (fun kq v67 w' => ∃ (x67_3 : Int), v67 = .int .i64 x67_3 ∧ Aside0 (rillmeterlaw13_BitmapNews.l0 kq t208 (t205.length : Int) x67_3 t204 t205 = some r) ∧ Aside0 (kq ≤ kj23) ∧ Aside0 (Kd.S (Kd.slice 4 Kd.bool) 33 w' w.heap.size (fun _ => True) (.slice Ao9 t205.length co9) t205) ∧ Aside0 (w'.heap[gb209]? = some (.cells #[.int .u64 t204, (.slice Ao9 t205.length co9)] 25 (0, 0))) ∧ Aside0 (Below w.heap.size w w'))
              case atStart => exact ⟨(0), (by first | rfl | (simp; done) | (simp [*]; done)), H', ⟨Nat.le_refl _⟩, ⟨by (with_reducible repeat (first | apply Kd.S_alloc | apply Kd.S_drewN | apply Kd.S_drew)); exact HO_210001.out⟩, ⟨by (with_reducible repeat (first | refine blk_drewN ?_ _ | refine blk_drew ?_ | refine blk_alloc ?_ _)); exact BK209.out⟩, ⟨by repeat (first | (with_reducible first | exact HB.out | apply below_alloc | apply pw_below_drewN | apply below_drew1 | refine below_set ?_ GE209.out) | exact HB.out)⟩⟩
              case round =>
                clear H'
                try clear c1
                try clear c2
                try clear p2
                try clear q2
                try clear hx2
                try clear qi2
                try clear c3
                try clear c8
                try clear c9
                try clear c10
                try clear c10b0
                try clear c11
                try clear c11b0
                try clear c12
                try clear c12b0
                try clear c13
                try clear c16
                try clear c17
                try clear c17b0
                try clear c17b1
                try clear c21
                try clear p21
                try clear q21
                try clear hx21
                try clear qi21
                try clear c25
                try clear c25b0
                try clear c25b1
                try clear c26
                try clear c26b0
                try clear c26b1
                try clear c27
                try clear c27b0
                try clear c27b1
                try clear c31
                try clear hcz19_0
                try clear hcz19_1
                try clear hcz28_0
                try clear hcz28_1
                try clear hcz29_0
                try clear hcz29_1
                try clear hcz30_0
                try clear hcz30_1
                try clear hcz32_0
                try clear hcz32_1
                try clear hcz8_0
                try clear hcz8_1
                try clear hfz19_0
                try clear hfz19_1
                try clear hfz28_0
                try clear hfz28_1
                try clear hfz29_0
                try clear hfz29_1
                try clear hfz30_0
                try clear hfz30_1
                try clear hfz32_0
                try clear hfz32_1
                try clear hfz8_0
                try clear hfz8_1
                try clear hx216_0
                try clear p2
                try clear p21
                try clear p216
                try clear q2
                try clear q21
                try clear q216
                obtain ⟨x67_3, rfl, HA, HK3, HO_210001, BK209, HB⟩ := hrel
                cases gk with
                | zero => exact absurd HA.out (by simp [rillmeterlaw13_BitmapNews.l0])
                | succ k3 =>
                  have H := HA.out
                  clear HA
                  simp only [rillmeterlaw13_BitmapNews.l0] at H
                  by_cases c33 : x67_3 < (t205.length : Int)
                  · rw [if_pos c33] at H
                    have c33b0 : decide (x67_3 < (t205.length : Int)) = true := decide_eq_true c33
                    clear c33
                    by_cases c34 : 0 ≤ x67_3
                    · rw [if_pos c34] at H
                      have c34b0 : decide (0 ≤ x67_3) = true := decide_eq_true c34
                      clear c34
                      by_cases c35 : x67_3 < (t205.length : Int)
                      · rw [if_pos c35] at H
                        have c35b0 : decide (x67_3 < (t205.length : Int)) = true := decide_eq_true c35
                        clear c35
                        have H' := Aside0.mk H
                        clear H
                        have hcz36_0 : wr.cell? ⟨gb209, 0, none⟩ = some (.int .u64 t204) := (blk_cell BK209.out 0).trans rfl
                        have hcz36_1 : wr.cell? ⟨gb209, 1, none⟩ = some (.slice Ao9 t205.length co9) := (blk_cell BK209.out 1).trans rfl
                        have hfz36_0 := blk_frozen BK209.out 0
                        have hfz36_1 := blk_frozen BK209.out 1
                        have p217 : 0 ≤ (x67_3 : Int) := of_decide_eq_true (by first | (with_reducible assumption) | assumption)
                        have q217 : x67_3 < (t205.length : Int) := of_decide_eq_true (by first | (with_reducible assumption) | assumption)
                        obtain ⟨ad217, A217_0, c217_0, e217, hx217_0, hl217_0, hi217_0⟩ := at_L1 (Kd.S_reads' HO_210001.out).2.2 x67_3 p217 q217
                        cases e217
                        obtain ⟨ce217, hce217, hMe217, hcc217⟩ := Kd.S_get HO_210001.out [] x67_3 p217 (by first | exact q217 | exact of_decide_eq_true (by first | (with_reducible assumption) | assumption) | (have e_ := (Kd.S_reads' HO_210001.out).1; omega))
                        obtain ⟨ve217_0, rfl, ge217_0⟩ := hMe217
                        have hv217_0 := hcc217 0 _ rfl
                        rw [Nat.add_zero, show ((Kd.slice 4 Kd.bool)).sz = 1 from rfl, Nat.mul_one] at hv217_0
                        replace hv217_0 := Option.some.inj (hv217_0.symm.trans hx217_0)
                        rw [hv217_0] at ge217_0
                        have HL217_0 := Aside0.mk (show Kd.R Kd.bool 4 _ _ _ _ (rd_L1 t205 x67_3) from ge217_0)
                        clear hv217_0 ge217_0
                        clear hcc217 hce217
                        have HR217_0 := Aside0.mk hi217_0
                        have HC217_0 := Aside0.mk hl217_0
                        clear hi217_0 hl217_0
                        replace p217 := eq_true p217
                        replace q217 := eq_true q217
                        go_wp2
                        go_loopg [76] k3 (fun kq v76 w' => ∃ (x76_4 : Int), v76 = .int .i64 x76_4 ∧ Aside0 (rillmeterlaw13_BitmapNews.l1 kq t208 (t205.length : Int) x67_3 (rd_L1 t205 x67_3) ((rd_L1 t205 x67_3).length : Int) x76_4 t204 t205 = some r) ∧ Aside0 (kq ≤ k3) ∧ Aside0 (Kd.S (Kd.slice 4 Kd.bool) 33 w' w.heap.size (fun _ => True) (.slice (some ad217) t205.length co9) t205) ∧ Aside0 (w'.heap[gb209]? = some (.cells #[.int .u64 t204, (.slice (some ad217) t205.length co9)] 25 (0, 0))) ∧ Aside0 (Kd.C Kd.bool w' A217_0 (rd_L1 t205 x67_3).length (rd_L1 t205 x67_3)) ∧ Aside0 (Below w.heap.size w w'))
                        case atStart => exact ⟨(0), (by first | rfl | (simp; done) | (simp [*]; done)), H', ⟨Nat.le_refl _⟩, ⟨by (with_reducible repeat (first | apply Kd.S_alloc | apply Kd.S_drewN | apply Kd.S_drew)); exact HO_210001.out⟩, ⟨by (with_reducible repeat (first | refine blk_drewN ?_ _ | refine blk_drew ?_ | refine blk_alloc ?_ _)); exact BK209.out⟩, ⟨by repeat (first | (with_reducible exact HR217_0.out) | (with_reducible refine Kd.C_alloc ?_ _) | (with_reducible refine Kd.C_drewN ?_ _) | (with_reducible refine Kd.C_drew ?_) | exact HR217_0.out)⟩, ⟨by repeat (first | (with_reducible first | exact HB.out | apply below_alloc | apply pw_below_drewN | apply below_drew1 | refine below_set ?_ GE209.out) | exact HB.out)⟩⟩
                        case round =>
                          clear H'
                          try clear c1
                          try clear c2
                          try clear p2
                          try clear q2
                          try clear hx2
                          try clear qi2
                          try clear c3
                          try clear c8
                          try clear c9
                          try clear c10
                          try clear c10b0
                          try clear c11
                          try clear c11b0
                          try clear c12
                          try clear c12b0
                          try clear c13
                          try clear c16
                          try clear c17
                          try clear c17b0
                          try clear c17b1
                          try clear c21
                          try clear p21
                          try clear q21
                          try clear hx21
                          try clear qi21
                          try clear c25
                          try clear c25b0
                          try clear c25b1
                          try clear c26
                          try clear c26b0
                          try clear c26b1
                          try clear c27
                          try clear c27b0
                          try clear c27b1
                          try clear c31
                          try clear c33
                          try clear c33b0
                          try clear c34
                          try clear c34b0
                          try clear c35
                          try clear c35b0
                          try clear hcz19_0
                          try clear hcz19_1
                          try clear hcz28_0
                          try clear hcz28_1
                          try clear hcz29_0
                          try clear hcz29_1
                          try clear hcz30_0
                          try clear hcz30_1
                          try clear hcz32_0
                          try clear hcz32_1
                          try clear hcz36_0
                          try clear hcz36_1
                          try clear hcz8_0
                          try clear hcz8_1
                          try clear hfz19_0
                          try clear hfz19_1
                          try clear hfz28_0
                          try clear hfz28_1
                          try clear hfz29_0
                          try clear hfz29_1
                          try clear hfz30_0
                          try clear hfz30_1
                          try clear hfz32_0
                          try clear hfz32_1
                          try clear hfz36_0
                          try clear hfz36_1
                          try clear hfz8_0
                          try clear hfz8_1
                          try clear hx216_0
                          try clear hx217_0
                          try clear p2
                          try clear p21
                          try clear p216
                          try clear p217
                          try clear q2
                          try clear q21
                          try clear q216
                          try clear q217
                          obtain ⟨x76_4, rfl, HA, HK4, HO_210001, BK209, HR217_0, HB⟩ := hrel
                          cases gk with
                          | zero => exact absurd HA.out (by simp [rillmeterlaw13_BitmapNews.l1])
                          | succ k4 =>
                            have H := HA.out
                            clear HA
                            simp only [rillmeterlaw13_BitmapNews.l1] at H
                            by_cases c37 : x76_4 < ((rd_L1 t205 x67_3).length : Int)
                            · rw [if_pos c37] at H
                              have c37b0 : decide (x76_4 < ((rd_L1 t205 x67_3).length : Int)) = true := decide_eq_true c37
                              clear c37
                              by_cases c38 : 0 ≤ x76_4
                              · rw [if_pos c38] at H
                                have c38b0 : decide (0 ≤ x76_4) = true := decide_eq_true c38
                                clear c38
                                by_cases c39 : x76_4 < ((rd_L1 t205 x67_3).length : Int)
                                · rw [if_pos c39] at H
                                  have c39b0 : decide (x76_4 < ((rd_L1 t205 x67_3).length : Int)) = true := decide_eq_true c39
                                  clear c39
                                  obtain ⟨bq40, hbq40⟩ : ∃ b_ : Bool, b_ = (rdOf false (rd_L1 t205 x67_3) x76_4) := ⟨_, rfl⟩
                                  replace H : (if bq40 = true then (some false) else (rillmeterlaw13_BitmapNews.l1 k4 t208 (t205.length : Int) x67_3 (rd_L1 t205 x67_3) ((rd_L1 t205 x67_3).length : Int) (wrap64 (x76_4 + 1)) t204 t205)) = some r := by rw [← hbq40] at H; exact H
                                  have Nbq40 := Aside0.mk hbq40
                                  clear hbq40
                                  by_cases c41 : bq40 = true
                                  · subst c41
                                    have H1 : (some false) = some r := by rw [if_pos rfl] at H; exact H
                                    clear H
                                    have H := H1
                                    clear H1
                                    exact absurd ((Option.some.inj H).trans hrt.out) (by decide)
                                  · replace c41 := Bool.eq_false_iff.mpr c41
                                    subst c41
                                    have H1 : (rillmeterlaw13_BitmapNews.l1 k4 t208 (t205.length : Int) x67_3 (rd_L1 t205 x67_3) ((rd_L1 t205 x67_3).length : Int) (wrap64 (x76_4 + 1)) t204 t205) = some r := by rw [if_neg (show ¬ (false = true) by decide)] at H; exact H
                                    clear H
                                    have H := H1
                                    clear H1
                                    have H' := Aside0.mk H
                                    clear H
                                    have p218 : 0 ≤ (x76_4 : Int) := of_decide_eq_true (by first | (with_reducible assumption) | assumption)
                                    have q218 : x76_4 < ((rd_L1 t205 x67_3).length : Int) := of_decide_eq_true (by first | (with_reducible assumption) | assumption)
                                    obtain ⟨ad218, e218, hx218_0⟩ := Kd.at_bool HR217_0.out x76_4 p218 q218
                                    (try rw [← Nbq40.out] at hx218_0)
                                    cases e218
                                    (try replace hx218_0 := (HB.out.cell (World.block_lt_of_cell? w _ hx218_0)).trans hx218_0)
                                    replace p218 := eq_true p218
                                    replace q218 := eq_true q218
                                    go_wp2
                                    go_roundg k4
                                    case measure => have := HJ4.out; have := HJ23.out; have := HK3.out; have := HK4.out; omega
                                    case rel => exact ⟨(wrap64 (x76_4 + 1)), (by first | rfl | (simp; done) | (simp [*]; done)), H', ⟨by have := HJ4.out; have := HJ23.out; have := HK3.out; have := HK4.out; omega⟩, ⟨by (with_reducible repeat (first | apply Kd.S_alloc | apply Kd.S_drewN | apply Kd.S_drew)); exact HO_210001.out⟩, ⟨by (with_reducible repeat (first | refine blk_drewN ?_ _ | refine blk_drew ?_ | refine blk_alloc ?_ _)); exact BK209.out⟩, ⟨by repeat (first | (with_reducible exact HR217_0.out) | (with_reducible refine Kd.C_alloc ?_ _) | (with_reducible refine Kd.C_drewN ?_ _) | (with_reducible refine Kd.C_drew ?_) | exact HR217_0.out)⟩, ⟨by repeat (first | (with_reducible first | exact HB.out | apply below_alloc | apply pw_below_drewN | apply below_drew1 | refine below_set ?_ GE209.out) | exact HB.out)⟩⟩
                                · rw [if_neg c39] at H
                                  exact absurd H (by simp)
                              · rw [if_neg c38] at H
                                exact absurd H (by simp)
                            · rw [if_neg c37] at H
                              have c37b0 : decide (x76_4 < ((rd_L1 t205 x67_3).length : Int)) = false := decide_eq_false c37
                              clear c37
                              have H' := Aside0.mk H
                              clear H
                              go_wp2
                              go_roundg k4
                              case measure => have := HJ4.out; have := HJ23.out; have := HK3.out; have := HK4.out; omega
                              case rel => exact ⟨(wrap64 (x67_3 + 1)), (by first | rfl | (simp; done) | (simp [*]; done)), H', ⟨by have := HJ4.out; have := HJ23.out; have := HK3.out; have := HK4.out; omega⟩, ⟨by (with_reducible repeat (first | apply Kd.S_alloc | apply Kd.S_drewN | apply Kd.S_drew)); exact HO_210001.out⟩, ⟨by (with_reducible repeat (first | refine blk_drewN ?_ _ | refine blk_drew ?_ | refine blk_alloc ?_ _)); exact BK209.out⟩, ⟨by repeat (first | (with_reducible first | exact HB.out | apply below_alloc | apply pw_below_drewN | apply below_drew1 | refine below_set ?_ GE209.out) | exact HB.out)⟩⟩
                      · rw [if_neg c35] at H
                        exact absurd H (by simp)
                    · rw [if_neg c34] at H
                      exact absurd H (by simp)
                  · rw [if_neg c33] at H
                    have c33b0 : decide (x67_3 < (t205.length : Int)) = false := decide_eq_false c33
                    clear c33
                    by_cases c42 : t208 = 0
                    · rw [if_pos c42] at H
                      have c42b0 : (t208 == 0) = true := beq_iff_eq.mpr c42
                      have c42b1 : (t208 != 0) = false := bne_eq_false_iff_eq.mpr c42
                      clear c42
                      replace H := Option.bind_eq_some_iff.mp H
                      obtain ⟨⟨t219, t220⟩, A430, H⟩ := H
                      replace H : ((rillmeterref13_Right.f k3 t219 t220).bind fun t223 => (if t223 = true then ((bitmap_Right.f t204 t205).bind fun t224 => (if t224 = true then ((rillmeterlaw13_awake.f k3).bind fun t225 => (some t225)) else (some false))) else (some false))) = some r := H
                      have A43 := Aside0.mk A430
                      clear A430
                      replace H := Option.bind_eq_some_iff.mp H
                      obtain ⟨t223, A440, H⟩ := H
                      replace H : (if t223 = true then ((bitmap_Right.f t204 t205).bind fun t224 => (if t224 = true then ((rillmeterlaw13_awake.f k3).bind fun t225 => (some t225)) else (some false))) else (some false)) = some r := H
                      have A44 := Aside0.mk A440
                      clear A440
                      by_cases c45 : t223 = true
                      · subst c45
                        have H1 : ((bitmap_Right.f t204 t205).bind fun t224 => (if t224 = true then ((rillmeterlaw13_awake.f k3).bind fun t225 => (some t225)) else (some false))) = some r := by rw [if_pos rfl] at H; exact H
                        clear H
                        have H := H1
                        clear H1
                        replace H := Option.bind_eq_some_iff.mp H
                        obtain ⟨t224, A460, H⟩ := H
                        replace H : (if t224 = true then ((rillmeterlaw13_awake.f k3).bind fun t225 => (some t225)) else (some false)) = some r := H
                        have A46 := Aside0.mk A460
                        clear A460
                        by_cases c47 : t224 = true
                        · subst c47
                          have H1 : ((rillmeterlaw13_awake.f k3).bind fun t225 => (some t225)) = some r := by rw [if_pos rfl] at H; exact H
                          clear H
                          have H := H1
                          clear H1
                          replace H := Option.bind_eq_some_iff.mp H
                          obtain ⟨t225, A480, H⟩ := H
                          replace H : (some t225) = some r := H
                          have A48 := Aside0.mk A480
                          clear A480
                          obtain rfl := Option.some.inj H
                          have hcz49_0 : wr.cell? ⟨gb209, 0, none⟩ = some (.int .u64 t204) := (blk_cell BK209.out 0).trans rfl
                          have hcz49_1 : wr.cell? ⟨gb209, 1, none⟩ = some (.slice Ao9 t205.length co9) := (blk_cell BK209.out 1).trans rfl
                          have hfz49_0 := blk_frozen BK209.out 0
                          have hfz49_1 := blk_frozen BK209.out 1
                          go_wp2_with (first | (go_at_call 10; (with_reducible refine (rillmeterlaw13_ref.calls t204 (fun k_ => (True ∧ k_ ≠ gb209)) _ _ t205 t219 t220 _ ?side1 A43.out).mono ?_); (case side1 => exact Kd.S_V (Kd.S_types (HO_210001.out) BK209.out (by decide))); rintro e w50 ⟨v221, rfl, ho0, hb⟩; have n0_ := Aside0.mk (Kd.S_below (by (with_reducible repeat (first | apply Kd.S_alloc | apply Kd.S_drewN | apply Kd.S_drew)); exact HO_210001.out) hb); have n1_ := Aside0.mk (Kd.V_lower (Kd.V_mono (ok' := fun k_ => k_ ≠ gb209) ho0 (fun k_ hk_ => Or.elim hk_ (fun hs_ => hs_.2) (fun hn_ => (Kd.freshB (g := gb209) (o := .cells #[.int .u64 t204, .slice Ao9 t205.length co9] 25 (0, 0)) (by (with_reducible repeat (first | refine blk_drewN ?_ _ | refine blk_drew ?_ | refine blk_alloc ?_ _)); exact BK209.out) k_ hn_)))) (below_size (by repeat (first | (with_reducible first | exact HB.out | apply below_alloc | apply pw_below_drewN | apply below_drew1 | refine below_set ?_ GE209.out) | exact HB.out)))); have n2_ := Aside0.mk (blk_below (g := gb209) (o := .cells #[.int .u64 t204, .slice Ao9 t205.length co9] 25 (0, 0)) (by (with_reducible repeat (first | refine blk_drewN ?_ _ | refine blk_drew ?_ | refine blk_alloc ?_ _)); exact BK209.out) hb); have n3_ := Aside0.mk (below_step (by repeat (first | (with_reducible first | exact HB.out | apply below_alloc | apply pw_below_drewN | apply below_drew1 | refine below_set ?_ GE209.out) | exact HB.out)) hb); clear HO_210001; clear BK209; clear HB; have HO_210001 := n0_; have HO222 := n1_; have BK209 := n2_; have HB := n3_; clear n0_ n1_ n2_ n3_; (try clear hb); (try clear hb2); (try clear hk); (try clear hi); (try clear ho0); obtain ⟨Ao51, co51, eo51⟩ := Kd.V_slice HO222.out; subst eo51) | (go_at_call 12; (with_reducible refine (rillmeterref13_Right.calls k3 t219 _ _ t220 true _ ?side1 ?side2 A44.out).mono ?_); (case side1 => repeat (first | exact (Kd.V_reads' HO222.out).2.2 | (with_reducible refine Kd.C_alloc ?_ _) | (with_reducible refine Kd.C_drewN ?_ _) | (with_reducible refine Kd.C_drew ?_))); (case side2 => exact (Kd.V_reads' HO222.out).2.1); rintro e w52 ⟨rfl, hb⟩; have n0_ := Aside0.mk (Kd.S_below (by (with_reducible repeat (first | apply Kd.S_alloc | apply Kd.S_drewN | apply Kd.S_drew)); exact HO_210001.out) hb); have n1_ := Aside0.mk (Kd.V_below (by (with_reducible repeat (first | apply Kd.V_alloc | apply Kd.V_drewN | apply Kd.V_drew)); exact HO222.out) hb); have n2_ := Aside0.mk (blk_below (g := gb209) (o := .cells #[.int .u64 t204, .slice Ao9 t205.length co9] 25 (0, 0)) (by (with_reducible repeat (first | refine blk_drewN ?_ _ | refine blk_drew ?_ | refine blk_alloc ?_ _)); exact BK209.out) hb); have n3_ := Aside0.mk (below_step (by repeat (first | (with_reducible first | exact HB.out | apply below_alloc | apply pw_below_drewN | apply below_drew1 | refine below_set ?_ GE209.out) | exact HB.out)) hb); clear HO_210001; clear HO222; clear BK209; clear HB; have HO_210001 := n0_; have HO222 := n1_; have BK209 := n2_; have HB := n3_; clear n0_ n1_ n2_ n3_; (try clear hb); (try clear hb2); (try clear hk); (try clear hi); have hcz53_0 : w52.cell? ⟨gb209, 0, none⟩ = some (.int .u64 t204) := (blk_cell BK209.out 0).trans rfl; have hcz53_1 : w52.cell? ⟨gb209, 1, none⟩ = some (.slice Ao9 t205.length co9) := (blk_cell BK209.out 1).trans rfl; have hfz53_0 := blk_frozen BK209.out 0; have hfz53_1 := blk_frozen BK209.out 1) | (go_at_call 13; (with_reducible refine (bitmap_Right.calls t204 _ _ t205 true _ ?side1 ?side2 A46.out).mono ?_); (case side1 => repeat (first | exact (Kd.S_reads' HO_210001.out).2.2 | (with_reducible refine Kd.C_alloc ?_ _) | (with_reducible refine Kd.C_drewN ?_ _) | (with_reducible refine Kd.C_drew ?_))); (case side2 => exact (Kd.S_reads' HO_210001.out).2.1); rintro e w54 ⟨rfl, hb⟩; have n0_ := Aside0.mk (Kd.S_below (by (with_reducible repeat (first | apply Kd.S_alloc | apply Kd.S_drewN | apply Kd.S_drew)); exact HO_210001.out) hb); have n1_ := Aside0.mk (Kd.V_below (by (with_reducible repeat (first | apply Kd.V_alloc | apply Kd.V_drewN | apply Kd.V_drew)); exact HO222.out) hb); have n2_ := Aside0.mk (blk_below (g := gb209) (o := .cells #[.int .u64 t204, .slice Ao9 t205.length co9] 25 (0, 0)) (by (with_reducible repeat (first | refine blk_drewN ?_ _ | refine blk_drew ?_ | refine blk_alloc ?_ _)); exact BK209.out) hb); have n3_ := Aside0.mk (below_step (by repeat (first | (with_reducible first | exact HB.out | apply below_alloc | apply pw_below_drewN | apply below_drew1 | refine below_set ?_ GE209.out) | exact HB.out)) hb); clear HO_210001; clear HO222; clear BK209; clear HB; have HO_210001 := n0_; have HO222 := n1_; have BK209 := n2_; have HB := n3_; clear n0_ n1_ n2_ n3_; (try clear hb); (try clear hb2); (try clear hk); (try clear hi)) | (go_at_call 11; (with_reducible refine (rillmeterlaw13_awake.calls k3  t225 _ A48.out ⟨tb_ HT0 HB⟩).mono ?_); rintro e w55 ⟨rfl, hb⟩; have n0_ := Aside0.mk (Kd.S_below (by (with_reducible repeat (first | apply Kd.S_alloc | apply Kd.S_drewN | apply Kd.S_drew)); exact HO_210001.out) hb); have n1_ := Aside0.mk (Kd.V_below (by (with_reducible repeat (first | apply Kd.V_alloc | apply Kd.V_drewN | apply Kd.V_drew)); exact HO222.out) hb); have n2_ := Aside0.mk (blk_below (g := gb209) (o := .cells #[.int .u64 t204, .slice Ao9 t205.length co9] 25 (0, 0)) (by (with_reducible repeat (first | refine blk_drewN ?_ _ | refine blk_drew ?_ | refine blk_alloc ?_ _)); exact BK209.out) hb); have n3_ := Aside0.mk (below_step (by repeat (first | (with_reducible first | exact HB.out | apply below_alloc | apply pw_below_drewN | apply below_drew1 | refine below_set ?_ GE209.out) | exact HB.out)) hb); clear HO_210001; clear HO222; clear BK209; clear HB; have HO_210001 := n0_; have HO222 := n1_; have BK209 := n2_; have HB := n3_; clear n0_ n1_ n2_ n3_; (try clear hb); (try clear hb2); (try clear hk); (try clear hi)))
                          go_ret
                          exact ⟨by first | rfl | (simp [errW_none, errW_some] <;> rfl) | (simp [*, errW_none, errW_some] <;> rfl), by repeat (first | (with_reducible first | exact HB.out | apply below_alloc | apply pw_below_drewN | apply below_drew1 | refine below_set ?_ GE209.out) | exact HB.out)⟩
                        · replace c47 := Bool.eq_false_iff.mpr c47
                          subst c47
                          have H1 : (some false) = some r := by rw [if_neg (show ¬ (false = true) by decide)] at H; exact H
                          clear H
                          have H := H1
                          clear H1
                          exact absurd ((Option.some.inj H).trans hrt.out) (by decide)
                      · replace c45 := Bool.eq_false_iff.mpr c45
                        subst c45
                        have H1 : (some false) = some r := by rw [if_neg (show ¬ (false = true) by decide)] at H; exact H
                        clear H
                        have H := H1
                        clear H1
                        exact absurd ((Option.some.inj H).trans hrt.out) (by decide)
                    · rw [if_neg c42] at H
                      have c42b0 : (t208 == 0) = false := beq_eq_false_iff_ne.mpr c42
                      have c42b1 : (t208 != 0) = true := bne_iff_ne.mpr c42
                      exact absurd ((Option.some.inj H).trans hrt.out) (by decide)



end Go.Proofs.YteakbghjhckoeaaDoor.PBitmapNews
