/- The functions that a law uses, each as a plain function, with the proof that a call of the Go function comes to its answer. Condition of each: the arguments read as the data that it names, and the plain function has an answer. Written by a program of this session (standin.py). -/
import Derived.Test.YteakbghjhckoeaaDoorPBitmapSetsx0
import Derived.Test.YteakbghjhckoeaaDoorPBitmapSetsx1
import Derived.Test.YteakbghjhckoeaaDoorPBitmapSetsx2
import Derived.Test.YteakbghjhckoeaaDoorPBitmapSetsx3
import Derived.Lib.SliceRun
import Derived.Test.YteakbghjhckoeaaDoorTabs
namespace Go.Proofs.YteakbghjhckoeaaDoor.PBitmapSets
open Go.RowKit Go.Proofs.YteakbghjhckoeaaDoorW.PrintWords Go.Proofs.YteakbghjhckoeaaDoorW.PrintLast Go.Proofs.YteakbghjhckoeaaDoorW.PrintMore Go.Proofs.YteakbghjhckoeaaDoor.Short Go.Proofs.YteakbghjhckoeaaDoor.Tabs
attribute [local go_sem] max2_int min2_int max_two min_two max_three min_three max_four min_four   -- for this text's walks alone
set_option linter.unusedVariables false
set_option linter.unusedSimpArgs false

/-! ### rillmeterlaw13_BitmapSets: function 5 -/
mutual
def rillmeterlaw13_BitmapSets.j0 : Nat → List ByteArray → Bool → Int → List (List Bool) → Option (Bool)
  | 0, _, _, _, _ => none
  | k + 1, x3, x33, x204000, x204001 => if x33 = true then ((rillmeterlaw13_awake.f k).bind fun t205 => (some t205)) else ((rillmeterlaw13_adds.f k x204000 x204001 x3).bind fun bt206 => (rillmeterlaw13_BitmapSets.l0 k x3 0 bt206.2 (bt206.2.length : Int) 0 bt206.1 bt206.2))
def rillmeterlaw13_BitmapSets.l0 : Nat → List ByteArray → Int → List (List Bool) → Int → Int → Int → List (List Bool) → Option (Bool)
  | 0, _, _, _, _, _, _, _ => none
  | k + 1, x3, x11, x39, x40, x41, x204000, x204001 => if x41 < x40 then (if 0 ≤ x41 then (if x41 < (x39.length : Int) then (rillmeterlaw13_BitmapSets.l1 k x3 x11 x39 x40 x41 (rd_L1 x39 x41) ((rd_L1 x39 x41).length : Int) 0 x204000 x204001) else (none)) else (none)) else (rillmeterlaw13_BitmapSets.l2 k x3 x11 x3 (x3.length : Int) 0 x204000 x204001)
def rillmeterlaw13_BitmapSets.l1 : Nat → List ByteArray → Int → List (List Bool) → Int → Int → List Bool → Int → Int → Int → List (List Bool) → Option (Bool)
  | 0, _, _, _, _, _, _, _, _, _, _ => none
  | k + 1, x3, x11, x39, x40, x41, x45, x46, x47, x204000, x204001 => if x47 < x46 then (if 0 ≤ x47 then (if x47 < (x45.length : Int) then (if rdOf false x45 x47 = true then (rillmeterlaw13_BitmapSets.l1 k x3 (wrap64 (x11 + 1)) x39 x40 x41 x45 x46 (wrap64 (x47 + 1)) x204000 x204001) else (rillmeterlaw13_BitmapSets.l1 k x3 x11 x39 x40 x41 x45 x46 (wrap64 (x47 + 1)) x204000 x204001)) else (none)) else (none)) else (rillmeterlaw13_BitmapSets.l0 k x3 x11 x39 x40 (wrap64 (x41 + 1)) x204000 x204001)
def rillmeterlaw13_BitmapSets.l2 : Nat → List ByteArray → Int → List ByteArray → Int → Int → Int → List (List Bool) → Option (Bool)
  | 0, _, _, _, _, _, _, _ => none
  | k + 1, x3, x11, x56, x57, x58, x204000, x204001 => if x58 < x57 then (if 0 ≤ x58 then (if x58 < (x56.length : Int) then ((bitmap_Place.f k x204000 x204001 (rdOf ByteArray.empty x56 x58)).bind fun bt213 => (if bt213.1 < 0 then (some false) else (if bt213.1 ≥ (x204001.length : Int) then (some false) else (if bt213.2 < 0 then (some false) else (if 0 ≤ bt213.1 then (if bt213.1 < (x204001.length : Int) then (if bt213.2 ≥ ((rd_L1 x204001 bt213.1).length : Int) then (some false) else (if 0 ≤ bt213.2 then (if bt213.2 < ((rd_L1 x204001 bt213.1).length : Int) then (if (rdOf false (rd_L1 x204001 bt213.1) bt213.2 = true) then (rillmeterlaw13_BitmapSets.l2 k x3 x11 x56 x57 (wrap64 (x58 + 1)) x204000 x204001) else (some false)) else (none)) else (none))) else (none)) else (none)))))) else (none)) else (none)) else (if x11 ≤ (x3.length : Int) then (if ((x11 == 0) == ((x3.length : Int) == 0)) = true then ((bitmap_Estimate.f k x204000 x204001).bind fun t218 => (if ((t218 == 0) == ((x3.length : Int) == 0)) = true then ((rillmeterlaw13_awake.f k).bind fun t219 => (some t219)) else (some false))) else (some false)) else (some false))
end
def rillmeterlaw13_BitmapSets.f (k : Nat) (a0 : Int) (a1 : Int) (a2 : Int) (l3 : List ByteArray) : Option (Bool) := (bitmap_New.f k a0 a1 a2).bind fun bt198 => (if bt198.2.2 = 0 then ((rillmeterref10_Short.f k l3 40).bind fun t204 => (rillmeterlaw13_BitmapSets.j0 k l3 (!t204) bt198.1 bt198.2.1)) else (rillmeterlaw13_BitmapSets.j0 k l3 true bt198.1 bt198.2.1))
theorem rillmeterlaw13_BitmapSets.mono_l : ∀ k, (∀ y0 y1 y2 y3, LeO (rillmeterlaw13_BitmapSets.j0 k y0 y1 y2 y3) (rillmeterlaw13_BitmapSets.j0 (k + 1) y0 y1 y2 y3)) ∧ (∀ y0 y1 y2 y3 y4 y5 y6, LeO (rillmeterlaw13_BitmapSets.l0 k y0 y1 y2 y3 y4 y5 y6) (rillmeterlaw13_BitmapSets.l0 (k + 1) y0 y1 y2 y3 y4 y5 y6)) ∧ (∀ y0 y1 y2 y3 y4 y5 y6 y7 y8 y9, LeO (rillmeterlaw13_BitmapSets.l1 k y0 y1 y2 y3 y4 y5 y6 y7 y8 y9) (rillmeterlaw13_BitmapSets.l1 (k + 1) y0 y1 y2 y3 y4 y5 y6 y7 y8 y9)) ∧ (∀ y0 y1 y2 y3 y4 y5 y6, LeO (rillmeterlaw13_BitmapSets.l2 k y0 y1 y2 y3 y4 y5 y6) (rillmeterlaw13_BitmapSets.l2 (k + 1) y0 y1 y2 y3 y4 y5 y6))
  | 0 => ⟨fun _ _ _ _ r h => by simp [rillmeterlaw13_BitmapSets.j0] at h, fun _ _ _ _ _ _ _ r h => by simp [rillmeterlaw13_BitmapSets.l0] at h, fun _ _ _ _ _ _ _ _ _ _ r h => by simp [rillmeterlaw13_BitmapSets.l1] at h, fun _ _ _ _ _ _ _ r h => by simp [rillmeterlaw13_BitmapSets.l2] at h⟩
  | k + 1 => by
    obtain ⟨ih0, ih1, ih2, ih3⟩ := rillmeterlaw13_BitmapSets.mono_l k
    refine ⟨?_, ?_, ?_, ?_⟩
    · intro y0 y1 y2 y3
      unfold rillmeterlaw13_BitmapSets.j0
      repeat' first
      | (with_reducible exact ih0 _ _ _ _)
      | (with_reducible exact ih1 _ _ _ _ _ _ _)
      | (with_reducible exact ih2 _ _ _ _ _ _ _ _ _ _)
      | (with_reducible exact ih3 _ _ _ _ _ _ _)
      | (with_reducible exact bitmap_Estimate.mono _ _ _)
      | (with_reducible exact bitmap_New.mono _ _ _ _)
      | (with_reducible exact bitmap_Place.mono _ _ _ _)
      | (with_reducible exact rillmeterlaw13_adds.mono _ _ _ _)
      | (with_reducible exact rillmeterlaw13_awake.mono _)
      | (with_reducible exact rillmeterref10_Short.mono _ _ _)
      | (with_reducible exact LeO.refl _)
      | (with_reducible exact LeO.none _)
      | (with_reducible refine LeO.ite ?_ ?_)
      | (with_reducible refine LeO.bind ?_ (fun _ => ?_))
      | exact ih0 _ _ _ _
      | exact ih1 _ _ _ _ _ _ _
      | exact ih2 _ _ _ _ _ _ _ _ _ _
      | exact ih3 _ _ _ _ _ _ _
      | exact bitmap_Estimate.mono _ _ _
      | exact bitmap_New.mono _ _ _ _
      | exact bitmap_Place.mono _ _ _ _
      | exact rillmeterlaw13_adds.mono _ _ _ _
      | exact rillmeterlaw13_awake.mono _
      | exact rillmeterref10_Short.mono _ _ _
      | exact LeO.none _
      | refine LeO.ite ?_ ?_
      | refine LeO.bind ?_ (fun _ => ?_)
    · intro y0 y1 y2 y3 y4 y5 y6
      unfold rillmeterlaw13_BitmapSets.l0
      repeat' first
      | (with_reducible exact ih0 _ _ _ _)
      | (with_reducible exact ih1 _ _ _ _ _ _ _)
      | (with_reducible exact ih2 _ _ _ _ _ _ _ _ _ _)
      | (with_reducible exact ih3 _ _ _ _ _ _ _)
      | (with_reducible exact bitmap_Estimate.mono _ _ _)
      | (with_reducible exact bitmap_New.mono _ _ _ _)
      | (with_reducible exact bitmap_Place.mono _ _ _ _)
      | (with_reducible exact rillmeterlaw13_adds.mono _ _ _ _)
      | (with_reducible exact rillmeterlaw13_awake.mono _)
      | (with_reducible exact rillmeterref10_Short.mono _ _ _)
      | (with_reducible exact LeO.refl _)
      | (with_reducible exact LeO.none _)
      | (with_reducible refine LeO.ite ?_ ?_)
      | (with_reducible refine LeO.bind ?_ (fun _ => ?_))
      | exact ih0 _ _ _ _
      | exact ih1 _ _ _ _ _ _ _
      | exact ih2 _ _ _ _ _ _ _ _ _ _
      | exact ih3 _ _ _ _ _ _ _
      | exact bitmap_Estimate.mono _ _ _
      | exact bitmap_New.mono _ _ _ _
      | exact bitmap_Place.mono _ _ _ _
      | exact rillmeterlaw13_adds.mono _ _ _ _
      | exact rillmeterlaw13_awake.mono _
      | exact rillmeterref10_Short.mono _ _ _
      | exact LeO.none _
      | refine LeO.ite ?_ ?_
      | refine LeO.bind ?_ (fun _ => ?_)
    · intro y0 y1 y2 y3 y4 y5 y6 y7 y8 y9
      unfold rillmeterlaw13_BitmapSets.l1
      repeat' first
      | (with_reducible exact ih0 _ _ _ _)
      | (with_reducible exact ih1 _ _ _ _ _ _ _)
      | (with_reducible exact ih2 _ _ _ _ _ _ _ _ _ _)
      | (with_reducible exact ih3 _ _ _ _ _ _ _)
      | (with_reducible exact bitmap_Estimate.mono _ _ _)
      | (with_reducible exact bitmap_New.mono _ _ _ _)
      | (with_reducible exact bitmap_Place.mono _ _ _ _)
      | (with_reducible exact rillmeterlaw13_adds.mono _ _ _ _)
      | (with_reducible exact rillmeterlaw13_awake.mono _)
      | (with_reducible exact rillmeterref10_Short.mono _ _ _)
      | (with_reducible exact LeO.refl _)
      | (with_reducible exact LeO.none _)
      | (with_reducible refine LeO.ite ?_ ?_)
      | (with_reducible refine LeO.bind ?_ (fun _ => ?_))
      | exact ih0 _ _ _ _
      | exact ih1 _ _ _ _ _ _ _
      | exact ih2 _ _ _ _ _ _ _ _ _ _
      | exact ih3 _ _ _ _ _ _ _
      | exact bitmap_Estimate.mono _ _ _
      | exact bitmap_New.mono _ _ _ _
      | exact bitmap_Place.mono _ _ _ _
      | exact rillmeterlaw13_adds.mono _ _ _ _
      | exact rillmeterlaw13_awake.mono _
      | exact rillmeterref10_Short.mono _ _ _
      | exact LeO.none _
      | refine LeO.ite ?_ ?_
      | refine LeO.bind ?_ (fun _ => ?_)
    · intro y0 y1 y2 y3 y4 y5 y6
      unfold rillmeterlaw13_BitmapSets.l2
      repeat' first
      | (with_reducible exact ih0 _ _ _ _)
      | (with_reducible exact ih1 _ _ _ _ _ _ _)
      | (with_reducible exact ih2 _ _ _ _ _ _ _ _ _ _)
      | (with_reducible exact ih3 _ _ _ _ _ _ _)
      | (with_reducible exact bitmap_Estimate.mono _ _ _)
      | (with_reducible exact bitmap_New.mono _ _ _ _)
      | (with_reducible exact bitmap_Place.mono _ _ _ _)
      | (with_reducible exact rillmeterlaw13_adds.mono _ _ _ _)
      | (with_reducible exact rillmeterlaw13_awake.mono _)
      | (with_reducible exact rillmeterref10_Short.mono _ _ _)
      | (with_reducible exact LeO.refl _)
      | (with_reducible exact LeO.none _)
      | (with_reducible refine LeO.ite ?_ ?_)
      | (with_reducible refine LeO.bind ?_ (fun _ => ?_))
      | exact ih0 _ _ _ _
      | exact ih1 _ _ _ _ _ _ _
      | exact ih2 _ _ _ _ _ _ _ _ _ _
      | exact ih3 _ _ _ _ _ _ _
      | exact bitmap_Estimate.mono _ _ _
      | exact bitmap_New.mono _ _ _ _
      | exact bitmap_Place.mono _ _ _ _
      | exact rillmeterlaw13_adds.mono _ _ _ _
      | exact rillmeterlaw13_awake.mono _
      | exact rillmeterref10_Short.mono _ _ _
      | exact LeO.none _
      | refine LeO.ite ?_ ?_
      | refine LeO.bind ?_ (fun _ => ?_)
theorem rillmeterlaw13_BitmapSets.mono : ∀ a0 a1 a2 a3 k, LeO (rillmeterlaw13_BitmapSets.f k a0 a1 a2 a3) (rillmeterlaw13_BitmapSets.f (k + 1) a0 a1 a2 a3) := by
  intro a0 a1 a2 a3 k
  obtain ⟨ih0, ih1, ih2, ih3⟩ := rillmeterlaw13_BitmapSets.mono_l k
  unfold rillmeterlaw13_BitmapSets.f
  repeat' first
      | (with_reducible exact ih0 _ _ _ _)
      | (with_reducible exact ih1 _ _ _ _ _ _ _)
      | (with_reducible exact ih2 _ _ _ _ _ _ _ _ _ _)
      | (with_reducible exact ih3 _ _ _ _ _ _ _)
      | (with_reducible exact bitmap_Estimate.mono _ _ _)
      | (with_reducible exact bitmap_New.mono _ _ _ _)
      | (with_reducible exact bitmap_Place.mono _ _ _ _)
      | (with_reducible exact rillmeterlaw13_adds.mono _ _ _ _)
      | (with_reducible exact rillmeterlaw13_awake.mono _)
      | (with_reducible exact rillmeterref10_Short.mono _ _ _)
      | (with_reducible exact LeO.refl _)
      | (with_reducible exact LeO.none _)
      | (with_reducible refine LeO.ite ?_ ?_)
      | (with_reducible refine LeO.bind ?_ (fun _ => ?_))
      | exact ih0 _ _ _ _
      | exact ih1 _ _ _ _ _ _ _
      | exact ih2 _ _ _ _ _ _ _ _ _ _
      | exact ih3 _ _ _ _ _ _ _
      | exact bitmap_Estimate.mono _ _ _
      | exact bitmap_New.mono _ _ _ _
      | exact bitmap_Place.mono _ _ _ _
      | exact rillmeterlaw13_adds.mono _ _ _ _
      | exact rillmeterlaw13_awake.mono _
      | exact rillmeterref10_Short.mono _ _ _
      | exact LeO.none _
      | refine LeO.ite ?_ ?_
      | refine LeO.bind ?_ (fun _ => ?_)
set_option maxHeartbeats 8000000 in
set_option maxRecDepth 100000 in
theorem rillmeterlaw13_BitmapSets.calls (k : Nat) (a0 : Int) (a1 : Int) (a2 : Int) (A3 : Option Addr) (c3 : Nat) (l3 : List ByteArray) (r : Bool) (w : World) (hr3 : Kd.C Kd.string w A3 l3.length l3) (hc3 : l3.length ≤ c3) (h : rillmeterlaw13_BitmapSets.f k a0 a1 a2 l3 = some r) (hrt : Aside0 (r = true)) (HT0 : Aside0 (Tab w)) :
    Calls Tryd.prog 5 #[.int .u64 a0, .int .i64 a1, .int .i64 a2, .slice A3 l3.length c3] w fun e w' => e = .returned (.bool r) ∧ Below w.heap.size w w' := by
  have hu25 := Tryd.underlying25
  have HR3 := Aside0.mk hr3
  have HC3 := Aside0.mk hc3
  clear hr3 hc3
  have HB := Aside0.mk (Below.refl w.heap.size w)
  have H : ((bitmap_New.f k a0 a1 a2).bind fun bt198 => (if bt198.2.2 = 0 then ((rillmeterref10_Short.f k l3 40).bind fun t204 => (rillmeterlaw13_BitmapSets.j0 k l3 (!t204) bt198.1 bt198.2.1)) else (rillmeterlaw13_BitmapSets.j0 k l3 true bt198.1 bt198.2.1))) = some r := h
  clear h
  replace H := Option.bind_eq_some_iff.mp H
  obtain ⟨⟨t198, t199, t202⟩, A50, H⟩ := H
  replace H : (if t202 = 0 then ((rillmeterref10_Short.f k l3 40).bind fun t204 => (rillmeterlaw13_BitmapSets.j0 k l3 (!t204) t198 t199)) else (rillmeterlaw13_BitmapSets.j0 k l3 true t198 t199)) = some r := H
  have A5 := Aside0.mk A50
  clear A50
  have HC6 := Aside0.mk H
  clear H
  go_enter Tryd.func5, Tryd.ntmps5
  go_upto_region 2 with (first | ((with_reducible refine gate_callee (f := 8) rfl ?_); refine goesL_ (some 24) rfl rfl Tryd.func8 (by kernel_rfl) rfl #[.int .u64 a0, .int .i64 a1, .int .i64 a2] rfl (by (try simp only [List.map_toArray, List.map_cons, List.map_nil]); first | done | rfl | (simp only [List.length_drop, List.length_take]; rfl)) ?_; (with_reducible refine (bitmap_New.calls k a0 a1 a2 t198 t199 t202 _ A5.out).mono ?_); rintro e w7 ⟨v200, rfl, ho0, hb⟩; refine ⟨_, rfl, ?_⟩; have n0_ := Aside0.mk (Kd.S_lower ho0 (below_size (by repeat (first | (with_reducible first | exact HB.out | apply below_alloc | apply pw_below_drewN | apply below_drew1) | exact HB.out)))); have n1_ := Aside0.mk (below_step (by repeat (first | (with_reducible first | exact HB.out | apply below_alloc | apply pw_below_drewN | apply below_drew1) | exact HB.out)) hb); clear HB; have HO201 := n0_; have HB := n1_; clear n0_ n1_; (try clear hb); (try clear hb2); (try clear hk); (try clear hi); (try clear ho0)) | ((with_reducible refine gate_dst (N := 9) rfl ?_); (try (refine gate_guard (by rfl) ?_; dsimp only)); refine box_event ?hg (N := 9) ?hd (cs := #[.int .u64 0, .slice none 0 0]) (t := 25) ?hr ?_; (case hd => rfl); (case hg => rfl); (case hr => first | (go_simp; done) | (go_simp; rfl)); intro gb203 hg w8 hbox hb; have n0_ := Aside0.mk (Kd.S_below (by (with_reducible repeat (first | apply Kd.S_alloc | apply Kd.S_drewN | apply Kd.S_drew)); exact HO201.out) hb); have n1_ := Aside0.mk (below_step (by repeat (first | (with_reducible first | exact HB.out | apply below_alloc | apply pw_below_drewN | apply below_drew1) | exact HB.out)) hb); have n2_ := Aside0.mk (hbox); have n3_ := Aside0.mk ((by rw [hg]; exact (below_size (by repeat (first | (with_reducible first | exact HB.out | apply below_alloc | apply pw_below_drewN | apply below_drew1) | exact HB.out))) : w.heap.size ≤ gb203)); have n4_ := Aside0.mk ((by rw [hg]; exact (below_size (by repeat (first | (with_reducible first | exact HB.out | apply below_alloc | apply pw_below_drewN | apply below_drew1) | exact HB.out))) : w.heap.size ≤ gb203)); clear HO201; clear HB; have HO201 := n0_; have HB := n1_; have BK203 := n2_; have GW203 := n3_; have GE203 := n4_; clear n0_ n1_ n2_ n3_ n4_; clear hb hbox hg; have hcz9_0 : w8.cell? ⟨gb203, 0, none⟩ = some (.int .u64 0) := (blk_cell BK203.out 0).trans rfl; have hcz9_1 : w8.cell? ⟨gb203, 1, none⟩ = some (.slice none 0 0) := (blk_cell BK203.out 1).trans rfl; have hfz9_0 := blk_frozen BK203.out 0; have hfz9_1 := blk_frozen BK203.out 1; obtain ⟨Ao10, co10, eo10⟩ := Kd.S_slice HO201.out; subst eo10))
  (try simp only [Act.put, List.setIfInBounds_toArray, List.set_cons_zero, List.set_cons_succ])
  go_cut [33] (fun v33 wc => ∃ (kq : Nat) (x33_5 : Bool), v33 = .bool x33_5 ∧ Aside0 (rillmeterlaw13_BitmapSets.j0 kq l3 x33_5 t198 t199 = some r) ∧ Aside0 (kq ≤ k) ∧ Aside0 (Kd.S (Kd.slice 4 Kd.bool) 33 wc w.heap.size (fun _ => True) (.slice Ao10 t199.length co10) t199) ∧ Aside0 (wc.heap[gb203]? = some (.cells #[.int .u64 t198, (.slice Ao10 t199.length co10)] 25 (0, 0))) ∧ Aside0 (Below w.heap.size w wc))
  case first =>
    have H := HC6.out
    clear HC6
    by_cases c11 : t202 = 0
    · rw [if_pos c11] at H
      have c11b0 : (t202 == 0) = true := beq_iff_eq.mpr c11
      have c11b1 : (t202 != 0) = false := bne_eq_false_iff_eq.mpr c11
      clear c11
      (first | rw [c11b0] | (simp only [i64_w, i32_w]; rw [c11b0]) | skip)
      replace H := Option.bind_eq_some_iff.mp H
      obtain ⟨t204, A120, H⟩ := H
      replace H : (rillmeterlaw13_BitmapSets.j0 k l3 (!t204) t198 t199) = some r := H
      have A12 := Aside0.mk A120
      clear A120
      have H' := Aside0.mk H
      clear H
      go_wp2_with (first | (go_at_call 21; (with_reducible refine (rillmeterref10_Short.calls k _ _ l3 40 t204 _ ?side1 ?side2 A12.out).mono ?_); (case side1 => exact Kd.C_below HR3.out (by repeat (first | (with_reducible first | exact HB.out | apply below_alloc | apply pw_below_drewN | apply below_drew1 | refine below_set ?_ GE203.out) | exact HB.out))); (case side2 => exact HC3.out); rintro e w' ⟨rfl, ⟨nd, rfl⟩⟩))
      go_meet
      case rel => exact ⟨_, (!t204), (by first | rfl | (simp; done) | (simp [*]; done)), H', ⟨by first | omega | exact Nat.le_refl _⟩, ⟨by (with_reducible repeat (first | apply Kd.S_alloc | apply Kd.S_drewN | apply Kd.S_drew)); exact Kd.S_mono (Kd.S_far (p := ⟨gb203, 1, none⟩) (Kd.S_far (p := ⟨gb203, 0, none⟩) (Kd.S_types HO201.out BK203.out (by decide)) (fun _ hk => hk.2) (.int .u64 t198)) (fun _ hk => hk.2) (.slice Ao10 t199.length co10)) (fun _ hk => trivial)⟩, ⟨by (with_reducible repeat (first | refine blk_drewN ?_ _ | refine blk_drew ?_ | refine blk_alloc ?_ _)); refine blk_put (cs := #[.int .u64 t198, .slice none 0 0]) ?_ 1 _ rfl; (with_reducible repeat (first | refine blk_drewN ?_ _ | refine blk_drew ?_ | refine blk_alloc ?_ _)); refine blk_put (cs := #[.int .u64 0, .slice none 0 0]) ?_ 0 _ rfl; (with_reducible repeat (first | refine blk_drewN ?_ _ | refine blk_drew ?_ | refine blk_alloc ?_ _)); exact BK203.out⟩, ⟨by repeat (first | (with_reducible first | exact HB.out | apply below_alloc | apply pw_below_drewN | apply below_drew1 | refine below_set ?_ GE203.out) | exact HB.out)⟩⟩
    · rw [if_neg c11] at H
      have c11b0 : (t202 == 0) = false := beq_eq_false_iff_ne.mpr c11
      have c11b1 : (t202 != 0) = true := bne_iff_ne.mpr c11
      (first | rw [c11b0] | (simp only [i64_w, i32_w]; rw [c11b0]) | skip)
      have H' := Aside0.mk H
      clear H
      go_wp2
      go_meet
      case rel => exact ⟨_, (true), (by first | rfl | (simp; done) | (simp [*]; done)), H', ⟨by first | omega | exact Nat.le_refl _⟩, ⟨by (with_reducible repeat (first | apply Kd.S_alloc | apply Kd.S_drewN | apply Kd.S_drew)); exact Kd.S_mono (Kd.S_far (p := ⟨gb203, 1, none⟩) (Kd.S_far (p := ⟨gb203, 0, none⟩) (Kd.S_types HO201.out BK203.out (by decide)) (fun _ hk => hk.2) (.int .u64 t198)) (fun _ hk => hk.2) (.slice Ao10 t199.length co10)) (fun _ hk => trivial)⟩, ⟨by (with_reducible repeat (first | refine blk_drewN ?_ _ | refine blk_drew ?_ | refine blk_alloc ?_ _)); refine blk_put (cs := #[.int .u64 t198, .slice none 0 0]) ?_ 1 _ rfl; (with_reducible repeat (first | refine blk_drewN ?_ _ | refine blk_drew ?_ | refine blk_alloc ?_ _)); refine blk_put (cs := #[.int .u64 0, .slice none 0 0]) ?_ 0 _ rfl; (with_reducible repeat (first | refine blk_drewN ?_ _ | refine blk_drew ?_ | refine blk_alloc ?_ _)); exact BK203.out⟩, ⟨by repeat (first | (with_reducible first | exact HB.out | apply below_alloc | apply pw_below_drewN | apply below_drew1 | refine below_set ?_ GE203.out) | exact HB.out)⟩⟩
  case rest =>
    clear HC6
    try clear c1
    try clear p2
    try clear c3
    try clear c5
    try clear c8
    try clear c11
    try clear c11b0
    try clear c11b1
    try clear hcz9_0
    try clear hcz9_1
    try clear hfz9_0
    try clear hfz9_1
    obtain ⟨kq, x33_5, rfl, HA, HJ5, HO_204001, BK203, HB⟩ := hcut
    cases kq with
    | zero => exact absurd HA.out (by simp [rillmeterlaw13_BitmapSets.j0])
    | succ kj5 =>
      have H := HA.out
      clear HA
      simp only [rillmeterlaw13_BitmapSets.j0] at H
      by_cases c13 : x33_5 = true
      · subst c13
        have H1 : ((rillmeterlaw13_awake.f kj5).bind fun t205 => (some t205)) = some r := by rw [if_pos rfl] at H; exact H
        clear H
        have H := H1
        clear H1
        replace H := Option.bind_eq_some_iff.mp H
        obtain ⟨t205, A140, H⟩ := H
        replace H : (some t205) = some r := H
        have A14 := Aside0.mk A140
        clear A140
        obtain rfl := Option.some.inj H
        go_wp2_with (first | ((with_reducible refine gate_callee (f := 11) rfl ?_); refine goesL_ (some 34) rfl rfl Tryd.func11 (by kernel_rfl) rfl #[] rfl (by (try simp only [List.map_toArray, List.map_cons, List.map_nil]); first | done | rfl | (simp only [List.length_drop, List.length_take]; rfl)) ?_; (with_reducible refine (rillmeterlaw13_awake.calls kj5  t205 _ A14.out ⟨tb_ HT0 HB⟩).mono ?_); rintro e w15 ⟨rfl, hb⟩; refine ⟨_, rfl, ?_⟩; have n0_ := Aside0.mk (Kd.S_below (by (with_reducible repeat (first | apply Kd.S_alloc | apply Kd.S_drewN | apply Kd.S_drew)); exact HO_204001.out) hb); have n1_ := Aside0.mk (blk_below (g := gb203) (o := .cells #[.int .u64 t198, .slice Ao10 t199.length co10] 25 (0, 0)) (by (with_reducible repeat (first | refine blk_drewN ?_ _ | refine blk_drew ?_ | refine blk_alloc ?_ _)); exact BK203.out) hb); have n2_ := Aside0.mk (below_step (by repeat (first | (with_reducible first | exact HB.out | apply below_alloc | apply pw_below_drewN | apply below_drew1 | refine below_set ?_ GE203.out) | exact HB.out)) hb); clear HO_204001; clear BK203; clear HB; have HO_204001 := n0_; have BK203 := n1_; have HB := n2_; clear n0_ n1_ n2_; (try clear hb); (try clear hb2); (try clear hk); (try clear hi)))
        go_ret
        exact ⟨by first | rfl | (simp [errW_none, errW_some] <;> rfl) | (simp [*, errW_none, errW_some] <;> rfl), by repeat (first | (with_reducible first | exact HB.out | apply below_alloc | apply pw_below_drewN | apply below_drew1 | refine below_set ?_ GE203.out) | exact HB.out)⟩
      · replace c13 := Bool.eq_false_iff.mpr c13
        subst c13
        have H1 : ((rillmeterlaw13_adds.f kj5 t198 t199 l3).bind fun bt206 => (rillmeterlaw13_BitmapSets.l0 kj5 l3 0 bt206.2 (bt206.2.length : Int) 0 bt206.1 bt206.2)) = some r := by rw [if_neg (show ¬ (false = true) by decide)] at H; exact H
        clear H
        have H := H1
        clear H1
        replace H := Option.bind_eq_some_iff.mp H
        obtain ⟨⟨t206, t207⟩, A160, H⟩ := H
        replace H : (rillmeterlaw13_BitmapSets.l0 kj5 l3 0 t207 (t207.length : Int) 0 t206 t207) = some r := H
        have A16 := Aside0.mk A160
        clear A160
        have H' := Aside0.mk H
        clear H
        have hcz17_0 : wc.cell? ⟨gb203, 0, none⟩ = some (.int .u64 t198) := (blk_cell BK203.out 0).trans rfl
        have hcz17_1 : wc.cell? ⟨gb203, 1, none⟩ = some (.slice Ao10 t199.length co10) := (blk_cell BK203.out 1).trans rfl
        have hfz17_0 := blk_frozen BK203.out 0
        have hfz17_1 := blk_frozen BK203.out 1
        go_wp2_with (first | ((with_reducible refine gate_callee (f := 22) rfl ?_); refine goesL_ (some 37) rfl rfl Tryd.func22 (by kernel_rfl) rfl #[.agg #[.int .u64 t198, .slice Ao10 t199.length co10], .slice A3 l3.length c3] rfl (by (try simp only [List.map_toArray, List.map_cons, List.map_nil]); first | done | rfl | (simp only [List.length_drop, List.length_take]; rfl)) ?_; (with_reducible refine (rillmeterlaw13_adds.calls kj5 t198 (fun k_ => (True ∧ k_ ≠ gb203)) _ _ t199 _ _ l3 t206 t207 _ ?side1 ?side2 ?side3 A16.out ⟨tb_ HT0 HB⟩).mono ?_); (case side1 => exact Kd.S_V (Kd.S_types (HO_204001.out) BK203.out (by decide))); (case side2 => repeat (first | exact (Kd.C_below HR3.out HB.out) | (with_reducible refine Kd.C_alloc ?_ _) | (with_reducible refine Kd.C_drewN ?_ _) | (with_reducible refine Kd.C_drew ?_))); (case side3 => exact HC3.out); rintro e w18 ⟨v208, rfl, ho0, hb⟩; refine ⟨_, rfl, ?_⟩; have n0_ := Aside0.mk (Kd.S_below (by (with_reducible repeat (first | apply Kd.S_alloc | apply Kd.S_drewN | apply Kd.S_drew)); exact HO_204001.out) hb); have n1_ := Aside0.mk (Kd.V_lower (Kd.V_mono (ok' := fun k_ => k_ ≠ gb203) ho0 (fun k_ hk_ => Or.elim hk_ (fun hs_ => hs_.2) (fun hn_ => (Kd.freshB (g := gb203) (o := .cells #[.int .u64 t198, .slice Ao10 t199.length co10] 25 (0, 0)) (by (with_reducible repeat (first | refine blk_drewN ?_ _ | refine blk_drew ?_ | refine blk_alloc ?_ _)); exact BK203.out) k_ hn_)))) (below_size (by repeat (first | (with_reducible first | exact HB.out | apply below_alloc | apply pw_below_drewN | apply below_drew1 | refine below_set ?_ GE203.out) | exact HB.out)))); have n2_ := Aside0.mk (blk_below (g := gb203) (o := .cells #[.int .u64 t198, .slice Ao10 t199.length co10] 25 (0, 0)) (by (with_reducible repeat (first | refine blk_drewN ?_ _ | refine blk_drew ?_ | refine blk_alloc ?_ _)); exact BK203.out) hb); have n3_ := Aside0.mk (below_step (by repeat (first | (with_reducible first | exact HB.out | apply below_alloc | apply pw_below_drewN | apply below_drew1 | refine below_set ?_ GE203.out) | exact HB.out)) hb); clear HO_204001; clear BK203; clear HB; have HO_204001 := n0_; have HO209 := n1_; have BK203 := n2_; have HB := n3_; clear n0_ n1_ n2_ n3_; (try clear hb); (try clear hb2); (try clear hk); (try clear hi); (try clear ho0); have hcz19_0 : w18.cell? ⟨gb203, 0, none⟩ = some (.int .u64 t198) := (blk_cell BK203.out 0).trans rfl; have hcz19_1 : w18.cell? ⟨gb203, 1, none⟩ = some (.slice Ao10 t199.length co10) := (blk_cell BK203.out 1).trans rfl; have hfz19_0 := blk_frozen BK203.out 0; have hfz19_1 := blk_frozen BK203.out 1; obtain ⟨Ao20, co20, eo20⟩ := Kd.V_slice HO209.out; subst eo20))
        go_loopg [11, 41] kj5 (fun kq v11 v41 w' => ∃ (x11_2 : Int) (x41_2 : Int), v11 = .int .i64 x11_2 ∧ v41 = .int .i64 x41_2 ∧ Aside0 (rillmeterlaw13_BitmapSets.l0 kq l3 x11_2 t207 (t207.length : Int) x41_2 t206 t207 = some r) ∧ Aside0 (kq ≤ kj5) ∧ Aside0 (Kd.V (Kd.slice 4 Kd.bool) 33 w' w.heap.size (fun k_ => k_ ≠ gb203) (.slice Ao20 t207.length co20) t207) ∧ Aside0 (Kd.V (Kd.slice 4 Kd.bool) 33 w' w.heap.size (fun k_ => k_ ≠ gb203) (.slice Ao20 t207.length co20) t207) ∧ Aside0 (w'.heap[gb203]? = some (.cells #[.int .u64 t206, (.slice Ao20 t207.length co20)] 25 (0, 0))) ∧ Aside0 (Below w.heap.size w w'))
        case atStart => exact ⟨(0), (0), (by first | rfl | (simp; done) | (simp [*]; done)), (by first | rfl | (simp; done) | (simp [*]; done)), H', ⟨Nat.le_refl _⟩, ⟨by (with_reducible repeat (first | apply Kd.V_alloc | apply Kd.V_drewN | apply Kd.V_drew)); exact Kd.V_mono (Kd.V_far (p := ⟨gb203, 1, none⟩) (Kd.V_far (p := ⟨gb203, 0, none⟩) (Kd.V_mono HO209.out (fun k_ hk => (⟨hk, hk⟩ : _ ∧ k_ ≠ gb203))) (fun _ hk => hk.2) (.int .u64 t206)) (fun _ hk => hk.2) (.slice Ao20 t207.length co20)) (fun _ hk => hk.1)⟩, ⟨by (with_reducible repeat (first | apply Kd.V_alloc | apply Kd.V_drewN | apply Kd.V_drew)); exact Kd.V_mono (Kd.V_far (p := ⟨gb203, 1, none⟩) (Kd.V_far (p := ⟨gb203, 0, none⟩) (Kd.V_mono HO209.out (fun k_ hk => (⟨hk, hk⟩ : _ ∧ k_ ≠ gb203))) (fun _ hk => hk.2) (.int .u64 t206)) (fun _ hk => hk.2) (.slice Ao20 t207.length co20)) (fun _ hk => hk.1)⟩, ⟨by (with_reducible repeat (first | refine blk_drewN ?_ _ | refine blk_drew ?_ | refine blk_alloc ?_ _)); refine blk_put (cs := #[.int .u64 t206, .slice Ao10 t199.length co10]) ?_ 1 _ rfl; (with_reducible repeat (first | refine blk_drewN ?_ _ | refine blk_drew ?_ | refine blk_alloc ?_ _)); refine blk_put (cs := #[.int .u64 t198, .slice Ao10 t199.length co10]) ?_ 0 _ rfl; (with_reducible repeat (first | refine blk_drewN ?_ _ | refine blk_drew ?_ | refine blk_alloc ?_ _)); exact BK203.out⟩, ⟨by repeat (first | (with_reducible first | exact HB.out | apply below_alloc | apply pw_below_drewN | apply below_drew1 | refine below_set ?_ GE203.out) | exact HB.out)⟩⟩
        case round =>
          clear H'
          try clear c1
          try clear c2
          try clear p2
          try clear c3
          try clear c5
          try clear c8
          try clear c11
          try clear c11b0
          try clear c11b1
          try clear c13
          try clear hcz17_0
          try clear hcz17_1
          try clear hcz19_0
          try clear hcz19_1
          try clear hcz9_0
          try clear hcz9_1
          try clear hfz17_0
          try clear hfz17_1
          try clear hfz19_0
          try clear hfz19_1
          try clear hfz9_0
          try clear hfz9_1
          try clear p2
          obtain ⟨x11_2, x41_2, rfl, rfl, HA, HK2, HO_39, HO_204001, BK203, HB⟩ := hrel
          cases gk with
          | zero => exact absurd HA.out (by simp [rillmeterlaw13_BitmapSets.l0])
          | succ k2 =>
            have H := HA.out
            clear HA
            simp only [rillmeterlaw13_BitmapSets.l0] at H
            by_cases c21 : x41_2 < (t207.length : Int)
            · rw [if_pos c21] at H
              have c21b0 : decide (x41_2 < (t207.length : Int)) = true := decide_eq_true c21
              clear c21
              by_cases c22 : 0 ≤ x41_2
              · rw [if_pos c22] at H
                have c22b0 : decide (0 ≤ x41_2) = true := decide_eq_true c22
                clear c22
                by_cases c23 : x41_2 < (t207.length : Int)
                · rw [if_pos c23] at H
                  have c23b0 : decide (x41_2 < (t207.length : Int)) = true := decide_eq_true c23
                  clear c23
                  have H' := Aside0.mk H
                  clear H
                  have p210 : 0 ≤ (x41_2 : Int) := of_decide_eq_true (by first | (with_reducible assumption) | assumption)
                  have q210 : x41_2 < (t207.length : Int) := of_decide_eq_true (by first | (with_reducible assumption) | assumption)
                  obtain ⟨ad210, A210_0, c210_0, e210, hx210_0, hl210_0, hi210_0⟩ := at_L1 (Kd.V_reads' HO_39.out).2.2 x41_2 p210 q210
                  cases e210
                  obtain ⟨ce210, hce210, hMe210, hcc210⟩ := Kd.V_get HO_39.out [] x41_2 p210 (by first | exact q210 | exact of_decide_eq_true (by first | (with_reducible assumption) | assumption) | (have e_ := (Kd.V_reads' HO_39.out).1; omega))
                  obtain ⟨ua210_0, uc210_0, rfl, ul210_0, ge210_0⟩ := Kd.FK_slice_open hMe210
                  have hv210_0 := hcc210 0 _ rfl
                  rw [Nat.add_zero, show ((Kd.slice 4 Kd.bool)).sz = 1 from rfl, Nat.mul_one] at hv210_0
                  replace hv210_0 := Option.some.inj (hv210_0.symm.trans hx210_0)
                  injection hv210_0 with hva_ hvn_ hvc_
                  rw [hva_] at ge210_0
                  rw [hvc_] at ul210_0
                  have HL210_0 := Aside0.mk (show Kd.V Kd.bool 4 _ w.heap.size _ _ (rd_L1 t207 x41_2) from Kd.V_mk ul210_0 ge210_0)
                  clear hva_ hvn_ hvc_ ge210_0 ul210_0
                  clear hcc210 hce210
                  have HR210_0 := Aside0.mk hi210_0
                  have HC210_0 := Aside0.mk hl210_0
                  clear hi210_0 hl210_0
                  replace p210 := eq_true p210
                  replace q210 := eq_true q210
                  go_wp2
                  go_loopg [11, 47] k2 (fun kq v11 v47 w' => ∃ (x11_3 : Int) (x47_3 : Int), v11 = .int .i64 x11_3 ∧ v47 = .int .i64 x47_3 ∧ Aside0 (rillmeterlaw13_BitmapSets.l1 kq l3 x11_3 t207 (t207.length : Int) x41_2 (rd_L1 t207 x41_2) ((rd_L1 t207 x41_2).length : Int) x47_3 t206 t207 = some r) ∧ Aside0 (kq ≤ k2) ∧ Aside0 (Kd.V (Kd.slice 4 Kd.bool) 33 w' w.heap.size (fun k_ => k_ ≠ gb203) (.slice (some ad210) t207.length co20) t207) ∧ Aside0 (Kd.V (Kd.slice 4 Kd.bool) 33 w' w.heap.size (fun k_ => k_ ≠ gb203) (.slice (some ad210) t207.length co20) t207) ∧ Aside0 (w'.heap[gb203]? = some (.cells #[.int .u64 t206, (.slice (some ad210) t207.length co20)] 25 (0, 0))) ∧ Aside0 (Kd.C Kd.bool w' A210_0 (rd_L1 t207 x41_2).length (rd_L1 t207 x41_2)) ∧ Aside0 (Below w.heap.size w w'))
                  case atStart => exact ⟨(x11_2), (0), (by first | rfl | (simp; done) | (simp [*]; done)), (by first | rfl | (simp; done) | (simp [*]; done)), H', ⟨Nat.le_refl _⟩, ⟨by (with_reducible repeat (first | apply Kd.V_alloc | apply Kd.V_drewN | apply Kd.V_drew)); exact HO_39.out⟩, ⟨by (with_reducible repeat (first | apply Kd.V_alloc | apply Kd.V_drewN | apply Kd.V_drew)); exact HO_204001.out⟩, ⟨by (with_reducible repeat (first | refine blk_drewN ?_ _ | refine blk_drew ?_ | refine blk_alloc ?_ _)); exact BK203.out⟩, ⟨by repeat (first | (with_reducible exact HR210_0.out) | (with_reducible refine Kd.C_alloc ?_ _) | (with_reducible refine Kd.C_drewN ?_ _) | (with_reducible refine Kd.C_drew ?_) | exact HR210_0.out)⟩, ⟨by repeat (first | (with_reducible first | exact HB.out | apply below_alloc | apply pw_below_drewN | apply below_drew1 | refine below_set ?_ GE203.out) | exact HB.out)⟩⟩
                  case round =>
                    clear H'
                    try clear c1
                    try clear c2
                    try clear p2
                    try clear q2
                    try clear hx2
                    try clear c3
                    try clear c5
                    try clear c8
                    try clear c11
                    try clear c11b0
                    try clear c11b1
                    try clear c13
                    try clear c21
                    try clear c21b0
                    try clear p21
                    try clear q21
                    try clear hx21
                    try clear c22
                    try clear c22b0
                    try clear c23
                    try clear c23b0
                    try clear hcz17_0
                    try clear hcz17_1
                    try clear hcz19_0
                    try clear hcz19_1
                    try clear hcz9_0
                    try clear hcz9_1
                    try clear hfz17_0
                    try clear hfz17_1
                    try clear hfz19_0
                    try clear hfz19_1
                    try clear hfz9_0
                    try clear hfz9_1
                    try clear hx210_0
                    try clear p2
                    try clear p210
                    try clear q210
                    obtain ⟨x11_3, x47_3, rfl, rfl, HA, HK3, HO_39, HO_204001, BK203, HR210_0, HB⟩ := hrel
                    cases gk with
                    | zero => exact absurd HA.out (by simp [rillmeterlaw13_BitmapSets.l1])
                    | succ k3 =>
                      have H := HA.out
                      clear HA
                      simp only [rillmeterlaw13_BitmapSets.l1] at H
                      by_cases c24 : x47_3 < ((rd_L1 t207 x41_2).length : Int)
                      · rw [if_pos c24] at H
                        have c24b0 : decide (x47_3 < ((rd_L1 t207 x41_2).length : Int)) = true := decide_eq_true c24
                        clear c24
                        by_cases c25 : 0 ≤ x47_3
                        · rw [if_pos c25] at H
                          have c25b0 : decide (0 ≤ x47_3) = true := decide_eq_true c25
                          clear c25
                          by_cases c26 : x47_3 < ((rd_L1 t207 x41_2).length : Int)
                          · rw [if_pos c26] at H
                            have c26b0 : decide (x47_3 < ((rd_L1 t207 x41_2).length : Int)) = true := decide_eq_true c26
                            clear c26
                            obtain ⟨bq27, hbq27⟩ : ∃ b_ : Bool, b_ = (rdOf false (rd_L1 t207 x41_2) x47_3) := ⟨_, rfl⟩
                            replace H : (if bq27 = true then (rillmeterlaw13_BitmapSets.l1 k3 l3 (wrap64 (x11_3 + 1)) t207 (t207.length : Int) x41_2 (rd_L1 t207 x41_2) ((rd_L1 t207 x41_2).length : Int) (wrap64 (x47_3 + 1)) t206 t207) else (rillmeterlaw13_BitmapSets.l1 k3 l3 x11_3 t207 (t207.length : Int) x41_2 (rd_L1 t207 x41_2) ((rd_L1 t207 x41_2).length : Int) (wrap64 (x47_3 + 1)) t206 t207)) = some r := by rw [← hbq27] at H; exact H
                            have Nbq27 := Aside0.mk hbq27
                            clear hbq27
                            by_cases c28 : bq27 = true
                            · subst c28
                              have H1 : (rillmeterlaw13_BitmapSets.l1 k3 l3 (wrap64 (x11_3 + 1)) t207 (t207.length : Int) x41_2 (rd_L1 t207 x41_2) ((rd_L1 t207 x41_2).length : Int) (wrap64 (x47_3 + 1)) t206 t207) = some r := by rw [if_pos rfl] at H; exact H
                              clear H
                              have H := H1
                              clear H1
                              have H' := Aside0.mk H
                              clear H
                              have p211 : 0 ≤ (x47_3 : Int) := of_decide_eq_true (by first | (with_reducible assumption) | assumption)
                              have q211 : x47_3 < ((rd_L1 t207 x41_2).length : Int) := of_decide_eq_true (by first | (with_reducible assumption) | assumption)
                              obtain ⟨ad211, e211, hx211_0⟩ := Kd.at_bool HR210_0.out x47_3 p211 q211
                              (try rw [← Nbq27.out] at hx211_0)
                              cases e211
                              (try replace hx211_0 := (HB.out.cell (World.block_lt_of_cell? w _ hx211_0)).trans hx211_0)
                              replace p211 := eq_true p211
                              replace q211 := eq_true q211
                              go_wp2
                              go_roundg k3
                              case measure => have := HJ5.out; have := HK2.out; have := HK3.out; omega
                              case rel => exact ⟨(wrap64 (x11_3 + 1)), (wrap64 (x47_3 + 1)), (by first | rfl | (simp; done) | (simp [*]; done)), (by first | rfl | (simp; done) | (simp [*]; done)), H', ⟨by have := HJ5.out; have := HK2.out; have := HK3.out; omega⟩, ⟨by (with_reducible repeat (first | apply Kd.V_alloc | apply Kd.V_drewN | apply Kd.V_drew)); exact HO_39.out⟩, ⟨by (with_reducible repeat (first | apply Kd.V_alloc | apply Kd.V_drewN | apply Kd.V_drew)); exact HO_204001.out⟩, ⟨by (with_reducible repeat (first | refine blk_drewN ?_ _ | refine blk_drew ?_ | refine blk_alloc ?_ _)); exact BK203.out⟩, ⟨by repeat (first | (with_reducible exact HR210_0.out) | (with_reducible refine Kd.C_alloc ?_ _) | (with_reducible refine Kd.C_drewN ?_ _) | (with_reducible refine Kd.C_drew ?_) | exact HR210_0.out)⟩, ⟨by repeat (first | (with_reducible first | exact HB.out | apply below_alloc | apply pw_below_drewN | apply below_drew1 | refine below_set ?_ GE203.out) | exact HB.out)⟩⟩
                            · replace c28 := Bool.eq_false_iff.mpr c28
                              subst c28
                              have H1 : (rillmeterlaw13_BitmapSets.l1 k3 l3 x11_3 t207 (t207.length : Int) x41_2 (rd_L1 t207 x41_2) ((rd_L1 t207 x41_2).length : Int) (wrap64 (x47_3 + 1)) t206 t207) = some r := by rw [if_neg (show ¬ (false = true) by decide)] at H; exact H
                              clear H
                              have H := H1
                              clear H1
                              have H' := Aside0.mk H
                              clear H
                              have p211 : 0 ≤ (x47_3 : Int) := of_decide_eq_true (by first | (with_reducible assumption) | assumption)
                              have q211 : x47_3 < ((rd_L1 t207 x41_2).length : Int) := of_decide_eq_true (by first | (with_reducible assumption) | assumption)
                              obtain ⟨ad211, e211, hx211_0⟩ := Kd.at_bool HR210_0.out x47_3 p211 q211
                              (try rw [← Nbq27.out] at hx211_0)
                              cases e211
                              (try replace hx211_0 := (HB.out.cell (World.block_lt_of_cell? w _ hx211_0)).trans hx211_0)
                              replace p211 := eq_true p211
                              replace q211 := eq_true q211
                              go_wp2
                              go_roundg k3
                              case measure => have := HJ5.out; have := HK2.out; have := HK3.out; omega
                              case rel => exact ⟨(x11_3), (wrap64 (x47_3 + 1)), (by first | rfl | (simp; done) | (simp [*]; done)), (by first | rfl | (simp; done) | (simp [*]; done)), H', ⟨by have := HJ5.out; have := HK2.out; have := HK3.out; omega⟩, ⟨by (with_reducible repeat (first | apply Kd.V_alloc | apply Kd.V_drewN | apply Kd.V_drew)); exact HO_39.out⟩, ⟨by (with_reducible repeat (first | apply Kd.V_alloc | apply Kd.V_drewN | apply Kd.V_drew)); exact HO_204001.out⟩, ⟨by (with_reducible repeat (first | refine blk_drewN ?_ _ | refine blk_drew ?_ | refine blk_alloc ?_ _)); exact BK203.out⟩, ⟨by repeat (first | (with_reducible exact HR210_0.out) | (with_reducible refine Kd.C_alloc ?_ _) | (with_reducible refine Kd.C_drewN ?_ _) | (with_reducible refine Kd.C_drew ?_) | exact HR210_0.out)⟩, ⟨by repeat (first | (with_reducible first | exact HB.out | apply below_alloc | apply pw_below_drewN | apply below_drew1 | refine below_set ?_ GE203.out) | exact HB.out)⟩⟩
                          · rw [if_neg c26] at H
                            exact absurd H (by simp)
                        · rw [if_neg c25] at H
                          exact absurd H (by simp)
                      · rw [if_neg c24] at H
                        have c24b0 : decide (x47_3 < ((rd_L1 t207 x41_2).length : Int)) = false := decide_eq_false c24
                        clear c24
                        have H' := Aside0.mk H
                        clear H
                        go_wp2
                        go_roundg k3
                        case measure => have := HJ5.out; have := HK2.out; have := HK3.out; omega
                        case rel => exact ⟨(x11_3), (wrap64 (x41_2 + 1)), (by first | rfl | (simp; done) | (simp [*]; done)), (by first | rfl | (simp; done) | (simp [*]; done)), H', ⟨by have := HJ5.out; have := HK2.out; have := HK3.out; omega⟩, ⟨by (with_reducible repeat (first | apply Kd.V_alloc | apply Kd.V_drewN | apply Kd.V_drew)); exact HO_39.out⟩, ⟨by (with_reducible repeat (first | apply Kd.V_alloc | apply Kd.V_drewN | apply Kd.V_drew)); exact HO_204001.out⟩, ⟨by (with_reducible repeat (first | refine blk_drewN ?_ _ | refine blk_drew ?_ | refine blk_alloc ?_ _)); exact BK203.out⟩, ⟨by repeat (first | (with_reducible first | exact HB.out | apply below_alloc | apply pw_below_drewN | apply below_drew1 | refine below_set ?_ GE203.out) | exact HB.out)⟩⟩
                · rw [if_neg c23] at H
                  exact absurd H (by simp)
              · rw [if_neg c22] at H
                exact absurd H (by simp)
            · rw [if_neg c21] at H
              have c21b0 : decide (x41_2 < (t207.length : Int)) = false := decide_eq_false c21
              clear c21
              have H' := Aside0.mk H
              clear H
              go_wp2
              go_loopg [58] k2 (fun kq v58 w' => ∃ (x58_3 : Int), v58 = .int .i64 x58_3 ∧ Aside0 (rillmeterlaw13_BitmapSets.l2 kq l3 x11_2 l3 (l3.length : Int) x58_3 t206 t207 = some r) ∧ Aside0 (kq ≤ k2) ∧ Aside0 (Kd.V (Kd.slice 4 Kd.bool) 33 w' w.heap.size (fun k_ => k_ ≠ gb203) (.slice Ao20 t207.length co20) t207) ∧ Aside0 (w'.heap[gb203]? = some (.cells #[.int .u64 t206, (.slice Ao20 t207.length co20)] 25 (0, 0))) ∧ Aside0 (Below w.heap.size w w'))
              case atStart => exact ⟨(0), (by first | rfl | (simp; done) | (simp [*]; done)), H', ⟨Nat.le_refl _⟩, ⟨by (with_reducible repeat (first | apply Kd.V_alloc | apply Kd.V_drewN | apply Kd.V_drew)); exact HO_204001.out⟩, ⟨by (with_reducible repeat (first | refine blk_drewN ?_ _ | refine blk_drew ?_ | refine blk_alloc ?_ _)); exact BK203.out⟩, ⟨by repeat (first | (with_reducible first | exact HB.out | apply below_alloc | apply pw_below_drewN | apply below_drew1 | refine below_set ?_ GE203.out) | exact HB.out)⟩⟩
              case round =>
                clear H'
                try clear c1
                try clear c2
                try clear p2
                try clear q2
                try clear hx2
                try clear c3
                try clear c5
                try clear p6
                try clear c8
                try clear c11
                try clear c11b0
                try clear c11b1
                try clear c13
                try clear c21
                try clear c21b0
                try clear p21
                try clear q21
                try clear hx21
                try clear c22
                try clear c22b0
                try clear c23
                try clear c23b0
                try clear c24
                try clear c24b0
                try clear c25
                try clear c25b0
                try clear c26
                try clear c26b0
                try clear q27
                try clear c28
                try clear hcz17_0
                try clear hcz17_1
                try clear hcz19_0
                try clear hcz19_1
                try clear hcz9_0
                try clear hcz9_1
                try clear hfz17_0
                try clear hfz17_1
                try clear hfz19_0
                try clear hfz19_1
                try clear hfz9_0
                try clear hfz9_1
                try clear hx210_0
                try clear hx211_0
                try clear p2
                try clear p21
                try clear p210
                try clear p211
                try clear q2
                try clear q21
                try clear q210
                try clear q211
                obtain ⟨x58_3, rfl, HA, HK3, HO_204001, BK203, HB⟩ := hrel
                cases gk with
                | zero => exact absurd HA.out (by simp [rillmeterlaw13_BitmapSets.l2])
                | succ k3 =>
                  have H := HA.out
                  clear HA
                  simp only [rillmeterlaw13_BitmapSets.l2] at H
                  by_cases c29 : x58_3 < (l3.length : Int)
                  · rw [if_pos c29] at H
                    have c29b0 : decide (x58_3 < (l3.length : Int)) = true := decide_eq_true c29
                    clear c29
                    by_cases c30 : 0 ≤ x58_3
                    · rw [if_pos c30] at H
                      have c30b0 : decide (0 ≤ x58_3) = true := decide_eq_true c30
                      clear c30
                      by_cases c31 : x58_3 < (l3.length : Int)
                      · rw [if_pos c31] at H
                        have c31b0 : decide (x58_3 < (l3.length : Int)) = true := decide_eq_true c31
                        clear c31
                        replace H := Option.bind_eq_some_iff.mp H
                        obtain ⟨⟨t213, t214⟩, A320, H⟩ := H
                        replace H : (if t213 < 0 then (some false) else (if t213 ≥ (t207.length : Int) then (some false) else (if t214 < 0 then (some false) else (if 0 ≤ t213 then (if t213 < (t207.length : Int) then (if t214 ≥ ((rd_L1 t207 t213).length : Int) then (some false) else (if 0 ≤ t214 then (if t214 < ((rd_L1 t207 t213).length : Int) then (if (rdOf false (rd_L1 t207 t213) t214 = true) then (rillmeterlaw13_BitmapSets.l2 k3 l3 x11_2 l3 (l3.length : Int) (wrap64 (x58_3 + 1)) t206 t207) else (some false)) else (none)) else (none))) else (none)) else (none))))) = some r := H
                        have A32 := Aside0.mk A320
                        clear A320
                        by_cases c33 : t213 < 0
                        · rw [if_pos c33] at H
                          have c33b0 : decide (t213 < 0) = true := decide_eq_true c33
                          clear c33
                          exact absurd ((Option.some.inj H).trans hrt.out) (by decide)
                        · rw [if_neg c33] at H
                          have c33b0 : decide (t213 < 0) = false := decide_eq_false c33
                          clear c33
                          by_cases c34 : t213 ≥ (t207.length : Int)
                          · rw [if_pos c34] at H
                            have c34b0 : decide ((t207.length : Int) ≤ t213) = true := decide_eq_true c34
                            clear c34
                            exact absurd ((Option.some.inj H).trans hrt.out) (by decide)
                          · rw [if_neg c34] at H
                            have c34b0 : decide ((t207.length : Int) ≤ t213) = false := decide_eq_false c34
                            clear c34
                            by_cases c35 : t214 < 0
                            · rw [if_pos c35] at H
                              have c35b0 : decide (t214 < 0) = true := decide_eq_true c35
                              clear c35
                              exact absurd ((Option.some.inj H).trans hrt.out) (by decide)
                            · rw [if_neg c35] at H
                              have c35b0 : decide (t214 < 0) = false := decide_eq_false c35
                              clear c35
                              by_cases c36 : 0 ≤ t213
                              · rw [if_pos c36] at H
                                have c36b0 : decide (0 ≤ t213) = true := decide_eq_true c36
                                clear c36
                                by_cases c37 : t213 < (t207.length : Int)
                                · rw [if_pos c37] at H
                                  have c37b0 : decide (t213 < (t207.length : Int)) = true := decide_eq_true c37
                                  clear c37
                                  by_cases c38 : t214 ≥ ((rd_L1 t207 t213).length : Int)
                                  · rw [if_pos c38] at H
                                    have c38b0 : decide (((rd_L1 t207 t213).length : Int) ≤ t214) = true := decide_eq_true c38
                                    clear c38
                                    exact absurd ((Option.some.inj H).trans hrt.out) (by decide)
                                  · rw [if_neg c38] at H
                                    have c38b0 : decide (((rd_L1 t207 t213).length : Int) ≤ t214) = false := decide_eq_false c38
                                    clear c38
                                    by_cases c39 : 0 ≤ t214
                                    · rw [if_pos c39] at H
                                      have c39b0 : decide (0 ≤ t214) = true := decide_eq_true c39
                                      clear c39
                                      by_cases c40 : t214 < ((rd_L1 t207 t213).length : Int)
                                      · rw [if_pos c40] at H
                                        have c40b0 : decide (t214 < ((rd_L1 t207 t213).length : Int)) = true := decide_eq_true c40
                                        clear c40
                                        obtain ⟨bq41, hbq41⟩ : ∃ b_ : Bool, b_ = (rdOf false (rd_L1 t207 t213) t214) := ⟨_, rfl⟩
                                        replace H : (if (bq41 = true) then (rillmeterlaw13_BitmapSets.l2 k3 l3 x11_2 l3 (l3.length : Int) (wrap64 (x58_3 + 1)) t206 t207) else (some false)) = some r := by rw [← hbq41] at H; exact H
                                        have Nbq41 := Aside0.mk hbq41
                                        clear hbq41
                                        by_cases c42 : (bq41 = true)
                                        · subst c42
                                          have H1 : (rillmeterlaw13_BitmapSets.l2 k3 l3 x11_2 l3 (l3.length : Int) (wrap64 (x58_3 + 1)) t206 t207) = some r := by rw [if_pos rfl] at H; exact H
                                          clear H
                                          have H := H1
                                          clear H1
                                          have H' := Aside0.mk H
                                          clear H
                                          have p212 : 0 ≤ (x58_3 : Int) := of_decide_eq_true (by first | (with_reducible assumption) | assumption)
                                          have q212 : x58_3 < (l3.length : Int) := of_decide_eq_true (by first | (with_reducible assumption) | assumption)
                                          obtain ⟨ad212, e212, hx212_0⟩ := Kd.at_string HR3.out x58_3 p212 q212
                                          cases e212
                                          (try replace hx212_0 := (HB.out.cell (World.block_lt_of_cell? w _ hx212_0)).trans hx212_0)
                                          replace p212 := eq_true p212
                                          replace q212 := eq_true q212
                                          have hcz43_0 : wr.cell? ⟨gb203, 0, none⟩ = some (.int .u64 t206) := (blk_cell BK203.out 0).trans rfl
                                          have hcz43_1 : wr.cell? ⟨gb203, 1, none⟩ = some (.slice Ao20 t207.length co20) := (blk_cell BK203.out 1).trans rfl
                                          have hfz43_0 := blk_frozen BK203.out 0
                                          have hfz43_1 := blk_frozen BK203.out 1
                                          go_wp2_with (first | ((with_reducible refine gate_callee (f := 16) rfl ?_); refine goesL_ (some 65) rfl rfl Tryd.func16 (by kernel_rfl) rfl #[.agg #[.int .u64 t206, .slice Ao20 t207.length co20], .string (rdOf ByteArray.empty l3 x58_3)] rfl (by (try simp only [List.map_toArray, List.map_cons, List.map_nil]); first | done | rfl | (simp only [List.length_drop, List.length_take]; rfl)) ?_; (with_reducible refine (bitmap_Place.calls k3 t206 _ _ t207 (rdOf ByteArray.empty l3 x58_3) t213 t214 _ ?side1 ?side2 A32.out ⟨tb_ HT0 HB⟩).mono ?_); (case side1 => repeat (first | exact (Kd.V_reads' HO_204001.out).2.2 | (with_reducible refine Kd.C_alloc ?_ _) | (with_reducible refine Kd.C_drewN ?_ _) | (with_reducible refine Kd.C_drew ?_))); (case side2 => exact (Kd.V_reads' HO_204001.out).2.1); rintro e w44 ⟨rfl, hb⟩; refine ⟨_, rfl, ?_⟩; have n0_ := Aside0.mk (Kd.V_below (by (with_reducible repeat (first | apply Kd.V_alloc | apply Kd.V_drewN | apply Kd.V_drew)); exact HO_204001.out) hb); have n1_ := Aside0.mk (blk_below (g := gb203) (o := .cells #[.int .u64 t206, .slice Ao20 t207.length co20] 25 (0, 0)) (by (with_reducible repeat (first | refine blk_drewN ?_ _ | refine blk_drew ?_ | refine blk_alloc ?_ _)); exact BK203.out) hb); have n2_ := Aside0.mk (below_step (by repeat (first | (with_reducible first | exact HB.out | apply below_alloc | apply pw_below_drewN | apply below_drew1 | refine below_set ?_ GE203.out) | exact HB.out)) hb); clear HO_204001; clear BK203; clear HB; have HO_204001 := n0_; have BK203 := n1_; have HB := n2_; clear n0_ n1_ n2_; (try clear hb); (try clear hb2); (try clear hk); (try clear hi); have hcz45_0 : w44.cell? ⟨gb203, 0, none⟩ = some (.int .u64 t206) := (blk_cell BK203.out 0).trans rfl; have hcz45_1 : w44.cell? ⟨gb203, 1, none⟩ = some (.slice Ao20 t207.length co20) := (blk_cell BK203.out 1).trans rfl; have hfz45_0 := blk_frozen BK203.out 0; have hfz45_1 := blk_frozen BK203.out 1; have p215 : 0 ≤ (t213 : Int) := of_decide_eq_true (by first | (with_reducible assumption) | assumption); have q215 : t213 < (t207.length : Int) := of_decide_eq_true (by first | (with_reducible assumption) | assumption); obtain ⟨ad215, A215_0, c215_0, e215, hx215_0, hl215_0, hi215_0⟩ := at_L1 (Kd.V_reads' HO_204001.out).2.2 t213 p215 q215; cases e215; obtain ⟨ce215, hce215, hMe215, hcc215⟩ := Kd.V_get HO_204001.out [] t213 p215 (by first | exact q215 | exact of_decide_eq_true (by first | (with_reducible assumption) | assumption) | (have e_ := (Kd.V_reads' HO_204001.out).1; omega)); obtain ⟨ua215_0, uc215_0, rfl, ul215_0, ge215_0⟩ := Kd.FK_slice_open hMe215; have hv215_0 := hcc215 0 _ rfl; rw [Nat.add_zero, show ((Kd.slice 4 Kd.bool)).sz = 1 from rfl, Nat.mul_one] at hv215_0; replace hv215_0 := Option.some.inj (hv215_0.symm.trans hx215_0); injection hv215_0 with hva_ hvn_ hvc_; rw [hva_] at ge215_0; rw [hvc_] at ul215_0; have HL215_0 := Aside0.mk (show Kd.V Kd.bool 4 _ w.heap.size _ _ (rd_L1 t207 t213) from Kd.V_mk ul215_0 ge215_0); clear hva_ hvn_ hvc_ ge215_0 ul215_0; clear hcc215 hce215; have HR215_0 := Aside0.mk hi215_0; have HC215_0 := Aside0.mk hl215_0; clear hi215_0 hl215_0; replace p215 := eq_true p215; replace q215 := eq_true q215; have p216 : 0 ≤ (t213 : Int) := of_decide_eq_true (by first | (with_reducible assumption) | assumption); have q216 : t213 < (t207.length : Int) := of_decide_eq_true (by first | (with_reducible assumption) | assumption); obtain ⟨ad216, A216_0, c216_0, e216, hx216_0, hl216_0, hi216_0⟩ := at_L1 (Kd.V_reads' HO_204001.out).2.2 t213 p216 q216; obtain rfl : ad215 = ad216 := (by injection e216); obtain ⟨ce216, hce216, hMe216, hcc216⟩ := Kd.V_get HO_204001.out [] t213 p216 (by first | exact q216 | exact of_decide_eq_true (by first | (with_reducible assumption) | assumption) | (have e_ := (Kd.V_reads' HO_204001.out).1; omega)); obtain ⟨ua216_0, uc216_0, rfl, ul216_0, ge216_0⟩ := Kd.FK_slice_open hMe216; have hv216_0 := hcc216 0 _ rfl; rw [Nat.add_zero, show ((Kd.slice 4 Kd.bool)).sz = 1 from rfl, Nat.mul_one] at hv216_0; replace hv216_0 := Option.some.inj (hv216_0.symm.trans hx216_0); injection hv216_0 with hva_ hvn_ hvc_; rw [hva_] at ge216_0; rw [hvc_] at ul216_0; have HL216_0 := Aside0.mk (show Kd.V Kd.bool 4 _ w.heap.size _ _ (rd_L1 t207 t213) from Kd.V_mk ul216_0 ge216_0); clear hva_ hvn_ hvc_ ge216_0 ul216_0; clear hcc216 hce216; have HR216_0 := Aside0.mk hi216_0; have HC216_0 := Aside0.mk hl216_0; clear hi216_0 hl216_0; replace p216 := eq_true p216; replace q216 := eq_true q216; have ea_ := Option.some.inj (hx215_0.symm.trans hx216_0); injection ea_ with ea_ en_ ec_; subst ea_; subst ec_; clear en_; have p217 : 0 ≤ (t214 : Int) := of_decide_eq_true (by first | (with_reducible assumption) | assumption); have q217 : t214 < ((rd_L1 t207 t213).length : Int) := of_decide_eq_true (by first | (with_reducible assumption) | assumption); obtain ⟨ad217, e217, hx217_0⟩ := Kd.at_bool (by repeat (first | (with_reducible exact HR216_0.out) | (with_reducible refine Kd.C_alloc ?_ _) | (with_reducible refine Kd.C_drewN ?_ _) | (with_reducible refine Kd.C_drew ?_) | exact HR216_0.out)) t214 p217 q217; (try rw [← Nbq41.out] at hx217_0); cases e217; replace p217 := eq_true p217; replace q217 := eq_true q217))
                                          go_roundg k3
                                          case measure => have := HJ5.out; have := HK2.out; have := HK3.out; omega
                                          case rel => exact ⟨(wrap64 (x58_3 + 1)), (by first | rfl | (simp; done) | (simp [*]; done)), H', ⟨by have := HJ5.out; have := HK2.out; have := HK3.out; omega⟩, ⟨by (with_reducible repeat (first | apply Kd.V_alloc | apply Kd.V_drewN | apply Kd.V_drew)); exact HO_204001.out⟩, ⟨by (with_reducible repeat (first | refine blk_drewN ?_ _ | refine blk_drew ?_ | refine blk_alloc ?_ _)); exact BK203.out⟩, ⟨by repeat (first | (with_reducible first | exact HB.out | apply below_alloc | apply pw_below_drewN | apply below_drew1 | refine below_set ?_ GE203.out) | exact HB.out)⟩⟩
                                        · replace c42 := Bool.eq_false_iff.mpr c42
                                          subst c42
                                          have H1 : (some false) = some r := by rw [if_neg (show ¬ (false = true) by decide)] at H; exact H
                                          clear H
                                          have H := H1
                                          clear H1
                                          exact absurd ((Option.some.inj H).trans hrt.out) (by decide)
                                      · rw [if_neg c40] at H
                                        exact absurd H (by simp)
                                    · rw [if_neg c39] at H
                                      exact absurd H (by simp)
                                · rw [if_neg c37] at H
                                  exact absurd H (by simp)
                              · rw [if_neg c36] at H
                                exact absurd H (by simp)
                      · rw [if_neg c31] at H
                        exact absurd H (by simp)
                    · rw [if_neg c30] at H
                      exact absurd H (by simp)
                  · rw [if_neg c29] at H
                    have c29b0 : decide (x58_3 < (l3.length : Int)) = false := decide_eq_false c29
                    clear c29
                    by_cases c46 : x11_2 ≤ (l3.length : Int)
                    · rw [if_pos c46] at H
                      have c46b0 : decide (x11_2 ≤ (l3.length : Int)) = true := decide_eq_true c46
                      clear c46
                      by_cases c47 : ((x11_2 == 0) == ((l3.length : Int) == 0)) = true
                      · rw [if_pos c47] at H
                        have c47b0 : ((x11_2 == 0) == ((l3.length : Int) == 0)) = true := c47
                        (try (have c47b1 : decide ((x11_2 == 0) = ((l3.length : Int) == 0)) = true := by simpa using c47))
                        (try (have c47b2 : ((x11_2 == 0) == ((l3.length : Int) == 0)) = true := by simpa using c47))
                        clear c47
                        replace H := Option.bind_eq_some_iff.mp H
                        obtain ⟨t218, A480, H⟩ := H
                        replace H : (if ((t218 == 0) == ((l3.length : Int) == 0)) = true then ((rillmeterlaw13_awake.f k3).bind fun t219 => (some t219)) else (some false)) = some r := H
                        have A48 := Aside0.mk A480
                        clear A480
                        by_cases c49 : ((t218 == 0) == ((l3.length : Int) == 0)) = true
                        · rw [if_pos c49] at H
                          have c49b0 : ((t218 == 0) == ((l3.length : Int) == 0)) = true := c49
                          (try (have c49b1 : decide ((t218 == 0) = ((l3.length : Int) == 0)) = true := by simpa using c49))
                          (try (have c49b2 : ((t218 == 0) == ((l3.length : Int) == 0)) = true := by simpa using c49))
                          clear c49
                          replace H := Option.bind_eq_some_iff.mp H
                          obtain ⟨t219, A500, H⟩ := H
                          replace H : (some t219) = some r := H
                          have A50 := Aside0.mk A500
                          clear A500
                          obtain rfl := Option.some.inj H
                          have hcz51_0 : wr.cell? ⟨gb203, 0, none⟩ = some (.int .u64 t206) := (blk_cell BK203.out 0).trans rfl
                          have hcz51_1 : wr.cell? ⟨gb203, 1, none⟩ = some (.slice Ao20 t207.length co20) := (blk_cell BK203.out 1).trans rfl
                          have hfz51_0 := blk_frozen BK203.out 0
                          have hfz51_1 := blk_frozen BK203.out 1
                          go_wp2_with (first | (go_at_call 17; (with_reducible refine (bitmap_Estimate.calls k3 t206 _ _ t207 t218 _ ?side1 ?side2 A48.out).mono ?_); (case side1 => repeat (first | exact (Kd.V_reads' HO_204001.out).2.2 | (with_reducible refine Kd.C_alloc ?_ _) | (with_reducible refine Kd.C_drewN ?_ _) | (with_reducible refine Kd.C_drew ?_))); (case side2 => exact (Kd.V_reads' HO_204001.out).2.1); rintro e w52 ⟨rfl, hb⟩; have n0_ := Aside0.mk (Kd.V_below (by (with_reducible repeat (first | apply Kd.V_alloc | apply Kd.V_drewN | apply Kd.V_drew)); exact HO_204001.out) hb); have n1_ := Aside0.mk (blk_below (g := gb203) (o := .cells #[.int .u64 t206, .slice Ao20 t207.length co20] 25 (0, 0)) (by (with_reducible repeat (first | refine blk_drewN ?_ _ | refine blk_drew ?_ | refine blk_alloc ?_ _)); exact BK203.out) hb); have n2_ := Aside0.mk (below_step (by repeat (first | (with_reducible first | exact HB.out | apply below_alloc | apply pw_below_drewN | apply below_drew1 | refine below_set ?_ GE203.out) | exact HB.out)) hb); clear HO_204001; clear BK203; clear HB; have HO_204001 := n0_; have BK203 := n1_; have HB := n2_; clear n0_ n1_ n2_; (try clear hb); (try clear hb2); (try clear hk); (try clear hi)) | (go_at_call 11; (with_reducible refine (rillmeterlaw13_awake.calls k3  t219 _ A50.out ⟨tb_ HT0 HB⟩).mono ?_); rintro e w53 ⟨rfl, hb⟩; have n0_ := Aside0.mk (Kd.V_below (by (with_reducible repeat (first | apply Kd.V_alloc | apply Kd.V_drewN | apply Kd.V_drew)); exact HO_204001.out) hb); have n1_ := Aside0.mk (blk_below (g := gb203) (o := .cells #[.int .u64 t206, .slice Ao20 t207.length co20] 25 (0, 0)) (by (with_reducible repeat (first | refine blk_drewN ?_ _ | refine blk_drew ?_ | refine blk_alloc ?_ _)); exact BK203.out) hb); have n2_ := Aside0.mk (below_step (by repeat (first | (with_reducible first | exact HB.out | apply below_alloc | apply pw_below_drewN | apply below_drew1 | refine below_set ?_ GE203.out) | exact HB.out)) hb); clear HO_204001; clear BK203; clear HB; have HO_204001 := n0_; have BK203 := n1_; have HB := n2_; clear n0_ n1_ n2_; (try clear hb); (try clear hb2); (try clear hk); (try clear hi)))
                          go_ret
                          exact ⟨by first | rfl | (simp [errW_none, errW_some] <;> rfl) | (simp [*, errW_none, errW_some] <;> rfl), by repeat (first | (with_reducible first | exact HB.out | apply below_alloc | apply pw_below_drewN | apply below_drew1 | refine below_set ?_ GE203.out) | exact HB.out)⟩
                        · rw [if_neg c49] at H
                          have c49b0 : ((t218 == 0) == ((l3.length : Int) == 0)) = false := by simpa using c49
                          (try (have c49b1 : decide ((t218 == 0) = ((l3.length : Int) == 0)) = false := by simpa using c49))
                          (try (have c49b2 : ((t218 == 0) == ((l3.length : Int) == 0)) = false := by simpa using c49))
                          (try (have c49b3 : ¬ ((t218 == 0) = ((l3.length : Int) == 0)) := by simpa using c49))
                          clear c49
                          exact absurd ((Option.some.inj H).trans hrt.out) (by decide)
                      · rw [if_neg c47] at H
                        have c47b0 : ((x11_2 == 0) == ((l3.length : Int) == 0)) = false := by simpa using c47
                        (try (have c47b1 : decide ((x11_2 == 0) = ((l3.length : Int) == 0)) = false := by simpa using c47))
                        (try (have c47b2 : ((x11_2 == 0) == ((l3.length : Int) == 0)) = false := by simpa using c47))
                        (try (have c47b3 : ¬ ((x11_2 == 0) = ((l3.length : Int) == 0)) := by simpa using c47))
                        clear c47
                        exact absurd ((Option.some.inj H).trans hrt.out) (by decide)
                    · rw [if_neg c46] at H
                      have c46b0 : decide (x11_2 ≤ (l3.length : Int)) = false := decide_eq_false c46
                      clear c46
                      exact absurd ((Option.some.inj H).trans hrt.out) (by decide)

end Go.Proofs.YteakbghjhckoeaaDoor.PBitmapSets
