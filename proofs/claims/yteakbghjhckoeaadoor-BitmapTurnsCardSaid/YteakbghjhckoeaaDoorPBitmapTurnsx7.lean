/- The functions that a law uses, each as a plain function, with the proof that a call of the Go function comes to its answer. Condition of each: the arguments read as the data that it names, and the plain function has an answer. Written by a program of this session (standin.py). -/
import Derived.Test.YteakbghjhckoeaaDoorPBitmapTurnsx0
import Derived.Test.YteakbghjhckoeaaDoorPBitmapTurnsx6
namespace Go.Proofs.YteakbghjhckoeaaDoor.PBitmapTurns
open Go.RowKit Go.Proofs.YteakbghjhckoeaaDoorW.PrintWords Go.Proofs.YteakbghjhckoeaaDoorW.PrintLast Go.Proofs.YteakbghjhckoeaaDoorW.PrintMore
attribute [local go_sem] max2_int min2_int max_two min_two max_three min_three max_four min_four   -- for this text's walks alone
set_option linter.unusedVariables false
set_option linter.unusedSimpArgs false

/-! ### rillmeterref13_Add: function 19 -/
mutual
def rillmeterref13_Add.l0 : Nat → Int → Int → List (List Bool) → Int → Int → List (List Bool) → Option (Int × (List (List Bool)))
  | 0, _, _, _, _, _, _ => none
  | k + 1, x5, x6, x7, x8, x240000, x240001 => if x8 < (x240001.length : Int) then (rillmeterref13_Add.l1 k x5 x6 x7 x8 ([] : List Bool) 0 x240000 x240001) else (some (x240000, x7))
def rillmeterref13_Add.l1 : Nat → Int → Int → List (List Bool) → Int → List Bool → Int → Int → List (List Bool) → Option (Int × (List (List Bool)))
  | 0, _, _, _, _, _, _, _, _ => none
  | k + 1, x5, x6, x7, x8, x9, x10, x240000, x240001 => if 0 ≤ x8 then (if x8 < (x240001.length : Int) then (if x10 < ((rd_L1 x240001 x8).length : Int) then (if 0 ≤ x10 then (if rdOf false (rd_L1 x240001 x8) x10 = true then (if x9.length < 140737488355328 then (rillmeterref13_Add.l1 k x5 x6 x7 x8 (x9 ++ [true]) (wrap64 (x10 + 1)) x240000 x240001) else (none)) else (if x8 = x5 then (if x9.length < 140737488355328 then (rillmeterref13_Add.l1 k x5 x6 x7 x8 (x9 ++ [(x10 == x6)]) (wrap64 (x10 + 1)) x240000 x240001) else (none)) else (if x9.length < 140737488355328 then (rillmeterref13_Add.l1 k x5 x6 x7 x8 (x9 ++ [false]) (wrap64 (x10 + 1)) x240000 x240001) else (none)))) else (none)) else (if x7.length < 5864062014805 then (rillmeterref13_Add.l0 k x5 x6 (x7 ++ [x9]) (wrap64 (x8 + 1)) x240000 x240001) else (none))) else (none)) else (none)
end
def rillmeterref13_Add.f (k : Nat) (a0_0 : Int) (l0_1 : List (List Bool)) (a1 : ByteArray) : Option (Int × (List (List Bool))) := (rillmeterref13_Place.f k a0_0 l0_1 a1).bind fun bt241 => (rillmeterref13_Add.l0 k bt241.1 bt241.2 ([] : List (List Bool)) 0 a0_0 l0_1)
theorem rillmeterref13_Add.mono_l : ∀ k, (∀ y0 y1 y2 y3 y4 y5, LeO (rillmeterref13_Add.l0 k y0 y1 y2 y3 y4 y5) (rillmeterref13_Add.l0 (k + 1) y0 y1 y2 y3 y4 y5)) ∧ (∀ y0 y1 y2 y3 y4 y5 y6 y7, LeO (rillmeterref13_Add.l1 k y0 y1 y2 y3 y4 y5 y6 y7) (rillmeterref13_Add.l1 (k + 1) y0 y1 y2 y3 y4 y5 y6 y7))
  | 0 => ⟨fun _ _ _ _ _ _ r h => by simp [rillmeterref13_Add.l0] at h, fun _ _ _ _ _ _ _ _ r h => by simp [rillmeterref13_Add.l1] at h⟩
  | k + 1 => by
    obtain ⟨ih0, ih1⟩ := rillmeterref13_Add.mono_l k
    refine ⟨?_, ?_⟩
    · intro y0 y1 y2 y3 y4 y5
      unfold rillmeterref13_Add.l0
      repeat' first
      | (with_reducible exact ih0 _ _ _ _ _ _)
      | (with_reducible exact ih1 _ _ _ _ _ _ _ _)
      | (with_reducible exact rillmeterref13_Place.mono _ _ _ _)
      | (with_reducible exact LeO.refl _)
      | (with_reducible exact LeO.none _)
      | (with_reducible refine LeO.ite ?_ ?_)
      | (with_reducible refine LeO.bind ?_ (fun _ => ?_))
      | exact ih0 _ _ _ _ _ _
      | exact ih1 _ _ _ _ _ _ _ _
      | exact rillmeterref13_Place.mono _ _ _ _
      | exact LeO.none _
      | refine LeO.ite ?_ ?_
      | refine LeO.bind ?_ (fun _ => ?_)
    · intro y0 y1 y2 y3 y4 y5 y6 y7
      unfold rillmeterref13_Add.l1
      repeat' first
      | (with_reducible exact ih0 _ _ _ _ _ _)
      | (with_reducible exact ih1 _ _ _ _ _ _ _ _)
      | (with_reducible exact rillmeterref13_Place.mono _ _ _ _)
      | (with_reducible exact LeO.refl _)
      | (with_reducible exact LeO.none _)
      | (with_reducible refine LeO.ite ?_ ?_)
      | (with_reducible refine LeO.bind ?_ (fun _ => ?_))
      | exact ih0 _ _ _ _ _ _
      | exact ih1 _ _ _ _ _ _ _ _
      | exact rillmeterref13_Place.mono _ _ _ _
      | exact LeO.none _
      | refine LeO.ite ?_ ?_
      | refine LeO.bind ?_ (fun _ => ?_)
theorem rillmeterref13_Add.mono : ∀ a0 a1 a2 k, LeO (rillmeterref13_Add.f k a0 a1 a2) (rillmeterref13_Add.f (k + 1) a0 a1 a2) := by
  intro a0 a1 a2 k
  obtain ⟨ih0, ih1⟩ := rillmeterref13_Add.mono_l k
  unfold rillmeterref13_Add.f
  repeat' first
      | (with_reducible exact ih0 _ _ _ _ _ _)
      | (with_reducible exact ih1 _ _ _ _ _ _ _ _)
      | (with_reducible exact rillmeterref13_Place.mono _ _ _ _)
      | (with_reducible exact LeO.refl _)
      | (with_reducible exact LeO.none _)
      | (with_reducible refine LeO.ite ?_ ?_)
      | (with_reducible refine LeO.bind ?_ (fun _ => ?_))
      | exact ih0 _ _ _ _ _ _
      | exact ih1 _ _ _ _ _ _ _ _
      | exact rillmeterref13_Place.mono _ _ _ _
      | exact LeO.none _
      | refine LeO.ite ?_ ?_
      | refine LeO.bind ?_ (fun _ => ?_)
set_option maxHeartbeats 8000000 in
set_option maxRecDepth 100000 in
theorem rillmeterref13_Add.calls (k : Nat) (a0_0 : Int) (A0_1 : Option Addr) (c0_1 : Nat) (l0_1 : List (List Bool)) (a1 : ByteArray) (r1 : Int) (r2 : List (List Bool)) (w : World) (hr0_1 : Kd.C (Kd.slice 4 Kd.bool) w A0_1 l0_1.length l0_1) (hc0_1 : l0_1.length ≤ c0_1) (h : rillmeterref13_Add.f k a0_0 l0_1 a1 = some (r1, r2)) :
    Calls Tryd.prog 19 #[.agg #[.int .u64 a0_0, .slice A0_1 l0_1.length c0_1], .string a1] w fun e w' => ∃ v1_ : Value, e = .returned (.agg #[.int .u64 r1, v1_]) ∧ Kd.S (Kd.slice 4 Kd.bool) 33 w' w.heap.size (fun _ => True) v1_ r2 ∧ Below w.heap.size w w' := by
  have hu30 := Tryd.underlying30
  have HR0_1 := Aside0.mk hr0_1
  have HC0_1 := Aside0.mk hc0_1
  clear hr0_1 hc0_1
  have HB := Aside0.mk (Below.refl w.heap.size w)
  have H : ((rillmeterref13_Place.f k a0_0 l0_1 a1).bind fun bt241 => (rillmeterref13_Add.l0 k bt241.1 bt241.2 ([] : List (List Bool)) 0 a0_0 l0_1)) = some (r1, r2) := h
  clear h
  replace H := Option.bind_eq_some_iff.mp H
  obtain ⟨⟨t241, t242⟩, A30, H⟩ := H
  replace H : (rillmeterref13_Add.l0 k t241 t242 ([] : List (List Bool)) 0 a0_0 l0_1) = some (r1, r2) := H
  have A3 := Aside0.mk A30
  clear A30
  have H' := Aside0.mk H
  clear H
  go_enter Tryd.func19, Tryd.ntmps19
  go_wp2_with (first | ((with_reducible refine gate_dst (N := 2) rfl ?_); refine box_event ?hg (N := 2) ?hd (cs := #[.int .u64 a0_0, .slice A0_1 l0_1.length c0_1]) (t := 30) ?hr ?_; (case hd => rfl); (case hg => rfl); (case hr => first | (go_simp; done) | (go_simp; rfl)); intro gb239 hg w4 hbox hb; have n0_ := Aside0.mk (below_step (by repeat (first | (with_reducible first | exact HB.out | apply below_alloc | apply pw_below_drewN | apply below_drew1) | exact HB.out)) hb); have n1_ := Aside0.mk (hbox); have n2_ := Aside0.mk ((by rw [hg]; exact (below_size (by repeat (first | (with_reducible first | exact HB.out | apply below_alloc | apply pw_below_drewN | apply below_drew1) | exact HB.out))) : w.heap.size ≤ gb239)); have n3_ := Aside0.mk ((by rw [hg]; exact (below_size (by repeat (first | (with_reducible first | exact HB.out | apply below_alloc | apply pw_below_drewN | apply below_drew1) | exact HB.out))) : w.heap.size ≤ gb239)); clear HB; have HB := n0_; have BK239 := n1_; have GW239 := n2_; have GE239 := n3_; clear n0_ n1_ n2_ n3_; clear hb hbox hg) | ((with_reducible refine gate_dst (N := 4) rfl ?_); refine box_event ?hg (N := 4) ?hd (cs := #[.int .u64 0, .slice none 0 0]) (t := 30) ?hr ?_; (case hd => rfl); (case hg => rfl); (case hr => first | (go_simp; done) | (go_simp; rfl)); intro gb240 hg w5 hbox hb; have n0_ := Aside0.mk (blk_below (g := gb239) (o := .cells #[.int .u64 a0_0, .slice A0_1 l0_1.length c0_1] 30 (0, 0)) (by (with_reducible repeat (first | refine blk_drewN ?_ _ | refine blk_drew ?_ | refine blk_alloc ?_ _)); exact BK239.out) hb); have n1_ := Aside0.mk (below_step (by repeat (first | (with_reducible first | exact HB.out | apply below_alloc | apply pw_below_drewN | apply below_drew1 | refine below_set ?_ GE239.out) | exact HB.out)) hb); have n2_ := Aside0.mk (hbox); have n3_ := Aside0.mk ((by rw [hg]; exact (below_size (by repeat (first | (with_reducible first | exact HB.out | apply below_alloc | apply pw_below_drewN | apply below_drew1 | refine below_set ?_ GE239.out) | exact HB.out))) : w.heap.size ≤ gb240)); have n4_ := Aside0.mk ((by rw [hg]; exact (below_size (by repeat (first | (with_reducible first | exact HB.out | apply below_alloc | apply pw_below_drewN | apply below_drew1 | refine below_set ?_ GE239.out) | exact HB.out))) : w.heap.size ≤ gb240)); have n5_ := Aside0.mk ((by rw [hg]; exact Nat.ne_of_lt (blk_lt (g := gb239) (o := .cells #[.int .u64 a0_0, .slice A0_1 l0_1.length c0_1] 30 (0, 0)) (by (with_reducible repeat (first | refine blk_drewN ?_ _ | refine blk_drew ?_ | refine blk_alloc ?_ _)); exact BK239.out)) : gb239 ≠ gb240)); have n6_ := Aside0.mk ((by rw [hg]; exact Nat.ne_of_gt (blk_lt (g := gb239) (o := .cells #[.int .u64 a0_0, .slice A0_1 l0_1.length c0_1] 30 (0, 0)) (by (with_reducible repeat (first | refine blk_drewN ?_ _ | refine blk_drew ?_ | refine blk_alloc ?_ _)); exact BK239.out)) : gb240 ≠ gb239)); clear BK239; clear HB; have BK239 := n0_; have HB := n1_; have BK240 := n2_; have GW240 := n3_; have GE240 := n4_; have NB239_240 := n5_; have NB240_239 := n6_; clear n0_ n1_ n2_ n3_ n4_ n5_ n6_; clear hb hbox hg; have hnb6 := NB239_240.out; have hnc6 := NB240_239.out; have hcz7_0 : w5.cell? ⟨gb239, 0, none⟩ = some (.int .u64 a0_0) := (blk_cell BK239.out 0).trans rfl; have hcz7_1 : w5.cell? ⟨gb239, 1, none⟩ = some (.slice A0_1 l0_1.length c0_1) := (blk_cell BK239.out 1).trans rfl; have hfz7_0 := blk_frozen BK239.out 0; have hfz7_1 := blk_frozen BK239.out 1) | ((with_reducible refine gate_callee (f := 18) rfl ?_); refine goesL_ (some 14) rfl rfl Tryd.func18 (by kernel_rfl) rfl #[.agg #[.int .u64 a0_0, .slice A0_1 l0_1.length c0_1], .string a1] rfl (by (try simp only [List.map_toArray, List.map_cons, List.map_nil]); first | done | rfl | (simp only [List.length_drop, List.length_take]; rfl)) ?_; (with_reducible refine (rillmeterref13_Place.calls k a0_0 _ _ l0_1 a1 t241 t242 _ ?side1 ?side2 A3.out).mono ?_); (case side1 => repeat (first | exact (Kd.C_below HR0_1.out HB.out) | (with_reducible refine Kd.C_alloc ?_ _) | (with_reducible refine Kd.C_drewN ?_ _) | (with_reducible refine Kd.C_drew ?_))); (case side2 => exact HC0_1.out); rintro e w8 ⟨rfl, hb⟩; refine ⟨_, rfl, ?_⟩; have n0_ := Aside0.mk (blk_below (g := gb239) (o := .cells #[.int .u64 a0_0, .slice A0_1 l0_1.length c0_1] 30 (0, 0)) (by (with_reducible repeat (first | refine blk_drewN ?_ _ | refine blk_drew ?_ | refine blk_alloc ?_ _)); exact BK239.out) hb); have n1_ := Aside0.mk (blk_below (g := gb240) (o := .cells #[.int .u64 0, .slice none 0 0] 30 (0, 0)) (by (with_reducible repeat (first | refine blk_drewN ?_ _ | refine blk_drew ?_ | refine blk_alloc ?_ _)); exact BK240.out) hb); have n2_ := Aside0.mk (below_step (by repeat (first | (with_reducible first | exact HB.out | apply below_alloc | apply pw_below_drewN | apply below_drew1 | refine below_set ?_ GE239.out | refine below_set ?_ GE240.out) | exact HB.out)) hb); clear BK239; clear BK240; clear HB; have BK239 := n0_; have BK240 := n1_; have HB := n2_; clear n0_ n1_ n2_; (try clear hb); (try clear hb2); (try clear hk); (try clear hi)))
  go_loopg [7, 8] k (fun kq v7 v8 w' => ∃ (x7_1 : List (List Bool)) (x8_1 : Int), v8 = .int .i64 x8_1 ∧ Aside0 (rillmeterref13_Add.l0 kq t241 t242 x7_1 x8_1 a0_0 l0_1 = some (r1, r2)) ∧ Aside0 (kq ≤ k) ∧ Aside0 (Kd.S (Kd.slice 4 Kd.bool) 33 w' w.heap.size (fun _ => True) v7 x7_1) ∧ Aside0 (w'.heap[gb239]? = some (.cells #[.int .u64 a0_0, (.slice A0_1 l0_1.length c0_1)] 30 (0, 0))) ∧ Aside0 (w'.heap[gb240]? = some (.cells #[.int .u64 0, (.slice none 0 0)] 30 (0, 0))) ∧ Aside0 (Below w.heap.size w w'))
  case atStart => exact ⟨(([] : List (List Bool))), (0), (by first | rfl | (simp; done) | (simp [*]; done)), H', ⟨Nat.le_refl _⟩, ⟨by first | exact Kd.S_nil _ _ _ _ _ | exact Kd.N_nil _ _ _ _ _ | exact Kd.V_nil _ _ _ _ _ | exact Kd.Q_nil _ _ _ _ _ | exact Kd.R_nil _ _ _ _ _⟩, ⟨by (with_reducible repeat (first | refine blk_drewN ?_ _ | refine blk_drew ?_ | refine blk_alloc ?_ _)); exact BK239.out⟩, ⟨by (with_reducible repeat (first | refine blk_drewN ?_ _ | refine blk_drew ?_ | refine blk_alloc ?_ _)); exact BK240.out⟩, ⟨by repeat (first | (with_reducible first | exact HB.out | apply below_alloc | apply pw_below_drewN | apply below_drew1 | refine below_set ?_ GE239.out | refine below_set ?_ GE240.out) | exact HB.out)⟩⟩
  case round =>
    clear H'
    try clear c1
    try clear p2
    try clear c6
    try clear hcz7_0
    try clear hcz7_1
    try clear hfz7_0
    try clear hfz7_1
    obtain ⟨x7_1, x8_1, rfl, HA, HK1, HO_7, BK239, BK240, HB⟩ := hrel
    cases gk with
    | zero => exact absurd HA.out (by simp [rillmeterref13_Add.l0])
    | succ k1 =>
      have H := HA.out
      clear HA
      simp only [rillmeterref13_Add.l0] at H
      by_cases c9 : x8_1 < (l0_1.length : Int)
      · rw [if_pos c9] at H
        have c9b0 : decide (x8_1 < (l0_1.length : Int)) = true := decide_eq_true c9
        clear c9
        have H' := Aside0.mk H
        clear H
        have hnb10 := NB239_240.out
        have hnc10 := NB240_239.out
        have hcz11_0 : wr.cell? ⟨gb239, 0, none⟩ = some (.int .u64 a0_0) := (blk_cell BK239.out 0).trans rfl
        have hcz11_1 : wr.cell? ⟨gb239, 1, none⟩ = some (.slice A0_1 l0_1.length c0_1) := (blk_cell BK239.out 1).trans rfl
        have hfz11_0 := blk_frozen BK239.out 0
        have hfz11_1 := blk_frozen BK239.out 1
        go_wp2
        go_loopg [9, 10] k1 (fun kq v9 v10 w' => ∃ (x9_2 : List Bool) (x10_2 : Int), v10 = .int .i64 x10_2 ∧ Aside0 (rillmeterref13_Add.l1 kq t241 t242 x7_1 x8_1 x9_2 x10_2 a0_0 l0_1 = some (r1, r2)) ∧ Aside0 (kq ≤ k1) ∧ Aside0 (Kd.S (Kd.slice 4 Kd.bool) 33 w' w.heap.size (fun k_ => some k_ ≠ (v9 : Value).ownBlock) u7 x7_1) ∧ Aside0 (Kd.R Kd.bool 4 w' w.heap.size (fun _ => True) v9 x9_2) ∧ Aside0 (w'.heap[gb239]? = some (.cells #[.int .u64 a0_0, (.slice A0_1 l0_1.length c0_1)] 30 (0, 0))) ∧ Aside0 (w'.heap[gb240]? = some (.cells #[.int .u64 0, (.slice none 0 0)] 30 (0, 0))) ∧ Aside0 (Below w.heap.size w w'))
        case atStart => exact ⟨(([] : List Bool)), (0), (by first | rfl | (simp; done) | (simp [*]; done)), H', ⟨Nat.le_refl _⟩, ⟨by (with_reducible repeat (first | apply Kd.S_alloc | apply Kd.S_drewN | apply Kd.S_drew)); exact Kd.S_mono HO_7.out (fun _ hk => (by simp [Value.ownBlock]))⟩, ⟨by first | exact Kd.R_nil _ _ _ _ _ | exact Kd.N_nil _ _ _ _ _ | exact Kd.V_nil _ _ _ _ _ | exact Kd.Q_nil _ _ _ _ _ | exact Kd.S_nil _ _ _ _ _⟩, ⟨by (with_reducible repeat (first | refine blk_drewN ?_ _ | refine blk_drew ?_ | refine blk_alloc ?_ _)); exact BK239.out⟩, ⟨by (with_reducible repeat (first | refine blk_drewN ?_ _ | refine blk_drew ?_ | refine blk_alloc ?_ _)); exact BK240.out⟩, ⟨by repeat (first | (with_reducible first | exact HB.out | apply below_alloc | apply pw_below_drewN | apply below_drew1 | refine below_set ?_ GE239.out | refine below_set ?_ GE240.out) | exact HB.out)⟩⟩
        case round =>
          clear H'
          try clear c1
          try clear p2
          try clear c6
          try clear c9
          try clear c9b0
          try clear c10
          try clear hcz11_0
          try clear hcz11_1
          try clear hcz7_0
          try clear hcz7_1
          try clear hfz11_0
          try clear hfz11_1
          try clear hfz7_0
          try clear hfz7_1
          try clear p2
          obtain ⟨x9_2, x10_2, rfl, HA, HK2, HO_7, HO_9, BK239, BK240, HB⟩ := hrel
          cases gk with
          | zero => exact absurd HA.out (by simp [rillmeterref13_Add.l1])
          | succ k2 =>
            have H := HA.out
            clear HA
            simp only [rillmeterref13_Add.l1] at H
            by_cases c12 : 0 ≤ x8_1
            · rw [if_pos c12] at H
              have c12b0 : decide (0 ≤ x8_1) = true := decide_eq_true c12
              clear c12
              by_cases c13 : x8_1 < (l0_1.length : Int)
              · rw [if_pos c13] at H
                have c13b0 : decide (x8_1 < (l0_1.length : Int)) = true := decide_eq_true c13
                clear c13
                by_cases c14 : x10_2 < ((rd_L1 l0_1 x8_1).length : Int)
                · rw [if_pos c14] at H
                  have c14b0 : decide (x10_2 < ((rd_L1 l0_1 x8_1).length : Int)) = true := decide_eq_true c14
                  clear c14
                  by_cases c15 : 0 ≤ x10_2
                  · rw [if_pos c15] at H
                    have c15b0 : decide (0 ≤ x10_2) = true := decide_eq_true c15
                    clear c15
                    obtain ⟨bq16, hbq16⟩ : ∃ b_ : Bool, b_ = (rdOf false (rd_L1 l0_1 x8_1) x10_2) := ⟨_, rfl⟩
                    replace H : (if bq16 = true then (if x9_2.length < 140737488355328 then (rillmeterref13_Add.l1 k2 t241 t242 x7_1 x8_1 (x9_2 ++ [true]) (wrap64 (x10_2 + 1)) a0_0 l0_1) else (none)) else (if x8_1 = t241 then (if x9_2.length < 140737488355328 then (rillmeterref13_Add.l1 k2 t241 t242 x7_1 x8_1 (x9_2 ++ [(x10_2 == t242)]) (wrap64 (x10_2 + 1)) a0_0 l0_1) else (none)) else (if x9_2.length < 140737488355328 then (rillmeterref13_Add.l1 k2 t241 t242 x7_1 x8_1 (x9_2 ++ [false]) (wrap64 (x10_2 + 1)) a0_0 l0_1) else (none)))) = some (r1, r2) := by rw [← hbq16] at H; exact H
                    have Nbq16 := Aside0.mk hbq16
                    clear hbq16
                    by_cases c17 : bq16 = true
                    · subst c17
                      have H1 : (if x9_2.length < 140737488355328 then (rillmeterref13_Add.l1 k2 t241 t242 x7_1 x8_1 (x9_2 ++ [true]) (wrap64 (x10_2 + 1)) a0_0 l0_1) else (none)) = some (r1, r2) := by rw [if_pos rfl] at H; exact H
                      clear H
                      have H := H1
                      clear H1
                      by_cases c18 : x9_2.length < 140737488355328
                      · rw [if_pos c18] at H
                        have LMc18 := Aside0.mk c18
                        clear c18
                        obtain ⟨y246, hy246⟩ : ∃ y_ : List Bool, y_ = (x9_2 ++ [true]) := ⟨_, rfl⟩
                        replace H : (rillmeterref13_Add.l1 k2 t241 t242 x7_1 x8_1 y246 (wrap64 (x10_2 + 1)) a0_0 l0_1) = some (r1, r2) := by first | (rw [hy246]; with_reducible exact H) | (have H2_ := (Option.bind_some _ _).symm.trans H; rw [hy246]; with_reducible exact H2_) | (have H2_ := (Option.bind_some _ _).symm.trans H; with_reducible exact H2_) | with_reducible exact H | (rw [hy246]; exact H) | exact H
                        have Ny246 := Aside0.mk hy246
                        clear hy246
                        have H' := Aside0.mk H
                        clear H
                        have hnb19 := NB239_240.out
                        have hnc19 := NB240_239.out
                        have hcz20_0 : wr.cell? ⟨gb239, 0, none⟩ = some (.int .u64 a0_0) := (blk_cell BK239.out 0).trans rfl
                        have hcz20_1 : wr.cell? ⟨gb239, 1, none⟩ = some (.slice A0_1 l0_1.length c0_1) := (blk_cell BK239.out 1).trans rfl
                        have hfz20_0 := blk_frozen BK239.out 0
                        have hfz20_1 := blk_frozen BK239.out 1
                        have p243 : 0 ≤ (x8_1 : Int) := of_decide_eq_true (by first | (with_reducible assumption) | assumption)
                        have q243 : x8_1 < (l0_1.length : Int) := of_decide_eq_true (by first | (with_reducible assumption) | assumption)
                        obtain ⟨ad243, A243_0, c243_0, e243, hx243_0, hl243_0, hi243_0⟩ := at_L1 HR0_1.out x8_1 p243 q243
                        cases e243
                        replace hx243_0 := (HB.out.cell (World.block_lt_of_cell? w _ hx243_0)).trans hx243_0
                        have HR243_0 := Aside0.mk hi243_0
                        have HC243_0 := Aside0.mk hl243_0
                        clear hi243_0 hl243_0
                        replace p243 := eq_true p243
                        replace q243 := eq_true q243
                        have p244 : 0 ≤ (x8_1 : Int) := of_decide_eq_true (by first | (with_reducible assumption) | assumption)
                        have q244 : x8_1 < (l0_1.length : Int) := of_decide_eq_true (by first | (with_reducible assumption) | assumption)
                        obtain ⟨ad244, A244_0, c244_0, e244, hx244_0, hl244_0, hi244_0⟩ := at_L1 HR0_1.out x8_1 p244 q244
                        obtain rfl : ad243 = ad244 := (by injection e244)
                        replace hx244_0 := (HB.out.cell (World.block_lt_of_cell? w _ hx244_0)).trans hx244_0
                        have HR244_0 := Aside0.mk hi244_0
                        have HC244_0 := Aside0.mk hl244_0
                        clear hi244_0 hl244_0
                        replace p244 := eq_true p244
                        replace q244 := eq_true q244
                        have ea_ := Option.some.inj (hx243_0.symm.trans hx244_0)
                        injection ea_ with ea_ en_ ec_
                        subst ea_
                        subst ec_
                        clear en_
                        have p245 : 0 ≤ (x10_2 : Int) := of_decide_eq_true (by first | (with_reducible assumption) | assumption)
                        have q245 : x10_2 < ((rd_L1 l0_1 x8_1).length : Int) := of_decide_eq_true (by first | (with_reducible assumption) | assumption)
                        obtain ⟨ad245, e245, hx245_0⟩ := Kd.at_bool HR244_0.out x10_2 p245 q245
                        (try rw [← Nbq16.out] at hx245_0)
                        cases e245
                        replace hx245_0 := (HB.out.cell (World.block_lt_of_cell? w _ hx245_0)).trans hx245_0
                        replace p245 := eq_true p245
                        replace q245 := eq_true q245
                        go_wp2_with (first | ((with_reducible refine gate_builtin (b := .append) (xs := #[.tmp 34, .tmp 53]) rfl ?_); at_builtin; refine Kd.R_append Kd.bool (w0 := w) w.heap.size rfl (.tmp 34) (.tmp 53) 33 4 (.bool false) 1 rfl Tryd.underlying33 info4 rfl (by decide) (by omega) u9 x9_2 true [.bool true] (fun _ => True) (fun _ => False) rfl rfl ?aP (fun _ hk => hk.elim) ?aF ?aO ?aB ?aS ?aL ?_; (case aP => exact rfl); (case aB => exact (by repeat (first | (with_reducible first | exact HB.out | apply below_alloc | apply pw_below_drewN | apply below_drew1 | refine below_set ?_ GE239.out | refine below_set ?_ GE240.out) | exact HB.out))); (case aF => exact (fun _ _ => trivial)); (case aO => exact (by (with_reducible repeat (first | apply Kd.R_alloc | apply Kd.R_drewN | apply Kd.R_drew)); exact HO_9.out)); (case aS => exact (below_size (by repeat (first | (with_reducible first | exact HB.out | apply below_alloc | apply pw_below_drewN | apply below_drew1 | refine below_set ?_ GE239.out | refine below_set ?_ GE240.out) | exact HB.out)))); (case aL => have := LMc18.out; omega); intro v247 w21 ho hb hg hat; rw [← Ny246.out] at ho; have n0_ := Aside0.mk (Kd.S_after (ok := (fun _ => True)) (by (with_reducible repeat (first | apply Kd.S_alloc | apply Kd.S_drewN | apply Kd.S_drew)); exact Kd.S_mono HO_7.out (fun _ hk => ⟨trivial, hk⟩)) hg hat); have n1_ := Aside0.mk (blk_grown (g := gb239) (o := .cells #[.int .u64 a0_0, .slice (some ad243) l0_1.length c0_1] 30 (0, 0)) (by (with_reducible repeat (first | refine blk_drewN ?_ _ | refine blk_drew ?_ | refine blk_alloc ?_ _)); exact BK239.out) hg (Kd.R_ne HO_9.out BK239.out (by decide))); have n2_ := Aside0.mk (blk_grown (g := gb240) (o := .cells #[.int .u64 0, .slice none 0 0] 30 (0, 0)) (by (with_reducible repeat (first | refine blk_drewN ?_ _ | refine blk_drew ?_ | refine blk_alloc ?_ _)); exact BK240.out) hg (Kd.R_ne HO_9.out BK240.out (by decide))); have n3_ := Aside0.mk (hb); have n4_ := Aside0.mk (ho); clear HO_7; clear BK239; clear BK240; clear HB; clear HO_9; have HO_7 := n0_; have BK239 := n1_; have BK240 := n2_; have HB := n3_; have HO248 := n4_; clear n0_ n1_ n2_ n3_ n4_; clear ho hb hg hat))
                        go_roundg k2
                        case measure => have := HK1.out; have := HK2.out; omega
                        case rel => exact ⟨(y246), (wrap64 (x10_2 + 1)), (by first | rfl | (simp; done) | (simp [*]; done)), H', ⟨by have := HK1.out; have := HK2.out; omega⟩, ⟨by (with_reducible repeat (first | apply Kd.S_alloc | apply Kd.S_drewN | apply Kd.S_drew)); exact Kd.S_mono HO_7.out (fun _ hk => hk.2)⟩, ⟨by (with_reducible repeat (first | apply Kd.R_alloc | apply Kd.R_drewN | apply Kd.R_drew)); exact HO248.out⟩, ⟨by (with_reducible repeat (first | refine blk_drewN ?_ _ | refine blk_drew ?_ | refine blk_alloc ?_ _)); exact BK239.out⟩, ⟨by (with_reducible repeat (first | refine blk_drewN ?_ _ | refine blk_drew ?_ | refine blk_alloc ?_ _)); exact BK240.out⟩, ⟨by repeat (first | (with_reducible first | exact HB.out | apply below_alloc | apply pw_below_drewN | apply below_drew1 | refine below_set ?_ GE239.out | refine below_set ?_ GE240.out) | exact HB.out)⟩⟩
                      · rw [if_neg c18] at H
                        exact absurd H (by simp)
                    · replace c17 := Bool.eq_false_iff.mpr c17
                      subst c17
                      have H1 : (if x8_1 = t241 then (if x9_2.length < 140737488355328 then (rillmeterref13_Add.l1 k2 t241 t242 x7_1 x8_1 (x9_2 ++ [(x10_2 == t242)]) (wrap64 (x10_2 + 1)) a0_0 l0_1) else (none)) else (if x9_2.length < 140737488355328 then (rillmeterref13_Add.l1 k2 t241 t242 x7_1 x8_1 (x9_2 ++ [false]) (wrap64 (x10_2 + 1)) a0_0 l0_1) else (none))) = some (r1, r2) := by rw [if_neg (show ¬ (false = true) by decide)] at H; exact H
                      clear H
                      have H := H1
                      clear H1
                      by_cases c22 : x8_1 = t241
                      · rw [if_pos c22] at H
                        have c22b0 : (x8_1 == t241) = true := beq_iff_eq.mpr c22
                        have c22b1 : (x8_1 != t241) = false := bne_eq_false_iff_eq.mpr c22
                        clear c22
                        by_cases c23 : x9_2.length < 140737488355328
                        · rw [if_pos c23] at H
                          have LMc23 := Aside0.mk c23
                          clear c23
                          obtain ⟨y249, hy249⟩ : ∃ y_ : List Bool, y_ = (x9_2 ++ [(x10_2 == t242)]) := ⟨_, rfl⟩
                          replace H : (rillmeterref13_Add.l1 k2 t241 t242 x7_1 x8_1 y249 (wrap64 (x10_2 + 1)) a0_0 l0_1) = some (r1, r2) := by first | (rw [hy249]; with_reducible exact H) | (have H2_ := (Option.bind_some _ _).symm.trans H; rw [hy249]; with_reducible exact H2_) | (have H2_ := (Option.bind_some _ _).symm.trans H; with_reducible exact H2_) | with_reducible exact H | (rw [hy249]; exact H) | exact H
                          have Ny249 := Aside0.mk hy249
                          clear hy249
                          have H' := Aside0.mk H
                          clear H
                          have hnb24 := NB239_240.out
                          have hnc24 := NB240_239.out
                          have hcz25_0 : wr.cell? ⟨gb239, 0, none⟩ = some (.int .u64 a0_0) := (blk_cell BK239.out 0).trans rfl
                          have hcz25_1 : wr.cell? ⟨gb239, 1, none⟩ = some (.slice A0_1 l0_1.length c0_1) := (blk_cell BK239.out 1).trans rfl
                          have hfz25_0 := blk_frozen BK239.out 0
                          have hfz25_1 := blk_frozen BK239.out 1
                          have p243 : 0 ≤ (x8_1 : Int) := of_decide_eq_true (by first | (with_reducible assumption) | assumption)
                          have q243 : x8_1 < (l0_1.length : Int) := of_decide_eq_true (by first | (with_reducible assumption) | assumption)
                          obtain ⟨ad243, A243_0, c243_0, e243, hx243_0, hl243_0, hi243_0⟩ := at_L1 HR0_1.out x8_1 p243 q243
                          cases e243
                          replace hx243_0 := (HB.out.cell (World.block_lt_of_cell? w _ hx243_0)).trans hx243_0
                          have HR243_0 := Aside0.mk hi243_0
                          have HC243_0 := Aside0.mk hl243_0
                          clear hi243_0 hl243_0
                          replace p243 := eq_true p243
                          replace q243 := eq_true q243
                          have p244 : 0 ≤ (x8_1 : Int) := of_decide_eq_true (by first | (with_reducible assumption) | assumption)
                          have q244 : x8_1 < (l0_1.length : Int) := of_decide_eq_true (by first | (with_reducible assumption) | assumption)
                          obtain ⟨ad244, A244_0, c244_0, e244, hx244_0, hl244_0, hi244_0⟩ := at_L1 HR0_1.out x8_1 p244 q244
                          obtain rfl : ad243 = ad244 := (by injection e244)
                          replace hx244_0 := (HB.out.cell (World.block_lt_of_cell? w _ hx244_0)).trans hx244_0
                          have HR244_0 := Aside0.mk hi244_0
                          have HC244_0 := Aside0.mk hl244_0
                          clear hi244_0 hl244_0
                          replace p244 := eq_true p244
                          replace q244 := eq_true q244
                          have ea_ := Option.some.inj (hx243_0.symm.trans hx244_0)
                          injection ea_ with ea_ en_ ec_
                          subst ea_
                          subst ec_
                          clear en_
                          have p245 : 0 ≤ (x10_2 : Int) := of_decide_eq_true (by first | (with_reducible assumption) | assumption)
                          have q245 : x10_2 < ((rd_L1 l0_1 x8_1).length : Int) := of_decide_eq_true (by first | (with_reducible assumption) | assumption)
                          obtain ⟨ad245, e245, hx245_0⟩ := Kd.at_bool HR244_0.out x10_2 p245 q245
                          (try rw [← Nbq16.out] at hx245_0)
                          cases e245
                          replace hx245_0 := (HB.out.cell (World.block_lt_of_cell? w _ hx245_0)).trans hx245_0
                          replace p245 := eq_true p245
                          replace q245 := eq_true q245
                          go_wp2_with (first | ((with_reducible refine gate_builtin (b := .append) (xs := #[.tmp 34, .tmp 53]) rfl ?_); at_builtin; refine Kd.R_append Kd.bool (w0 := w) w.heap.size rfl (.tmp 34) (.tmp 53) 33 4 (.bool false) 1 rfl Tryd.underlying33 info4 rfl (by decide) (by omega) u9 x9_2 (x10_2 == t242) [.bool (x10_2 == t242)] (fun _ => True) (fun _ => False) rfl rfl ?aP (fun _ hk => hk.elim) ?aF ?aO ?aB ?aS ?aL ?_; (case aP => exact rfl); (case aB => exact (by repeat (first | (with_reducible first | exact HB.out | apply below_alloc | apply pw_below_drewN | apply below_drew1 | refine below_set ?_ GE239.out | refine below_set ?_ GE240.out) | exact HB.out))); (case aF => exact (fun _ _ => trivial)); (case aO => exact (by (with_reducible repeat (first | apply Kd.R_alloc | apply Kd.R_drewN | apply Kd.R_drew)); exact HO_9.out)); (case aS => exact (below_size (by repeat (first | (with_reducible first | exact HB.out | apply below_alloc | apply pw_below_drewN | apply below_drew1 | refine below_set ?_ GE239.out | refine below_set ?_ GE240.out) | exact HB.out)))); (case aL => have := LMc23.out; omega); intro v250 w26 ho hb hg hat; rw [← Ny249.out] at ho; have n0_ := Aside0.mk (Kd.S_after (ok := (fun _ => True)) (by (with_reducible repeat (first | apply Kd.S_alloc | apply Kd.S_drewN | apply Kd.S_drew)); exact Kd.S_mono HO_7.out (fun _ hk => ⟨trivial, hk⟩)) hg hat); have n1_ := Aside0.mk (blk_grown (g := gb239) (o := .cells #[.int .u64 a0_0, .slice (some ad243) l0_1.length c0_1] 30 (0, 0)) (by (with_reducible repeat (first | refine blk_drewN ?_ _ | refine blk_drew ?_ | refine blk_alloc ?_ _)); exact BK239.out) hg (Kd.R_ne HO_9.out BK239.out (by decide))); have n2_ := Aside0.mk (blk_grown (g := gb240) (o := .cells #[.int .u64 0, .slice none 0 0] 30 (0, 0)) (by (with_reducible repeat (first | refine blk_drewN ?_ _ | refine blk_drew ?_ | refine blk_alloc ?_ _)); exact BK240.out) hg (Kd.R_ne HO_9.out BK240.out (by decide))); have n3_ := Aside0.mk (hb); have n4_ := Aside0.mk (ho); clear HO_7; clear BK239; clear BK240; clear HB; clear HO_9; have HO_7 := n0_; have BK239 := n1_; have BK240 := n2_; have HB := n3_; have HO251 := n4_; clear n0_ n1_ n2_ n3_ n4_; clear ho hb hg hat))
                          go_roundg k2
                          case measure => have := HK1.out; have := HK2.out; omega
                          case rel => exact ⟨(y249), (wrap64 (x10_2 + 1)), (by first | rfl | (simp; done) | (simp [*]; done)), H', ⟨by have := HK1.out; have := HK2.out; omega⟩, ⟨by (with_reducible repeat (first | apply Kd.S_alloc | apply Kd.S_drewN | apply Kd.S_drew)); exact Kd.S_mono HO_7.out (fun _ hk => hk.2)⟩, ⟨by (with_reducible repeat (first | apply Kd.R_alloc | apply Kd.R_drewN | apply Kd.R_drew)); exact HO251.out⟩, ⟨by (with_reducible repeat (first | refine blk_drewN ?_ _ | refine blk_drew ?_ | refine blk_alloc ?_ _)); exact BK239.out⟩, ⟨by (with_reducible repeat (first | refine blk_drewN ?_ _ | refine blk_drew ?_ | refine blk_alloc ?_ _)); exact BK240.out⟩, ⟨by repeat (first | (with_reducible first | exact HB.out | apply below_alloc | apply pw_below_drewN | apply below_drew1 | refine below_set ?_ GE239.out | refine below_set ?_ GE240.out) | exact HB.out)⟩⟩
                        · rw [if_neg c23] at H
                          exact absurd H (by simp)
                      · rw [if_neg c22] at H
                        have c22b0 : (x8_1 == t241) = false := beq_eq_false_iff_ne.mpr c22
                        have c22b1 : (x8_1 != t241) = true := bne_iff_ne.mpr c22
                        by_cases c27 : x9_2.length < 140737488355328
                        · rw [if_pos c27] at H
                          have LMc27 := Aside0.mk c27
                          clear c27
                          obtain ⟨y252, hy252⟩ : ∃ y_ : List Bool, y_ = (x9_2 ++ [false]) := ⟨_, rfl⟩
                          replace H : (rillmeterref13_Add.l1 k2 t241 t242 x7_1 x8_1 y252 (wrap64 (x10_2 + 1)) a0_0 l0_1) = some (r1, r2) := by first | (rw [hy252]; with_reducible exact H) | (have H2_ := (Option.bind_some _ _).symm.trans H; rw [hy252]; with_reducible exact H2_) | (have H2_ := (Option.bind_some _ _).symm.trans H; with_reducible exact H2_) | with_reducible exact H | (rw [hy252]; exact H) | exact H
                          have Ny252 := Aside0.mk hy252
                          clear hy252
                          have H' := Aside0.mk H
                          clear H
                          have hnb28 := NB239_240.out
                          have hnc28 := NB240_239.out
                          have hcz29_0 : wr.cell? ⟨gb239, 0, none⟩ = some (.int .u64 a0_0) := (blk_cell BK239.out 0).trans rfl
                          have hcz29_1 : wr.cell? ⟨gb239, 1, none⟩ = some (.slice A0_1 l0_1.length c0_1) := (blk_cell BK239.out 1).trans rfl
                          have hfz29_0 := blk_frozen BK239.out 0
                          have hfz29_1 := blk_frozen BK239.out 1
                          have p243 : 0 ≤ (x8_1 : Int) := of_decide_eq_true (by first | (with_reducible assumption) | assumption)
                          have q243 : x8_1 < (l0_1.length : Int) := of_decide_eq_true (by first | (with_reducible assumption) | assumption)
                          obtain ⟨ad243, A243_0, c243_0, e243, hx243_0, hl243_0, hi243_0⟩ := at_L1 HR0_1.out x8_1 p243 q243
                          cases e243
                          replace hx243_0 := (HB.out.cell (World.block_lt_of_cell? w _ hx243_0)).trans hx243_0
                          have HR243_0 := Aside0.mk hi243_0
                          have HC243_0 := Aside0.mk hl243_0
                          clear hi243_0 hl243_0
                          replace p243 := eq_true p243
                          replace q243 := eq_true q243
                          have p244 : 0 ≤ (x8_1 : Int) := of_decide_eq_true (by first | (with_reducible assumption) | assumption)
                          have q244 : x8_1 < (l0_1.length : Int) := of_decide_eq_true (by first | (with_reducible assumption) | assumption)
                          obtain ⟨ad244, A244_0, c244_0, e244, hx244_0, hl244_0, hi244_0⟩ := at_L1 HR0_1.out x8_1 p244 q244
                          obtain rfl : ad243 = ad244 := (by injection e244)
                          replace hx244_0 := (HB.out.cell (World.block_lt_of_cell? w _ hx244_0)).trans hx244_0
                          have HR244_0 := Aside0.mk hi244_0
                          have HC244_0 := Aside0.mk hl244_0
                          clear hi244_0 hl244_0
                          replace p244 := eq_true p244
                          replace q244 := eq_true q244
                          have ea_ := Option.some.inj (hx243_0.symm.trans hx244_0)
                          injection ea_ with ea_ en_ ec_
                          subst ea_
                          subst ec_
                          clear en_
                          have p245 : 0 ≤ (x10_2 : Int) := of_decide_eq_true (by first | (with_reducible assumption) | assumption)
                          have q245 : x10_2 < ((rd_L1 l0_1 x8_1).length : Int) := of_decide_eq_true (by first | (with_reducible assumption) | assumption)
                          obtain ⟨ad245, e245, hx245_0⟩ := Kd.at_bool HR244_0.out x10_2 p245 q245
                          (try rw [← Nbq16.out] at hx245_0)
                          cases e245
                          replace hx245_0 := (HB.out.cell (World.block_lt_of_cell? w _ hx245_0)).trans hx245_0
                          replace p245 := eq_true p245
                          replace q245 := eq_true q245
                          go_wp2_with (first | ((with_reducible refine gate_builtin (b := .append) (xs := #[.tmp 34, .tmp 53]) rfl ?_); at_builtin; refine Kd.R_append Kd.bool (w0 := w) w.heap.size rfl (.tmp 34) (.tmp 53) 33 4 (.bool false) 1 rfl Tryd.underlying33 info4 rfl (by decide) (by omega) u9 x9_2 false [.bool false] (fun _ => True) (fun _ => False) rfl rfl ?aP (fun _ hk => hk.elim) ?aF ?aO ?aB ?aS ?aL ?_; (case aP => exact rfl); (case aB => exact (by repeat (first | (with_reducible first | exact HB.out | apply below_alloc | apply pw_below_drewN | apply below_drew1 | refine below_set ?_ GE239.out | refine below_set ?_ GE240.out) | exact HB.out))); (case aF => exact (fun _ _ => trivial)); (case aO => exact (by (with_reducible repeat (first | apply Kd.R_alloc | apply Kd.R_drewN | apply Kd.R_drew)); exact HO_9.out)); (case aS => exact (below_size (by repeat (first | (with_reducible first | exact HB.out | apply below_alloc | apply pw_below_drewN | apply below_drew1 | refine below_set ?_ GE239.out | refine below_set ?_ GE240.out) | exact HB.out)))); (case aL => have := LMc27.out; omega); intro v253 w30 ho hb hg hat; rw [← Ny252.out] at ho; have n0_ := Aside0.mk (Kd.S_after (ok := (fun _ => True)) (by (with_reducible repeat (first | apply Kd.S_alloc | apply Kd.S_drewN | apply Kd.S_drew)); exact Kd.S_mono HO_7.out (fun _ hk => ⟨trivial, hk⟩)) hg hat); have n1_ := Aside0.mk (blk_grown (g := gb239) (o := .cells #[.int .u64 a0_0, .slice (some ad243) l0_1.length c0_1] 30 (0, 0)) (by (with_reducible repeat (first | refine blk_drewN ?_ _ | refine blk_drew ?_ | refine blk_alloc ?_ _)); exact BK239.out) hg (Kd.R_ne HO_9.out BK239.out (by decide))); have n2_ := Aside0.mk (blk_grown (g := gb240) (o := .cells #[.int .u64 0, .slice none 0 0] 30 (0, 0)) (by (with_reducible repeat (first | refine blk_drewN ?_ _ | refine blk_drew ?_ | refine blk_alloc ?_ _)); exact BK240.out) hg (Kd.R_ne HO_9.out BK240.out (by decide))); have n3_ := Aside0.mk (hb); have n4_ := Aside0.mk (ho); clear HO_7; clear BK239; clear BK240; clear HB; clear HO_9; have HO_7 := n0_; have BK239 := n1_; have BK240 := n2_; have HB := n3_; have HO254 := n4_; clear n0_ n1_ n2_ n3_ n4_; clear ho hb hg hat))
                          go_roundg k2
                          case measure => have := HK1.out; have := HK2.out; omega
                          case rel => exact ⟨(y252), (wrap64 (x10_2 + 1)), (by first | rfl | (simp; done) | (simp [*]; done)), H', ⟨by have := HK1.out; have := HK2.out; omega⟩, ⟨by (with_reducible repeat (first | apply Kd.S_alloc | apply Kd.S_drewN | apply Kd.S_drew)); exact Kd.S_mono HO_7.out (fun _ hk => hk.2)⟩, ⟨by (with_reducible repeat (first | apply Kd.R_alloc | apply Kd.R_drewN | apply Kd.R_drew)); exact HO254.out⟩, ⟨by (with_reducible repeat (first | refine blk_drewN ?_ _ | refine blk_drew ?_ | refine blk_alloc ?_ _)); exact BK239.out⟩, ⟨by (with_reducible repeat (first | refine blk_drewN ?_ _ | refine blk_drew ?_ | refine blk_alloc ?_ _)); exact BK240.out⟩, ⟨by repeat (first | (with_reducible first | exact HB.out | apply below_alloc | apply pw_below_drewN | apply below_drew1 | refine below_set ?_ GE239.out | refine below_set ?_ GE240.out) | exact HB.out)⟩⟩
                        · rw [if_neg c27] at H
                          exact absurd H (by simp)
                  · rw [if_neg c15] at H
                    exact absurd H (by simp)
                · rw [if_neg c14] at H
                  have c14b0 : decide (x10_2 < ((rd_L1 l0_1 x8_1).length : Int)) = false := decide_eq_false c14
                  clear c14
                  by_cases c31 : x7_1.length < 5864062014805
                  · rw [if_pos c31] at H
                    have LMc31 := Aside0.mk c31
                    clear c31
                    obtain ⟨y255, hy255⟩ : ∃ y_ : List (List Bool), y_ = (x7_1 ++ [x9_2]) := ⟨_, rfl⟩
                    replace H : (rillmeterref13_Add.l0 k2 t241 t242 y255 (wrap64 (x8_1 + 1)) a0_0 l0_1) = some (r1, r2) := by first | (rw [hy255]; with_reducible exact H) | (have H2_ := (Option.bind_some _ _).symm.trans H; rw [hy255]; with_reducible exact H2_) | (have H2_ := (Option.bind_some _ _).symm.trans H; with_reducible exact H2_) | with_reducible exact H | (rw [hy255]; exact H) | exact H
                    have Ny255 := Aside0.mk hy255
                    clear hy255
                    have H' := Aside0.mk H
                    clear H
                    have hnb32 := NB239_240.out
                    have hnc32 := NB240_239.out
                    have hcz33_0 : wr.cell? ⟨gb239, 0, none⟩ = some (.int .u64 a0_0) := (blk_cell BK239.out 0).trans rfl
                    have hcz33_1 : wr.cell? ⟨gb239, 1, none⟩ = some (.slice A0_1 l0_1.length c0_1) := (blk_cell BK239.out 1).trans rfl
                    have hfz33_0 := blk_frozen BK239.out 0
                    have hfz33_1 := blk_frozen BK239.out 1
                    have p243 : 0 ≤ (x8_1 : Int) := of_decide_eq_true (by first | (with_reducible assumption) | assumption)
                    have q243 : x8_1 < (l0_1.length : Int) := of_decide_eq_true (by first | (with_reducible assumption) | assumption)
                    obtain ⟨ad243, A243_0, c243_0, e243, hx243_0, hl243_0, hi243_0⟩ := at_L1 HR0_1.out x8_1 p243 q243
                    cases e243
                    replace hx243_0 := (HB.out.cell (World.block_lt_of_cell? w _ hx243_0)).trans hx243_0
                    have HR243_0 := Aside0.mk hi243_0
                    have HC243_0 := Aside0.mk hl243_0
                    clear hi243_0 hl243_0
                    replace p243 := eq_true p243
                    replace q243 := eq_true q243
                    obtain ⟨Ao35, co35, eo35⟩ := Kd.R_slice HO_9.out
                    subst eo35
                    go_wp2_with (first | ((with_reducible refine gate_builtin (b := .append) (xs := #[.tmp 55, .tmp 57]) rfl ?_); at_builtin; refine Kd.S_append (Kd.slice 4 Kd.bool) (w0 := w) w.heap.size rfl (.tmp 55) (.tmp 57) 23 33 (.slice none 0 0) 24 rfl Tryd.underlying23 info33 rfl (by decide) (by omega) u7 x7_1 x9_2 [.slice Ao35 x9_2.length co35] (fun _ => True) (fun k_ => some k_ = (.slice Ao35 x9_2.length co35 : Value).ownBlock) rfl rfl ?aP (fun k_ hk_ => ((Kd.R_mono (ok' := fun k_ => ((fun _ => True)) k_ ∧ some k_ ≠ (u7 : Value).ownBlock) (Kd.R_apart' (HO_9.out) (Kd.S_typed HO_7.out) (by decide)) (fun k_ hk => ⟨trivial, hk.2⟩))).1 k_ hk_.symm) ?aF ?aO ?aB ?aS ?aL ?_; (case aP => exact Kd.M_row (Kd.R_mono (Kd.R_tight rfl (Kd.R_mono (ok' := fun k_ => ((fun _ => True)) k_ ∧ some k_ ≠ (u7 : Value).ownBlock) (Kd.R_apart' (HO_9.out) (Kd.S_typed HO_7.out) (by decide)) (fun k_ hk => ⟨trivial, hk.2⟩))) (fun _ h_ => h_))); (case aB => exact (by repeat (first | (with_reducible first | exact HB.out | apply below_alloc | apply pw_below_drewN | apply below_drew1 | refine below_set ?_ GE239.out | refine below_set ?_ GE240.out) | exact HB.out))); (case aF => exact (fun _ _ => trivial)); (case aO => exact (by (with_reducible repeat (first | apply Kd.S_alloc | apply Kd.S_drewN | apply Kd.S_drew)); exact Kd.S_mono HO_7.out (fun k_ hk => ⟨trivial, fun e_ => hk e_⟩))); (case aS => exact (below_size (by repeat (first | (with_reducible first | exact HB.out | apply below_alloc | apply pw_below_drewN | apply below_drew1 | refine below_set ?_ GE239.out | refine below_set ?_ GE240.out) | exact HB.out)))); (case aL => have := LMc31.out; omega); intro v256 w34 ho hb hg hat; rw [← Ny255.out] at ho; have n0_ := Aside0.mk (blk_grown (g := gb239) (o := .cells #[.int .u64 a0_0, .slice (some ad243) l0_1.length c0_1] 30 (0, 0)) (by (with_reducible repeat (first | refine blk_drewN ?_ _ | refine blk_drew ?_ | refine blk_alloc ?_ _)); exact BK239.out) hg (Kd.S_ne HO_7.out BK239.out (by decide))); have n1_ := Aside0.mk (blk_grown (g := gb240) (o := .cells #[.int .u64 0, .slice none 0 0] 30 (0, 0)) (by (with_reducible repeat (first | refine blk_drewN ?_ _ | refine blk_drew ?_ | refine blk_alloc ?_ _)); exact BK240.out) hg (Kd.S_ne HO_7.out BK240.out (by decide))); have n2_ := Aside0.mk (hb); have n3_ := Aside0.mk (ho); clear BK239; clear BK240; clear HB; clear HO_7; clear HO_9; have BK239 := n0_; have BK240 := n1_; have HB := n2_; have HO257 := n3_; clear n0_ n1_ n2_ n3_; clear ho hb hg hat))
                    go_roundg k2
                    case measure => have := HK1.out; have := HK2.out; omega
                    case rel => exact ⟨(y255), (wrap64 (x8_1 + 1)), (by first | rfl | (simp; done) | (simp [*]; done)), H', ⟨by have := HK1.out; have := HK2.out; omega⟩, ⟨by (with_reducible repeat (first | apply Kd.S_alloc | apply Kd.S_drewN | apply Kd.S_drew)); exact HO257.out⟩, ⟨by (with_reducible repeat (first | refine blk_drewN ?_ _ | refine blk_drew ?_ | refine blk_alloc ?_ _)); exact BK239.out⟩, ⟨by (with_reducible repeat (first | refine blk_drewN ?_ _ | refine blk_drew ?_ | refine blk_alloc ?_ _)); exact BK240.out⟩, ⟨by repeat (first | (with_reducible first | exact HB.out | apply below_alloc | apply pw_below_drewN | apply below_drew1 | refine below_set ?_ GE239.out | refine below_set ?_ GE240.out) | exact HB.out)⟩⟩
                  · rw [if_neg c31] at H
                    exact absurd H (by simp)
              · rw [if_neg c13] at H
                exact absurd H (by simp)
            · rw [if_neg c12] at H
              exact absurd H (by simp)
      · rw [if_neg c9] at H
        have c9b0 : decide (x8_1 < (l0_1.length : Int)) = false := decide_eq_false c9
        clear c9
        simp only [Option.some.injEq, Prod.mk.injEq] at H
        obtain ⟨rfl, rfl⟩ := H
        have hnb36 := NB239_240.out
        have hnc36 := NB240_239.out
        have hcz37_0 : wr.cell? ⟨gb239, 0, none⟩ = some (.int .u64 a0_0) := (blk_cell BK239.out 0).trans rfl
        have hcz37_1 : wr.cell? ⟨gb239, 1, none⟩ = some (.slice A0_1 l0_1.length c0_1) := (blk_cell BK239.out 1).trans rfl
        have hfz37_0 := blk_frozen BK239.out 0
        have hfz37_1 := blk_frozen BK239.out 1
        obtain ⟨Ao38, co38, eo38⟩ := Kd.S_slice HO_7.out
        subst eo38
        have hcz39_0 : wr.cell? ⟨gb240, 0, none⟩ = some (.int .u64 0) := (blk_cell BK240.out 0).trans rfl
        have hcz39_1 : wr.cell? ⟨gb240, 1, none⟩ = some (.slice none 0 0) := (blk_cell BK240.out 1).trans rfl
        have hfz39_0 := blk_frozen BK240.out 0
        have hfz39_1 := blk_frozen BK240.out 1
        go_wp2
        refine bodyPost_ret (results_cell_row rfl _ _ gb240 30 #[.int .u64 a0_0, .slice Ao38 x7_1.length co38] (0, 0) _ rfl (by (with_reducible repeat (first | refine blk_drewN ?_ _ | refine blk_drew ?_ | refine blk_alloc ?_ _)); refine blk_put (cs := #[.int .u64 a0_0, .slice none 0 0]) ?_ 1 _ rfl; (with_reducible repeat (first | refine blk_drewN ?_ _ | refine blk_drew ?_ | refine blk_alloc ?_ _)); refine blk_put (cs := #[.int .u64 0, .slice none 0 0]) ?_ 0 _ rfl; (with_reducible repeat (first | refine blk_drewN ?_ _ | refine blk_drew ?_ | refine blk_alloc ?_ _)); refine blk_far ?_ NB240_239.out _; (with_reducible repeat (first | refine blk_drewN ?_ _ | refine blk_drew ?_ | refine blk_alloc ?_ _)); exact BK240.out) Tryd.underlying30 rfl (by kernel_rfl)) rfl ?_
        exact ⟨_, by first | rfl | (simp [errW_none, errW_some] <;> rfl) | (simp [*, errW_none, errW_some] <;> rfl), by (with_reducible repeat (first | apply Kd.S_alloc | apply Kd.S_drewN | apply Kd.S_drew)); exact Kd.S_mono (Kd.S_far (p := ⟨gb240, 1, none⟩) (Kd.S_far (p := ⟨gb240, 0, none⟩) (Kd.S_far (p := ⟨gb239, 1, none⟩) (Kd.S_types (Kd.S_types HO_7.out BK239.out (by decide)) BK240.out (by decide)) (fun _ hk => hk.1.2) (.slice Ao38 x7_1.length co38)) (fun _ hk => hk.2) (.int .u64 a0_0)) (fun _ hk => hk.2) (.slice Ao38 x7_1.length co38)) (fun _ hk => trivial), by repeat (first | (with_reducible first | exact HB.out | apply below_alloc | apply pw_below_drewN | apply below_drew1 | refine below_set ?_ GE239.out | refine below_set ?_ GE240.out) | exact HB.out)⟩

/-! ### rillmeterref13_Estimate: function 20 -/
mutual
def rillmeterref13_Estimate.l0 : Nat → Int → Int → Int → List (List Bool) → Option (Int)
  | 0, _, _, _, _ => none
  | k + 1, x3, x4, x259000, x259001 => if x4 < (x259001.length : Int) then (if 0 ≤ x4 then (rillmeterref13_Estimate.l1 k x3 x4 ((rd_L1 x259001 x4).length : Int) ((rd_L1 x259001 x4).length : Int) 0 x259000 x259001) else (none)) else (some x3)
def rillmeterref13_Estimate.l1 : Nat → Int → Int → Int → Int → Int → Int → List (List Bool) → Option (Int)
  | 0, _, _, _, _, _, _, _ => none
  | k + 1, x3, x4, x5, x6, x7, x259000, x259001 => if x7 < x5 then (if 0 ≤ x4 then (if x4 < (x259001.length : Int) then (if 0 ≤ x7 then (if x7 < ((rd_L1 x259001 x4).length : Int) then (if rdOf false (rd_L1 x259001 x4) x7 = true then (if x6 = 0 then (none) else (rillmeterref13_Estimate.l1 k (wrap64 (x3 + (wrap64 (Int.tdiv (wrap64 (x5 * 65536)) x6)))) x4 x5 (wrap64 (x6 - 1)) (wrap64 (x7 + 1)) x259000 x259001)) else (rillmeterref13_Estimate.l1 k x3 x4 x5 x6 (wrap64 (x7 + 1)) x259000 x259001)) else (none)) else (none)) else (none)) else (none)) else (rillmeterref13_Estimate.l0 k x3 (wrap64 (x4 + 1)) x259000 x259001)
end
def rillmeterref13_Estimate.f (k : Nat) (a0_0 : Int) (l0_1 : List (List Bool)) : Option (Int) := rillmeterref13_Estimate.l0 k 0 0 a0_0 l0_1
theorem rillmeterref13_Estimate.mono_l : ∀ k, (∀ y0 y1 y2 y3, LeO (rillmeterref13_Estimate.l0 k y0 y1 y2 y3) (rillmeterref13_Estimate.l0 (k + 1) y0 y1 y2 y3)) ∧ (∀ y0 y1 y2 y3 y4 y5 y6, LeO (rillmeterref13_Estimate.l1 k y0 y1 y2 y3 y4 y5 y6) (rillmeterref13_Estimate.l1 (k + 1) y0 y1 y2 y3 y4 y5 y6))
  | 0 => ⟨fun _ _ _ _ r h => by simp [rillmeterref13_Estimate.l0] at h, fun _ _ _ _ _ _ _ r h => by simp [rillmeterref13_Estimate.l1] at h⟩
  | k + 1 => by
    obtain ⟨ih0, ih1⟩ := rillmeterref13_Estimate.mono_l k
    refine ⟨?_, ?_⟩
    · intro y0 y1 y2 y3
      unfold rillmeterref13_Estimate.l0
      repeat' first
      | (with_reducible exact ih0 _ _ _ _)
      | (with_reducible exact ih1 _ _ _ _ _ _ _)
      | (with_reducible exact LeO.refl _)
      | (with_reducible exact LeO.none _)
      | (with_reducible refine LeO.ite ?_ ?_)
      | (with_reducible refine LeO.bind ?_ (fun _ => ?_))
      | exact ih0 _ _ _ _
      | exact ih1 _ _ _ _ _ _ _
      | exact LeO.none _
      | refine LeO.ite ?_ ?_
      | refine LeO.bind ?_ (fun _ => ?_)
    · intro y0 y1 y2 y3 y4 y5 y6
      unfold rillmeterref13_Estimate.l1
      repeat' first
      | (with_reducible exact ih0 _ _ _ _)
      | (with_reducible exact ih1 _ _ _ _ _ _ _)
      | (with_reducible exact LeO.refl _)
      | (with_reducible exact LeO.none _)
      | (with_reducible refine LeO.ite ?_ ?_)
      | (with_reducible refine LeO.bind ?_ (fun _ => ?_))
      | exact ih0 _ _ _ _
      | exact ih1 _ _ _ _ _ _ _
      | exact LeO.none _
      | refine LeO.ite ?_ ?_
      | refine LeO.bind ?_ (fun _ => ?_)
theorem rillmeterref13_Estimate.mono : ∀ a0 a1 k, LeO (rillmeterref13_Estimate.f k a0 a1) (rillmeterref13_Estimate.f (k + 1) a0 a1) := by
  intro a0 a1 k
  obtain ⟨ih0, ih1⟩ := rillmeterref13_Estimate.mono_l k
  unfold rillmeterref13_Estimate.f
  repeat' first
      | (with_reducible exact ih0 _ _ _ _)
      | (with_reducible exact ih1 _ _ _ _ _ _ _)
      | (with_reducible exact LeO.refl _)
      | (with_reducible exact LeO.none _)
      | (with_reducible refine LeO.ite ?_ ?_)
      | (with_reducible refine LeO.bind ?_ (fun _ => ?_))
      | exact ih0 _ _ _ _
      | exact ih1 _ _ _ _ _ _ _
      | exact LeO.none _
      | refine LeO.ite ?_ ?_
      | refine LeO.bind ?_ (fun _ => ?_)
set_option maxHeartbeats 8000000 in
set_option maxRecDepth 100000 in
theorem rillmeterref13_Estimate.calls (k : Nat) (a0_0 : Int) (A0_1 : Option Addr) (c0_1 : Nat) (l0_1 : List (List Bool)) (r : Int) (w : World) (hr0_1 : Kd.C (Kd.slice 4 Kd.bool) w A0_1 l0_1.length l0_1) (hc0_1 : l0_1.length ≤ c0_1) (h : rillmeterref13_Estimate.f k a0_0 l0_1 = some r) :
    Calls Tryd.prog 20 #[.agg #[.int .u64 a0_0, .slice A0_1 l0_1.length c0_1]] w fun e w' => e = .returned (.int .i64 r) ∧ Below w.heap.size w w' := by
  have hu30 := Tryd.underlying30
  have HR0_1 := Aside0.mk hr0_1
  have HC0_1 := Aside0.mk hc0_1
  clear hr0_1 hc0_1
  have HB := Aside0.mk (Below.refl w.heap.size w)
  have H : (rillmeterref13_Estimate.l0 k 0 0 a0_0 l0_1) = some r := h
  clear h
  have H' := Aside0.mk H
  clear H
  go_enter Tryd.func20, Tryd.ntmps20
  go_wp2_with (first | ((with_reducible refine gate_dst (N := 1) rfl ?_); refine box_event ?hg (N := 1) ?hd (cs := #[.int .u64 a0_0, .slice A0_1 l0_1.length c0_1]) (t := 30) ?hr ?_; (case hd => rfl); (case hg => rfl); (case hr => first | (go_simp; done) | (go_simp; rfl)); intro gb258 hg w2 hbox hb; have n0_ := Aside0.mk (below_step (by repeat (first | (with_reducible first | exact HB.out | apply below_alloc | apply pw_below_drewN | apply below_drew1) | exact HB.out)) hb); have n1_ := Aside0.mk (hbox); have n2_ := Aside0.mk ((by rw [hg]; exact (below_size (by repeat (first | (with_reducible first | exact HB.out | apply below_alloc | apply pw_below_drewN | apply below_drew1) | exact HB.out))) : w.heap.size ≤ gb258)); have n3_ := Aside0.mk ((by rw [hg]; exact (below_size (by repeat (first | (with_reducible first | exact HB.out | apply below_alloc | apply pw_below_drewN | apply below_drew1) | exact HB.out))) : w.heap.size ≤ gb258)); clear HB; have HB := n0_; have BK258 := n1_; have GW258 := n2_; have GE258 := n3_; clear n0_ n1_ n2_ n3_; clear hb hbox hg))
  go_loopg [3, 4] k (fun kq v3 v4 w' => ∃ (x3_1 : Int) (x4_1 : Int), v3 = .int .i64 x3_1 ∧ v4 = .int .i64 x4_1 ∧ Aside0 (rillmeterref13_Estimate.l0 kq x3_1 x4_1 a0_0 l0_1 = some r) ∧ Aside0 (kq ≤ k) ∧ Aside0 (w'.heap[gb258]? = some (.cells #[.int .u64 a0_0, (.slice A0_1 l0_1.length c0_1)] 30 (0, 0))) ∧ Aside0 (Below w.heap.size w w'))
  case atStart => exact ⟨(0), (0), (by first | rfl | (simp; done) | (simp [*]; done)), (by first | rfl | (simp; done) | (simp [*]; done)), H', ⟨Nat.le_refl _⟩, ⟨by (with_reducible repeat (first | refine blk_drewN ?_ _ | refine blk_drew ?_ | refine blk_alloc ?_ _)); exact BK258.out⟩, ⟨by repeat (first | (with_reducible first | exact HB.out | apply below_alloc | apply pw_below_drewN | apply below_drew1 | refine below_set ?_ GE258.out) | exact HB.out)⟩⟩
  case round =>
    clear H'
    try clear c2
    try clear p2
    obtain ⟨x3_1, x4_1, rfl, rfl, HA, HK1, BK258, HB⟩ := hrel
    cases gk with
    | zero => exact absurd HA.out (by simp [rillmeterref13_Estimate.l0])
    | succ k1 =>
      have H := HA.out
      clear HA
      simp only [rillmeterref13_Estimate.l0] at H
      by_cases c3 : x4_1 < (l0_1.length : Int)
      · rw [if_pos c3] at H
        have c3b0 : decide (x4_1 < (l0_1.length : Int)) = true := decide_eq_true c3
        clear c3
        by_cases c4 : 0 ≤ x4_1
        · rw [if_pos c4] at H
          have c4b0 : decide (0 ≤ x4_1) = true := decide_eq_true c4
          clear c4
          have H' := Aside0.mk H
          clear H
          have hcz5_0 : wr.cell? ⟨gb258, 0, none⟩ = some (.int .u64 a0_0) := (blk_cell BK258.out 0).trans rfl
          have hcz5_1 : wr.cell? ⟨gb258, 1, none⟩ = some (.slice A0_1 l0_1.length c0_1) := (blk_cell BK258.out 1).trans rfl
          have hfz5_0 := blk_frozen BK258.out 0
          have hfz5_1 := blk_frozen BK258.out 1
          have p259 : 0 ≤ (x4_1 : Int) := of_decide_eq_true (by first | (with_reducible assumption) | assumption)
          have q259 : x4_1 < (l0_1.length : Int) := of_decide_eq_true (by first | (with_reducible assumption) | assumption)
          obtain ⟨ad259, A259_0, c259_0, e259, hx259_0, hl259_0, hi259_0⟩ := at_L1 HR0_1.out x4_1 p259 q259
          cases e259
          replace hx259_0 := (HB.out.cell (World.block_lt_of_cell? w _ hx259_0)).trans hx259_0
          have HR259_0 := Aside0.mk hi259_0
          have HC259_0 := Aside0.mk hl259_0
          clear hi259_0 hl259_0
          replace p259 := eq_true p259
          replace q259 := eq_true q259
          go_wp2
          go_loopg [3, 6, 7] k1 (fun kq v3 v6 v7 w' => ∃ (x3_2 : Int) (x6_2 : Int) (x7_2 : Int), v3 = .int .i64 x3_2 ∧ v6 = .int .i64 x6_2 ∧ v7 = .int .i64 x7_2 ∧ Aside0 (rillmeterref13_Estimate.l1 kq x3_2 x4_1 ((rd_L1 l0_1 x4_1).length : Int) x6_2 x7_2 a0_0 l0_1 = some r) ∧ Aside0 (kq ≤ k1) ∧ Aside0 (w'.heap[gb258]? = some (.cells #[.int .u64 a0_0, (.slice (some ad259) l0_1.length c0_1)] 30 (0, 0))) ∧ Aside0 (Below w.heap.size w w'))
          case atStart => exact ⟨(x3_1), (((rd_L1 l0_1 x4_1).length : Int)), (0), (by first | rfl | (simp; done) | (simp [*]; done)), (by first | rfl | (simp; done) | (simp [*]; done)), (by first | rfl | (simp; done) | (simp [*]; done)), H', ⟨Nat.le_refl _⟩, ⟨by (with_reducible repeat (first | refine blk_drewN ?_ _ | refine blk_drew ?_ | refine blk_alloc ?_ _)); exact BK258.out⟩, ⟨by repeat (first | (with_reducible first | exact HB.out | apply below_alloc | apply pw_below_drewN | apply below_drew1 | refine below_set ?_ GE258.out) | exact HB.out)⟩⟩
          case round =>
            clear H'
            try clear c2
            try clear p2
            try clear q2
            try clear hx2
            try clear c3
            try clear c3b0
            try clear c4
            try clear c4b0
            try clear hcz5_0
            try clear hcz5_1
            try clear hfz5_0
            try clear hfz5_1
            try clear hx259_0
            try clear p2
            try clear p259
            try clear q259
            obtain ⟨x3_2, x6_2, x7_2, rfl, rfl, rfl, HA, HK2, BK258, HB⟩ := hrel
            cases gk with
            | zero => exact absurd HA.out (by simp [rillmeterref13_Estimate.l1])
            | succ k2 =>
              have H := HA.out
              clear HA
              simp only [rillmeterref13_Estimate.l1] at H
              by_cases c6 : x7_2 < ((rd_L1 l0_1 x4_1).length : Int)
              · rw [if_pos c6] at H
                have c6b0 : decide (x7_2 < ((rd_L1 l0_1 x4_1).length : Int)) = true := decide_eq_true c6
                clear c6
                by_cases c7 : 0 ≤ x4_1
                · rw [if_pos c7] at H
                  have c7b0 : decide (0 ≤ x4_1) = true := decide_eq_true c7
                  clear c7
                  by_cases c8 : x4_1 < (l0_1.length : Int)
                  · rw [if_pos c8] at H
                    have c8b0 : decide (x4_1 < (l0_1.length : Int)) = true := decide_eq_true c8
                    clear c8
                    by_cases c9 : 0 ≤ x7_2
                    · rw [if_pos c9] at H
                      have c9b0 : decide (0 ≤ x7_2) = true := decide_eq_true c9
                      clear c9
                      by_cases c10 : x7_2 < ((rd_L1 l0_1 x4_1).length : Int)
                      · rw [if_pos c10] at H
                        have c10b0 : decide (x7_2 < ((rd_L1 l0_1 x4_1).length : Int)) = true := decide_eq_true c10
                        clear c10
                        obtain ⟨bq11, hbq11⟩ : ∃ b_ : Bool, b_ = (rdOf false (rd_L1 l0_1 x4_1) x7_2) := ⟨_, rfl⟩
                        replace H : (if bq11 = true then (if x6_2 = 0 then (none) else (rillmeterref13_Estimate.l1 k2 (wrap64 (x3_2 + (wrap64 (Int.tdiv (wrap64 (((rd_L1 l0_1 x4_1).length : Int) * 65536)) x6_2)))) x4_1 ((rd_L1 l0_1 x4_1).length : Int) (wrap64 (x6_2 - 1)) (wrap64 (x7_2 + 1)) a0_0 l0_1)) else (rillmeterref13_Estimate.l1 k2 x3_2 x4_1 ((rd_L1 l0_1 x4_1).length : Int) x6_2 (wrap64 (x7_2 + 1)) a0_0 l0_1)) = some r := by rw [← hbq11] at H; exact H
                        have Nbq11 := Aside0.mk hbq11
                        clear hbq11
                        by_cases c12 : bq11 = true
                        · subst c12
                          have H1 : (if x6_2 = 0 then (none) else (rillmeterref13_Estimate.l1 k2 (wrap64 (x3_2 + (wrap64 (Int.tdiv (wrap64 (((rd_L1 l0_1 x4_1).length : Int) * 65536)) x6_2)))) x4_1 ((rd_L1 l0_1 x4_1).length : Int) (wrap64 (x6_2 - 1)) (wrap64 (x7_2 + 1)) a0_0 l0_1)) = some r := by rw [if_pos rfl] at H; exact H
                          clear H
                          have H := H1
                          clear H1
                          by_cases c13 : x6_2 = 0
                          · rw [if_pos c13] at H
                            exact absurd H (by simp)
                          · rw [if_neg c13] at H
                            have c13b0 : (x6_2 == 0) = false := beq_eq_false_iff_ne.mpr c13
                            have c13b1 : (x6_2 != 0) = true := bne_iff_ne.mpr c13
                            have H' := Aside0.mk H
                            clear H
                            have hcz14_0 : wr.cell? ⟨gb258, 0, none⟩ = some (.int .u64 a0_0) := (blk_cell BK258.out 0).trans rfl
                            have hcz14_1 : wr.cell? ⟨gb258, 1, none⟩ = some (.slice (some ad259) l0_1.length c0_1) := (blk_cell BK258.out 1).trans rfl
                            have hfz14_0 := blk_frozen BK258.out 0
                            have hfz14_1 := blk_frozen BK258.out 1
                            have p260 : 0 ≤ (x4_1 : Int) := of_decide_eq_true (by first | (with_reducible assumption) | assumption)
                            have q260 : x4_1 < (l0_1.length : Int) := of_decide_eq_true (by first | (with_reducible assumption) | assumption)
                            obtain ⟨ad260, A260_0, c260_0, e260, hx260_0, hl260_0, hi260_0⟩ := at_L1 HR0_1.out x4_1 p260 q260
                            obtain rfl : ad259 = ad260 := (by injection e260)
                            replace hx260_0 := (HB.out.cell (World.block_lt_of_cell? w _ hx260_0)).trans hx260_0
                            have HR260_0 := Aside0.mk hi260_0
                            have HC260_0 := Aside0.mk hl260_0
                            clear hi260_0 hl260_0
                            replace p260 := eq_true p260
                            replace q260 := eq_true q260
                            have p261 : 0 ≤ (x7_2 : Int) := of_decide_eq_true (by first | (with_reducible assumption) | assumption)
                            have q261 : x7_2 < ((rd_L1 l0_1 x4_1).length : Int) := of_decide_eq_true (by first | (with_reducible assumption) | assumption)
                            obtain ⟨ad261, e261, hx261_0⟩ := Kd.at_bool HR260_0.out x7_2 p261 q261
                            (try rw [← Nbq11.out] at hx261_0)
                            cases e261
                            replace hx261_0 := (HB.out.cell (World.block_lt_of_cell? w _ hx261_0)).trans hx261_0
                            replace p261 := eq_true p261
                            replace q261 := eq_true q261
                            go_wp2
                            go_roundg k2
                            case measure => have := HK1.out; have := HK2.out; omega
                            case rel => exact ⟨(wrap64 (x3_2 + (wrap64 (Int.tdiv (wrap64 (((rd_L1 l0_1 x4_1).length : Int) * 65536)) x6_2)))), (wrap64 (x6_2 - 1)), (wrap64 (x7_2 + 1)), (by first | rfl | (simp; done) | (simp [*]; done)), (by first | rfl | (simp; done) | (simp [*]; done)), (by first | rfl | (simp; done) | (simp [*]; done)), H', ⟨by have := HK1.out; have := HK2.out; omega⟩, ⟨by (with_reducible repeat (first | refine blk_drewN ?_ _ | refine blk_drew ?_ | refine blk_alloc ?_ _)); exact BK258.out⟩, ⟨by repeat (first | (with_reducible first | exact HB.out | apply below_alloc | apply pw_below_drewN | apply below_drew1 | refine below_set ?_ GE258.out) | exact HB.out)⟩⟩
                        · replace c12 := Bool.eq_false_iff.mpr c12
                          subst c12
                          have H1 : (rillmeterref13_Estimate.l1 k2 x3_2 x4_1 ((rd_L1 l0_1 x4_1).length : Int) x6_2 (wrap64 (x7_2 + 1)) a0_0 l0_1) = some r := by rw [if_neg (show ¬ (false = true) by decide)] at H; exact H
                          clear H
                          have H := H1
                          clear H1
                          have H' := Aside0.mk H
                          clear H
                          have hcz15_0 : wr.cell? ⟨gb258, 0, none⟩ = some (.int .u64 a0_0) := (blk_cell BK258.out 0).trans rfl
                          have hcz15_1 : wr.cell? ⟨gb258, 1, none⟩ = some (.slice (some ad259) l0_1.length c0_1) := (blk_cell BK258.out 1).trans rfl
                          have hfz15_0 := blk_frozen BK258.out 0
                          have hfz15_1 := blk_frozen BK258.out 1
                          have p260 : 0 ≤ (x4_1 : Int) := of_decide_eq_true (by first | (with_reducible assumption) | assumption)
                          have q260 : x4_1 < (l0_1.length : Int) := of_decide_eq_true (by first | (with_reducible assumption) | assumption)
                          obtain ⟨ad260, A260_0, c260_0, e260, hx260_0, hl260_0, hi260_0⟩ := at_L1 HR0_1.out x4_1 p260 q260
                          obtain rfl : ad259 = ad260 := (by injection e260)
                          replace hx260_0 := (HB.out.cell (World.block_lt_of_cell? w _ hx260_0)).trans hx260_0
                          have HR260_0 := Aside0.mk hi260_0
                          have HC260_0 := Aside0.mk hl260_0
                          clear hi260_0 hl260_0
                          replace p260 := eq_true p260
                          replace q260 := eq_true q260
                          have p261 : 0 ≤ (x7_2 : Int) := of_decide_eq_true (by first | (with_reducible assumption) | assumption)
                          have q261 : x7_2 < ((rd_L1 l0_1 x4_1).length : Int) := of_decide_eq_true (by first | (with_reducible assumption) | assumption)
                          obtain ⟨ad261, e261, hx261_0⟩ := Kd.at_bool HR260_0.out x7_2 p261 q261
                          (try rw [← Nbq11.out] at hx261_0)
                          cases e261
                          replace hx261_0 := (HB.out.cell (World.block_lt_of_cell? w _ hx261_0)).trans hx261_0
                          replace p261 := eq_true p261
                          replace q261 := eq_true q261
                          go_wp2
                          go_roundg k2
                          case measure => have := HK1.out; have := HK2.out; omega
                          case rel => exact ⟨(x3_2), (x6_2), (wrap64 (x7_2 + 1)), (by first | rfl | (simp; done) | (simp [*]; done)), (by first | rfl | (simp; done) | (simp [*]; done)), (by first | rfl | (simp; done) | (simp [*]; done)), H', ⟨by have := HK1.out; have := HK2.out; omega⟩, ⟨by (with_reducible repeat (first | refine blk_drewN ?_ _ | refine blk_drew ?_ | refine blk_alloc ?_ _)); exact BK258.out⟩, ⟨by repeat (first | (with_reducible first | exact HB.out | apply below_alloc | apply pw_below_drewN | apply below_drew1 | refine below_set ?_ GE258.out) | exact HB.out)⟩⟩
                      · rw [if_neg c10] at H
                        exact absurd H (by simp)
                    · rw [if_neg c9] at H
                      exact absurd H (by simp)
                  · rw [if_neg c8] at H
                    exact absurd H (by simp)
                · rw [if_neg c7] at H
                  exact absurd H (by simp)
              · rw [if_neg c6] at H
                have c6b0 : decide (x7_2 < ((rd_L1 l0_1 x4_1).length : Int)) = false := decide_eq_false c6
                clear c6
                have H' := Aside0.mk H
                clear H
                go_wp2
                go_roundg k2
                case measure => have := HK1.out; have := HK2.out; omega
                case rel => exact ⟨(x3_2), (wrap64 (x4_1 + 1)), (by first | rfl | (simp; done) | (simp [*]; done)), (by first | rfl | (simp; done) | (simp [*]; done)), H', ⟨by have := HK1.out; have := HK2.out; omega⟩, ⟨by (with_reducible repeat (first | refine blk_drewN ?_ _ | refine blk_drew ?_ | refine blk_alloc ?_ _)); exact BK258.out⟩, ⟨by repeat (first | (with_reducible first | exact HB.out | apply below_alloc | apply pw_below_drewN | apply below_drew1 | refine below_set ?_ GE258.out) | exact HB.out)⟩⟩
        · rw [if_neg c4] at H
          exact absurd H (by simp)
      · rw [if_neg c3] at H
        have c3b0 : decide (x4_1 < (l0_1.length : Int)) = false := decide_eq_false c3
        clear c3
        obtain rfl := Option.some.inj H
        have hcz16_0 : wr.cell? ⟨gb258, 0, none⟩ = some (.int .u64 a0_0) := (blk_cell BK258.out 0).trans rfl
        have hcz16_1 : wr.cell? ⟨gb258, 1, none⟩ = some (.slice A0_1 l0_1.length c0_1) := (blk_cell BK258.out 1).trans rfl
        have hfz16_0 := blk_frozen BK258.out 0
        have hfz16_1 := blk_frozen BK258.out 1
        go_wp2
        go_ret
        exact ⟨by first | rfl | (simp [errW_none, errW_some] <;> rfl) | (simp [*, errW_none, errW_some] <;> rfl), by repeat (first | (with_reducible first | exact HB.out | apply below_alloc | apply pw_below_drewN | apply below_drew1 | refine below_set ?_ GE258.out) | exact HB.out)⟩

end Go.Proofs.YteakbghjhckoeaaDoor.PBitmapTurns
