/- The functions that a law uses, each as a plain function, with the proof that a call of the Go function comes to its answer. Condition of each: the arguments read as the data that it names, and the plain function has an answer. Written by a program of this session (standin.py). -/
import Derived.Test.YtmlcafnnhpfpaaaPBloomTurnsx0
import Derived.Test.YtmlcafnnhpfpaaaPBloomTurnsx4
namespace Go.Proofs.Ytmlcafnnhpfpaaa.PBloomTurns
open Go.RowKit Go.Proofs.YtmlcafnnhpfpaaaW.PrintWords Go.Proofs.YtmlcafnnhpfpaaaW.PrintLast Go.Proofs.YtmlcafnnhpfpaaaW.PrintMore
attribute [local go_sem] max2_int min2_int max_two min_two max_three min_three max_four min_four   -- for this text's walks alone
set_option linter.unusedVariables false
set_option linter.unusedSimpArgs false

/-! ### rillmeterref10_at: function 36 -/
def rillmeterref10_at.l0 : Nat → ByteArray → List Bool → Int → Int → Int → List Bool → Option (List Bool)
  | 0, _, _, _, _, _, _ => none
  | k + 1, x1, x5, x6, x212000, x212001, x212002 => if x6 < x212001 then ((rillmeterref02_Row.f k x212000 x6).bind fun t215 => ((rillmeterref02_Cell.f k t215 x1 (x212002.length : Int)).bind fun t216 => (if 0 ≤ t216 then (if t216 < (x5.length : Int) then (rillmeterref10_at.l0 k x1 (x5.set (t216 : Int).toNat true) (wrap64 (x6 + 1)) x212000 x212001 x212002) else (none)) else (none)))) else (some x5)
def rillmeterref10_at.f (k : Nat) (a0_0 : Int) (a0_1 : Int) (l0_2 : List Bool) (a1 : ByteArray) : Option (List Bool) := if 0 ≤ (l0_2.length : Int) then (if ((l0_2.length : Int) : Int).toNat ≤ 281474976710656 then (rillmeterref10_at.l0 k a1 (List.replicate ((l0_2.length : Int) : Int).toNat false) 0 a0_0 a0_1 l0_2) else (none)) else (none)
theorem rillmeterref10_at.mono_l : ∀ k, (∀ y0 y1 y2 y3 y4 y5, LeO (rillmeterref10_at.l0 k y0 y1 y2 y3 y4 y5) (rillmeterref10_at.l0 (k + 1) y0 y1 y2 y3 y4 y5))
  | 0 => fun _ _ _ _ _ _ r h => by simp [rillmeterref10_at.l0] at h
  | k + 1 => by
    have ih0 := rillmeterref10_at.mono_l k
    · intro y0 y1 y2 y3 y4 y5
      unfold rillmeterref10_at.l0
      repeat' first
      | (with_reducible exact ih0 _ _ _ _ _ _)
      | (with_reducible exact rillmeterref02_Cell.mono _ _ _ _)
      | (with_reducible exact rillmeterref02_Row.mono _ _ _)
      | (with_reducible exact LeO.refl _)
      | (with_reducible exact LeO.none _)
      | (with_reducible refine LeO.ite ?_ ?_)
      | (with_reducible refine LeO.bind ?_ (fun _ => ?_))
      | exact ih0 _ _ _ _ _ _
      | exact rillmeterref02_Cell.mono _ _ _ _
      | exact rillmeterref02_Row.mono _ _ _
      | exact LeO.none _
      | refine LeO.ite ?_ ?_
      | refine LeO.bind ?_ (fun _ => ?_)
theorem rillmeterref10_at.mono : ∀ a0 a1 a2 a3 k, LeO (rillmeterref10_at.f k a0 a1 a2 a3) (rillmeterref10_at.f (k + 1) a0 a1 a2 a3) := by
  intro a0 a1 a2 a3 k
  have ih0 := rillmeterref10_at.mono_l k
  unfold rillmeterref10_at.f
  repeat' first
      | (with_reducible exact ih0 _ _ _ _ _ _)
      | (with_reducible exact rillmeterref02_Cell.mono _ _ _ _)
      | (with_reducible exact rillmeterref02_Row.mono _ _ _)
      | (with_reducible exact LeO.refl _)
      | (with_reducible exact LeO.none _)
      | (with_reducible refine LeO.ite ?_ ?_)
      | (with_reducible refine LeO.bind ?_ (fun _ => ?_))
      | exact ih0 _ _ _ _ _ _
      | exact rillmeterref02_Cell.mono _ _ _ _
      | exact rillmeterref02_Row.mono _ _ _
      | exact LeO.none _
      | refine LeO.ite ?_ ?_
      | refine LeO.bind ?_ (fun _ => ?_)
def rillmeterref10_at.T5 : Bool × List (List Nat × List Nat) := (true, [([], []), ([], []), ([1], [1]), ([], []), ([2, 3], [2, 3]), ([], []), ([], []), ([6], [6]), ([7], [7]), ([4, 5, 8, 4], [4, 5, 8]), ([0, 9, 0, 1, 2, 3, 4, 5, 6, 7, 8, 9], [0, 9]), ([10, 9, 0, 1, 2, 3, 4, 5, 6, 7, 8, 9], [10])])
def rillmeterref10_at.B5 : List Nat := [0, 0, 2, 0, 14, 0, 0, 64, 192, 510, 1023, 2047]
theorem rillmeterref10_at.tab5 : rtab .any (opsOf Try.f36 5) = rillmeterref10_at.T5 := by kernel_rfl
theorem rillmeterref10_at.bits5 : waitsOk rillmeterref10_at.T5.2 rillmeterref10_at.B5 = true := by kernel_rfl
set_option maxHeartbeats 8000000 in
set_option maxRecDepth 100000 in
theorem rillmeterref10_at.calls (k : Nat) (a0_0 : Int) (a0_1 : Int) (A0_2 : Option Addr) (c0_2 : Nat) (l0_2 : List Bool) (a1 : ByteArray) (r : List Bool) (w : World) (hr0_2 : Kd.C Kd.bool w A0_2 l0_2.length l0_2) (hc0_2 : l0_2.length ≤ c0_2) (h : rillmeterref10_at.f k a0_0 a0_1 l0_2 a1 = some r) :
    Calls Try.prog 36 #[.agg #[.int .u64 a0_0, .int .i64 a0_1, .slice A0_2 l0_2.length c0_2], .string a1] w fun e w' => ∃ v0_ : Value, e = .returned (v0_) ∧ Kd.R Kd.bool 4 w' w.heap.size (fun _ => True) v0_ r ∧ Below w.heap.size w w' := by
  have hu30 := Try.underlying30
  have HR0_2 := Aside0.mk hr0_2
  have HC0_2 := Aside0.mk hc0_2
  clear hr0_2 hc0_2
  have HB := Aside0.mk (Below.refl w.heap.size w)
  have H : (if 0 ≤ (l0_2.length : Int) then (if ((l0_2.length : Int) : Int).toNat ≤ 281474976710656 then (rillmeterref10_at.l0 k a1 (List.replicate ((l0_2.length : Int) : Int).toNat false) 0 a0_0 a0_1 l0_2) else (none)) else (none)) = some r := h
  clear h
  by_cases c3 : 0 ≤ (l0_2.length : Int)
  · rw [if_pos c3] at H
    have c3b0 := eq_true c3
    have c3b1 : decide (0 ≤ (l0_2.length : Int)) = true := decide_eq_true c3
    clear c3
    by_cases c4 : ((l0_2.length : Int) : Int).toNat ≤ 281474976710656
    · rw [if_pos c4] at H
      have c4b0 := eq_true c4
      have c4b1 : decide (((l0_2.length : Int) : Int).toNat ≤ 281474976710656) = true := decide_eq_true c4
      clear c4
      obtain ⟨y212, hy212⟩ : ∃ y_ : List Bool, y_ = (List.replicate ((l0_2.length : Int) : Int).toNat false) := ⟨_, rfl⟩
      replace H : (rillmeterref10_at.l0 k a1 y212 0 a0_0 a0_1 l0_2) = some r := by first | (rw [hy212]; with_reducible exact H) | (have H2_ := (Option.bind_some _ _).symm.trans H; rw [hy212]; with_reducible exact H2_) | (have H2_ := (Option.bind_some _ _).symm.trans H; with_reducible exact H2_) | with_reducible exact H | (rw [hy212]; exact H) | exact H
      have Ny212 := Aside0.mk hy212
      clear hy212
      have H' := Aside0.mk H
      clear H
      go_enter Try.func36, Try.ntmps36
      go_wp2_with (first | ((with_reducible refine gate_dst (N := 2) rfl ?_); refine box_event ?hg (N := 2) ?hd (cs := #[.int .u64 a0_0, .int .i64 a0_1, .slice A0_2 l0_2.length c0_2]) (t := 30) ?hr ?_; (case hd => rfl); (case hg => rfl); (case hr => first | (go_simp; done) | (go_simp; rfl)); intro gb211 hg w5 hbox hb; have n0_ := Aside0.mk (below_step (by repeat (first | (with_reducible first | exact HB.out | apply below_alloc | apply pw_below_drewN | apply below_drew1) | exact HB.out)) hb); have n1_ := Aside0.mk (hbox); have n2_ := Aside0.mk ((by rw [hg]; exact (below_size (by repeat (first | (with_reducible first | exact HB.out | apply below_alloc | apply pw_below_drewN | apply below_drew1) | exact HB.out))) : w.heap.size ≤ gb211)); have n3_ := Aside0.mk ((by rw [hg]; exact (below_size (by repeat (first | (with_reducible first | exact HB.out | apply below_alloc | apply pw_below_drewN | apply below_drew1) | exact HB.out))) : w.heap.size ≤ gb211)); clear HB; have HB := n0_; have BK211 := n1_; have GW211 := n2_; have GE211 := n3_; clear n0_ n1_ n2_ n3_; clear hb hbox hg; have hcz6_0 : w5.cell? ⟨gb211, 0, none⟩ = some (.int .u64 a0_0) := (blk_cell BK211.out 0).trans rfl; have hcz6_1 : w5.cell? ⟨gb211, 1, none⟩ = some (.int .i64 a0_1) := (blk_cell BK211.out 1).trans rfl; have hcz6_2 : w5.cell? ⟨gb211, 2, none⟩ = some (.slice A0_2 l0_2.length c0_2) := (blk_cell BK211.out 2).trans rfl; have hfz6_0 := blk_frozen BK211.out 0; have hfz6_1 := blk_frozen BK211.out 1; have hfz6_2 := blk_frozen BK211.out 2) | ((with_reducible refine gate_dst (N := 10) rfl ?_); refine Kd.R_make Kd.bool _ 4 rfl (N := 10) rfl 23 _ _ rfl (l0_2.length : Int) rfl rfl Try.underlying23 (.bool false) 1 info4 rfl (by decide) (by omega) false (ok := fun _ => True) (okp := fun _ => True) rfl (fun _ hk => hk) trivial (of_decide_eq_true (by first | (with_reducible assumption) | assumption)) (Nat.le_trans (Nat.mul_le_mul_right _ (of_decide_eq_true (by first | (with_reducible assumption) | assumption) : (l0_2.length : Int).toNat ≤ 281474976710656)) (by omega)) (Below.refl _ _) (Nat.le_refl _) ?_; intro v213 w7 ho8 hb hg_ hnew_; clear hg_ hnew_; (first | rw [← Ny212.out] at ho8 | (simp only [Int.reduceToNat] at ho8; rw [← Ny212.out] at ho8)); have n0_ := Aside0.mk (Kd.R_lower ho8 (below_size (by repeat (first | (with_reducible first | exact HB.out | apply below_alloc | apply pw_below_drewN | apply below_drew1 | refine below_set ?_ GE211.out) | exact HB.out)))); have n1_ := Aside0.mk (blk_below (g := gb211) (o := .cells #[.int .u64 a0_0, .int .i64 a0_1, .slice A0_2 l0_2.length c0_2] 30 (0, 0)) (by (with_reducible repeat (first | refine blk_drewN ?_ _ | refine blk_drew ?_ | refine blk_alloc ?_ _)); exact BK211.out) hb); have n2_ := Aside0.mk (below_step (by repeat (first | (with_reducible first | exact HB.out | apply below_alloc | apply pw_below_drewN | apply below_drew1 | refine below_set ?_ GE211.out) | exact HB.out)) hb); clear BK211; clear HB; have HO214 := n0_; have BK211 := n1_; have HB := n2_; clear n0_ n1_ n2_; clear hb ho8))
      go_loopg [6] k (fun kq v6 w' => ∃ (x5_1 : List Bool) (x6_1 : Int), v6 = .int .i64 x6_1 ∧ Aside0 (rillmeterref10_at.l0 kq a1 x5_1 x6_1 a0_0 a0_1 l0_2 = some r) ∧ Aside0 (kq ≤ k) ∧ Aside0 (Kd.R Kd.bool 4 w' w.heap.size (fun _ => True) v213 x5_1) ∧ Aside0 (w'.heap[gb211]? = some (.cells #[.int .u64 a0_0, .int .i64 a0_1, (.slice A0_2 l0_2.length c0_2)] 30 (0, 0))) ∧ Aside0 (Below w.heap.size w w'))
      case atStart => exact ⟨(y212), (0), (by first | rfl | (simp; done) | (simp [*]; done)), H', ⟨Nat.le_refl _⟩, ⟨by (with_reducible repeat (first | apply Kd.R_alloc | apply Kd.R_drewN | apply Kd.R_drew)); exact HO214.out⟩, ⟨by (with_reducible repeat (first | refine blk_drewN ?_ _ | refine blk_drew ?_ | refine blk_alloc ?_ _)); exact BK211.out⟩, ⟨by repeat (first | (with_reducible first | exact HB.out | apply below_alloc | apply pw_below_drewN | apply below_drew1 | refine below_set ?_ GE211.out) | exact HB.out)⟩⟩
      case round =>
        clear H'
        try clear p2
        try clear c3
        try clear c3b0
        try clear c3b1
        try clear c4
        try clear c4b0
        try clear c4b1
        try clear hcz6_0
        try clear hcz6_1
        try clear hcz6_2
        try clear hfz6_0
        try clear hfz6_1
        try clear hfz6_2
        obtain ⟨x5_1, x6_1, rfl, HA, HK1, HO_5, BK211, HB⟩ := hrel
        cases gk with
        | zero => exact absurd HA.out (by simp [rillmeterref10_at.l0])
        | succ k1 =>
          have H := HA.out
          clear HA
          simp only [rillmeterref10_at.l0] at H
          by_cases c9 : x6_1 < a0_1
          · rw [if_pos c9] at H
            have c9b0 : decide (x6_1 < a0_1) = true := decide_eq_true c9
            clear c9
            replace H := Option.bind_eq_some_iff.mp H
            obtain ⟨t215, A100, H⟩ := H
            replace H : ((rillmeterref02_Cell.f k1 t215 a1 (l0_2.length : Int)).bind fun t216 => (if 0 ≤ t216 then (if t216 < (x5_1.length : Int) then (rillmeterref10_at.l0 k1 a1 (x5_1.set (t216 : Int).toNat true) (wrap64 (x6_1 + 1)) a0_0 a0_1 l0_2) else (none)) else (none))) = some r := H
            have A10 := Aside0.mk A100
            clear A100
            replace H := Option.bind_eq_some_iff.mp H
            obtain ⟨t216, A110, H⟩ := H
            replace H : (if 0 ≤ t216 then (if t216 < (x5_1.length : Int) then (rillmeterref10_at.l0 k1 a1 (x5_1.set (t216 : Int).toNat true) (wrap64 (x6_1 + 1)) a0_0 a0_1 l0_2) else (none)) else (none)) = some r := H
            have A11 := Aside0.mk A110
            clear A110
            by_cases c12 : 0 ≤ t216
            · rw [if_pos c12] at H
              have c12b0 : decide (0 ≤ t216) = true := decide_eq_true c12
              clear c12
              by_cases c13 : t216 < (x5_1.length : Int)
              · rw [if_pos c13] at H
                have c13b0 : decide (t216 < (x5_1.length : Int)) = true := decide_eq_true c13
                clear c13
                obtain ⟨y217, hy217⟩ : ∃ y_ : List Bool, y_ = (x5_1.set (t216 : Int).toNat true) := ⟨_, rfl⟩
                replace H : (rillmeterref10_at.l0 k1 a1 y217 (wrap64 (x6_1 + 1)) a0_0 a0_1 l0_2) = some r := by first | (rw [hy217]; with_reducible exact H) | (have H2_ := (Option.bind_some _ _).symm.trans H; rw [hy217]; with_reducible exact H2_) | (have H2_ := (Option.bind_some _ _).symm.trans H; with_reducible exact H2_) | with_reducible exact H | (rw [hy217]; exact H) | exact H
                have Ny217 := Aside0.mk hy217
                clear hy217
                have H' := Aside0.mk H
                clear H
                have hcz15_0 : wr.cell? ⟨gb211, 0, none⟩ = some (.int .u64 a0_0) := (blk_cell BK211.out 0).trans rfl
                have hcz15_1 : wr.cell? ⟨gb211, 1, none⟩ = some (.int .i64 a0_1) := (blk_cell BK211.out 1).trans rfl
                have hcz15_2 : wr.cell? ⟨gb211, 2, none⟩ = some (.slice A0_2 l0_2.length c0_2) := (blk_cell BK211.out 2).trans rfl
                have hfz15_0 := blk_frozen BK211.out 0
                have hfz15_1 := blk_frozen BK211.out 1
                have hfz15_2 := blk_frozen BK211.out 2
                try go_wp2
                have n0_ := Aside0.mk (Kd.R_drew HO_5.out)
                have n1_ := Aside0.mk (blk_drew BK211.out)
                have n2_ := Aside0.mk (below_drew1 HB.out)
                clear HO_5
                clear BK211
                clear HB
                have HO_5 := n0_
                have BK211 := n1_
                have HB := n2_
                clear n0_ n1_ n2_
                refine start_ (n := 12) (S := fun w' => w'.cell? ⟨gb211, 0, none⟩ = some (.int .u64 a0_0) ∧ w'.cell? ⟨gb211, 1, none⟩ = some (.int .i64 a0_1) ∧ w'.cell? ⟨gb211, 2, none⟩ = some (.slice A0_2 l0_2.length c0_2)) (ds := [11]) #[false, false, false, false, false, false, false, false, false, false, false, false] (by kernel_rfl) rfl rfl ⟨(blk_cell BK211.out 0).trans rfl, (blk_cell BK211.out 1).trans rfl, (blk_cell BK211.out 2).trans rfl⟩ (fun hHeld => ?_); refine with_tabW rillmeterref10_at.tab5 rillmeterref10_at.bits5 (fun HT_ HW_ => ?_)
                generalize wr.drew = w16 at HO_5 BK211 HB hHeld ⊢
                refine pure_ (i := 0) (N := some 17) (v := ?_) (a' := ?_) #[true, false, false, false, false, false, false, false, false, false, false, false] rfl rfl (any_of HT_.out (by kernel_rfl)) (fun _ _ _ h => h) (Or.inl ⟨by rfl, ?_⟩) ?_ ?_
                rotate_left
                · intro w'
                  go_simp
                  with_reducible rfl
                rotate_left
                · simp only [Act.put, List.setIfInBounds_toArray, List.set_cons_zero, List.set_cons_succ, i64_w, i32_w]
                  rfl
                refine pure_ (i := 1) (N := some 18) (v := ?_) (a' := ?_) #[true, true, false, false, false, false, false, false, false, false, false, false] rfl rfl (any_of HT_.out (by kernel_rfl)) (fun _ _ _ h => h) (Or.inl ⟨by rfl, ?_⟩) ?_ ?_
                rotate_left
                · intro w'
                  go_simp
                  with_reducible rfl
                rotate_left
                · simp only [Act.put, List.setIfInBounds_toArray, List.set_cons_zero, List.set_cons_succ, i64_w, i32_w]
                  rfl
                refine pure_ (i := 3) (N := some 20) (v := ?_) (a' := ?_) #[true, true, false, true, false, false, false, false, false, false, false, false] rfl rfl (any_of HT_.out (by kernel_rfl)) (fun _ _ _ h => h) (Or.inl ⟨by rfl, ?_⟩) ?_ ?_
                rotate_left
                · intro w'
                  go_simp
                  with_reducible rfl
                rotate_left
                · simp only [Act.put, List.setIfInBounds_toArray, List.set_cons_zero, List.set_cons_succ, i64_w, i32_w]
                  rfl
                refine pure_ (i := 5) (N := some 22) (v := ?_) (a' := ?_) #[true, true, false, true, false, true, false, false, false, false, false, false] rfl rfl (any_of HT_.out (by kernel_rfl)) (fun _ _ _ h => h) (Or.inl ⟨by rfl, ?_⟩) ?_ ?_
                rotate_left
                · intro w'
                  go_simp
                  with_reducible rfl
                rotate_left
                · simp only [Act.put, List.setIfInBounds_toArray, List.set_cons_zero, List.set_cons_succ, i64_w, i32_w]
                  rfl
                refine pure_ (i := 6) (N := some 23) (v := ?_) (a' := ?_) #[true, true, false, true, false, true, true, false, false, false, false, false] rfl rfl (any_of HT_.out (by kernel_rfl)) (fun _ _ _ h => h) (Or.inl ⟨by rfl, ?_⟩) ?_ ?_
                rotate_left
                · intro w'
                  go_simp
                  with_reducible rfl
                rotate_left
                · simp only [Act.put, List.setIfInBounds_toArray, List.set_cons_zero, List.set_cons_succ, i64_w, i32_w]
                  rfl
                refine take_ (i := 2) (N := some 19) (v := ?_) (a' := ?_) #[true, true, true, true, false, true, true, false, false, false, false, false] rfl rfl (take_ofW HT_.out HW_.out (by kernel_rfl)) (fun _ _ _ h => h) (Or.inl ⟨by rfl, ?_⟩) hHeld ?_ ?_
                rotate_left
                · rintro w' ⟨s0, s1, s2⟩
                  go_simp
                  with_reducible rfl
                rotate_left
                · simp only [Act.put, List.setIfInBounds_toArray, List.set_cons_zero, List.set_cons_succ, i64_w, i32_w]
                  rfl
                refine take_ (i := 7) (N := some 24) (v := ?_) (a' := ?_) #[true, true, true, true, false, true, true, true, false, false, false, false] rfl rfl (take_ofW HT_.out HW_.out (by kernel_rfl)) (fun _ _ _ h => h) (Or.inl ⟨by rfl, ?_⟩) hHeld ?_ ?_
                rotate_left
                · rintro w' ⟨s0, s1, s2⟩
                  go_simp
                  with_reducible rfl
                rotate_left
                · simp only [Act.put, List.setIfInBounds_toArray, List.set_cons_zero, List.set_cons_succ, i64_w, i32_w]
                  rfl
                refine pure_ (i := 8) (N := some 25) (v := ?_) (a' := ?_) #[true, true, true, true, false, true, true, true, true, false, false, false] rfl rfl (any_of HT_.out (by kernel_rfl)) (fun _ _ _ h => h) (Or.inl ⟨by rfl, ?_⟩) ?_ ?_
                rotate_left
                · intro w'
                  go_simp
                  with_reducible rfl
                rotate_left
                · simp only [Act.put, List.setIfInBounds_toArray, List.set_cons_zero, List.set_cons_succ, i64_w, i32_w]
                  rfl
                refine one_ (i := 4) (N := some 21) #[true, true, true, true, true, true, true, true, true, false, false, false] rfl rfl (one_of HT_.out (by kernel_rfl)) (by decide) (fun K hK => ?_)
                refine goes_ Try.func21 (by kernel_rfl) rfl #[.int .u64 a0_0, .int .i64 x6_1] (by rfl) rfl rfl (by (try simp only [List.map_toArray, List.map_cons, List.map_nil]); first | done | rfl | (simp only [List.length_drop, List.length_take]; rfl)) ?_
                with_reducible refine (rillmeterref02_Row.calls k1 a0_0 x6_1 t215 _ A10.out).mono ?_
                rintro e w' ⟨rfl, ⟨nd, rfl⟩⟩
                refine ⟨_, rfl, ?_⟩
                refine hK.out _ _ ⟨(blk_cell BK211.out 0).trans rfl, (blk_cell BK211.out 1).trans rfl, (blk_cell BK211.out 2).trans rfl⟩ (fun hHeld => ?_)
                clear hK K
                refine norm_ (a' := ?_) ?_ ?_
                rotate_left
                · show Act.put _ (some 21) _ = _
                  simp only [Act.put, List.setIfInBounds_toArray, List.set_cons_zero, List.set_cons_succ, i64_w, i32_w]
                  rfl
                refine one_ (i := 9) (N := some 26) #[true, true, true, true, true, true, true, true, true, true, false, false] rfl rfl (one_of HT_.out (by kernel_rfl)) (by decide) (fun K hK => ?_)
                refine goes_ Try.func20 (by kernel_rfl) rfl #[.int .u64 t215, .string a1, .int .i64 (l0_2.length : Int)] (by rfl) rfl rfl (by (try simp only [List.map_toArray, List.map_cons, List.map_nil]); first | done | rfl | (simp only [List.length_drop, List.length_take]; rfl)) ?_
                with_reducible refine (rillmeterref02_Cell.calls k1 t215 a1 (l0_2.length : Int) t216 _ A11.out).mono ?_
                rintro e w17 ⟨rfl, hb⟩
                refine ⟨_, rfl, ?_⟩
                have n0_ := Aside0.mk (Kd.R_below (by (with_reducible repeat (first | apply Kd.R_alloc | apply Kd.R_drewN | apply Kd.R_drew)); exact HO_5.out) hb)
                have n1_ := Aside0.mk (blk_below (g := gb211) (o := .cells #[.int .u64 a0_0, .int .i64 a0_1, .slice A0_2 l0_2.length c0_2] 30 (0, 0)) (by (with_reducible repeat (first | refine blk_drewN ?_ _ | refine blk_drew ?_ | refine blk_alloc ?_ _)); exact BK211.out) hb)
                have n2_ := Aside0.mk (below_step (by repeat (first | (with_reducible first | exact HB.out | apply below_alloc | apply pw_below_drewN | apply below_drew1 | refine below_set ?_ GE211.out) | exact HB.out)) hb)
                clear HO_5
                clear BK211
                clear HB
                have HO_5 := n0_
                have BK211 := n1_
                have HB := n2_
                clear n0_ n1_ n2_
                (try clear hb)
                (try clear hb2)
                (try clear hk)
                (try clear hi)
                have p14 : 0 ≤ (t216 : Int) := of_decide_eq_true (by first | (with_reducible assumption) | assumption)
                have q14 : (t216 : Int) < ((x5_1.length : Int) : Int) := of_decide_eq_true (by first | (with_reducible assumption) | assumption)
                obtain ⟨go14, co14, eo14, gb14, gl14, cl14, HG14⟩ := Kd.R_form HO_5.out (by omega)
                (first | cases eo14 | (injection eo14 with ea_ en_ ec_; (first | subst ea_ | (injection ea_ with ea_; subst ea_)); subst ec_; clear en_))
                have GB14 := Aside0.mk gb14
                have GG14 := Aside0.mk HG14
                clear gb14 gl14 HG14
                obtain ⟨hx14_0, hf14_0⟩ := Kd.R_celln false HO_5.out (t216 : Int) p14 q14
                replace p14 := eq_true p14
                replace q14 := eq_true q14
                have HP18 := Kd.R_putn HO_5.out (t216 : Int) true
                rw [← Ny217.out] at HP18
                have HQ18 := Aside0.mk HP18
                clear HP18
                refine hK.out _ _ ⟨(blk_cell BK211.out 0).trans rfl, (blk_cell BK211.out 1).trans rfl, (blk_cell BK211.out 2).trans rfl⟩ (fun hHeld => ?_)
                clear hK K
                refine norm_ (a' := ?_) ?_ ?_
                rotate_left
                · show Act.put _ (some 26) _ = _
                  simp only [Act.put, List.setIfInBounds_toArray, List.set_cons_zero, List.set_cons_succ, i64_w, i32_w]
                  rfl
                refine pure_ (i := 10) (N := some 27) (v := ?_) (a' := ?_) #[true, true, true, true, true, true, true, true, true, true, true, false] rfl rfl (any_of HT_.out (by kernel_rfl)) (fun _ _ _ h => h) (Or.inl ⟨by rfl, ?_⟩) ?_ ?_
                rotate_left
                · intro w'
                  go_simp
                  with_reducible rfl
                rotate_left
                · simp only [Act.put, List.setIfInBounds_toArray, List.set_cons_zero, List.set_cons_succ, i64_w, i32_w]
                  rfl
                refine last_ (i := 11) (N := none) #[true, true, true, true, true, true, true, true, true, true, true, true] rfl rfl (one_of HT_.out (by kernel_rfl)) (by decide) (fun K hK => ?_)
                refine skip_ (w1 := ?_) (by rfl) rfl ?_ ?_
                rotate_left
                · go_simp
                  rfl
                refine hK.out _ _ ?_
                clear hK K
                refine done_ (done_of HT_.out (by kernel_rfl)) ?_
                try go_wp2
                go_roundg k1
                case measure => have := HK1.out; omega
                case rel => exact ⟨(y217), (wrap64 (x6_1 + 1)), (by first | rfl | (simp; done) | (simp [*]; done)), H', ⟨by have := HK1.out; omega⟩, ⟨by (with_reducible repeat (first | apply Kd.R_alloc | apply Kd.R_drewN | apply Kd.R_drew)); exact HQ18.out⟩, ⟨by (with_reducible repeat (first | refine blk_drewN ?_ _ | refine blk_drew ?_ | refine blk_alloc ?_ _)); refine blk_far ?_ (by have h_ := Kd.R_ne HO_5.out BK211.out (by decide); intro e_; exact h_ (by rw [e_]; rfl)) _; (with_reducible repeat (first | refine blk_drewN ?_ _ | refine blk_drew ?_ | refine blk_alloc ?_ _)); exact BK211.out⟩, ⟨by repeat (first | (with_reducible first | exact HB.out | apply below_alloc | apply pw_below_drewN | apply below_drew1 | refine below_set ?_ GB14.out | refine below_set ?_ GE211.out) | exact HB.out)⟩⟩
              · rw [if_neg c13] at H
                exact absurd H (by simp)
            · rw [if_neg c12] at H
              exact absurd H (by simp)
          · rw [if_neg c9] at H
            have c9b0 : decide (x6_1 < a0_1) = false := decide_eq_false c9
            clear c9
            obtain rfl := Option.some.inj H
            have hcz19_0 : wr.cell? ⟨gb211, 0, none⟩ = some (.int .u64 a0_0) := (blk_cell BK211.out 0).trans rfl
            have hcz19_1 : wr.cell? ⟨gb211, 1, none⟩ = some (.int .i64 a0_1) := (blk_cell BK211.out 1).trans rfl
            have hcz19_2 : wr.cell? ⟨gb211, 2, none⟩ = some (.slice A0_2 l0_2.length c0_2) := (blk_cell BK211.out 2).trans rfl
            have hfz19_0 := blk_frozen BK211.out 0
            have hfz19_1 := blk_frozen BK211.out 1
            have hfz19_2 := blk_frozen BK211.out 2
            go_wp2
            go_ret
            exact ⟨_, by first | rfl | (simp [errW_none, errW_some] <;> rfl) | (simp [*, errW_none, errW_some] <;> rfl), by (with_reducible repeat (first | apply Kd.R_alloc | apply Kd.R_drewN | apply Kd.R_drew)); exact HO_5.out, by repeat (first | (with_reducible first | exact HB.out | apply below_alloc | apply pw_below_drewN | apply below_drew1 | refine below_set ?_ GE211.out) | exact HB.out)⟩
    · rw [if_neg c4] at H
      exact absurd H (by simp)
  · rw [if_neg c3] at H
    exact absurd H (by simp)

/-! ### rillmeterref10_Add: function 22 -/
def rillmeterref10_Add.l0 : Nat → List Bool → List Bool → Int → Int → Int → List Bool → Option (Int × Int × List Bool)
  | 0, _, _, _, _, _, _ => none
  | k + 1, x5, x6, x7, x219000, x219001, x219002 => if x7 < (x219002.length : Int) then (if 0 ≤ x7 then (if rdOf false x219002 x7 = true then (if x5.length < 140737488355328 then (rillmeterref10_Add.l0 k (x5 ++ [true]) x6 (wrap64 (x7 + 1)) x219000 x219001 x219002) else (none)) else (if x7 < (x6.length : Int) then (if x5.length < 140737488355328 then (rillmeterref10_Add.l0 k (x5 ++ [rdOf false x6 x7]) x6 (wrap64 (x7 + 1)) x219000 x219001 x219002) else (none)) else (none))) else (none)) else (some (x219000, x219001, x5))
def rillmeterref10_Add.f (k : Nat) (a0_0 : Int) (a0_1 : Int) (l0_2 : List Bool) (a1 : ByteArray) : Option (Int × Int × List Bool) := (rillmeterref10_at.f k a0_0 a0_1 l0_2 a1).bind fun t220 => (rillmeterref10_Add.l0 k ([] : List Bool) t220 0 a0_0 a0_1 l0_2)
theorem rillmeterref10_Add.mono_l : ∀ k, (∀ y0 y1 y2 y3 y4 y5, LeO (rillmeterref10_Add.l0 k y0 y1 y2 y3 y4 y5) (rillmeterref10_Add.l0 (k + 1) y0 y1 y2 y3 y4 y5))
  | 0 => fun _ _ _ _ _ _ r h => by simp [rillmeterref10_Add.l0] at h
  | k + 1 => by
    have ih0 := rillmeterref10_Add.mono_l k
    · intro y0 y1 y2 y3 y4 y5
      unfold rillmeterref10_Add.l0
      repeat' first
      | (with_reducible exact ih0 _ _ _ _ _ _)
      | (with_reducible exact rillmeterref10_at.mono _ _ _ _ _)
      | (with_reducible exact LeO.refl _)
      | (with_reducible exact LeO.none _)
      | (with_reducible refine LeO.ite ?_ ?_)
      | (with_reducible refine LeO.bind ?_ (fun _ => ?_))
      | exact ih0 _ _ _ _ _ _
      | exact rillmeterref10_at.mono _ _ _ _ _
      | exact LeO.none _
      | refine LeO.ite ?_ ?_
      | refine LeO.bind ?_ (fun _ => ?_)
theorem rillmeterref10_Add.mono : ∀ a0 a1 a2 a3 k, LeO (rillmeterref10_Add.f k a0 a1 a2 a3) (rillmeterref10_Add.f (k + 1) a0 a1 a2 a3) := by
  intro a0 a1 a2 a3 k
  have ih0 := rillmeterref10_Add.mono_l k
  unfold rillmeterref10_Add.f
  repeat' first
      | (with_reducible exact ih0 _ _ _ _ _ _)
      | (with_reducible exact rillmeterref10_at.mono _ _ _ _ _)
      | (with_reducible exact LeO.refl _)
      | (with_reducible exact LeO.none _)
      | (with_reducible refine LeO.ite ?_ ?_)
      | (with_reducible refine LeO.bind ?_ (fun _ => ?_))
      | exact ih0 _ _ _ _ _ _
      | exact rillmeterref10_at.mono _ _ _ _ _
      | exact LeO.none _
      | refine LeO.ite ?_ ?_
      | refine LeO.bind ?_ (fun _ => ?_)
set_option maxHeartbeats 8000000 in
set_option maxRecDepth 100000 in
theorem rillmeterref10_Add.calls (k : Nat) (a0_0 : Int) (a0_1 : Int) (A0_2 : Option Addr) (c0_2 : Nat) (l0_2 : List Bool) (a1 : ByteArray) (r1 : Int) (r2 : Int) (r3 : List Bool) (w : World) (hr0_2 : Kd.C Kd.bool w A0_2 l0_2.length l0_2) (hc0_2 : l0_2.length ≤ c0_2) (h : rillmeterref10_Add.f k a0_0 a0_1 l0_2 a1 = some (r1, r2, r3)) :
    Calls Try.prog 22 #[.agg #[.int .u64 a0_0, .int .i64 a0_1, .slice A0_2 l0_2.length c0_2], .string a1] w fun e w' => ∃ v2_ : Value, e = .returned (.agg #[.int .u64 r1, .int .i64 r2, v2_]) ∧ Kd.R Kd.bool 4 w' w.heap.size (fun _ => True) v2_ r3 ∧ Below w.heap.size w w' := by
  have hu30 := Try.underlying30
  have HR0_2 := Aside0.mk hr0_2
  have HC0_2 := Aside0.mk hc0_2
  clear hr0_2 hc0_2
  have HB := Aside0.mk (Below.refl w.heap.size w)
  have H : ((rillmeterref10_at.f k a0_0 a0_1 l0_2 a1).bind fun t220 => (rillmeterref10_Add.l0 k ([] : List Bool) t220 0 a0_0 a0_1 l0_2)) = some (r1, r2, r3) := h
  clear h
  replace H := Option.bind_eq_some_iff.mp H
  obtain ⟨t220, A30, H⟩ := H
  replace H : (rillmeterref10_Add.l0 k ([] : List Bool) t220 0 a0_0 a0_1 l0_2) = some (r1, r2, r3) := H
  have A3 := Aside0.mk A30
  clear A30
  have H' := Aside0.mk H
  clear H
  go_enter Try.func22, Try.ntmps22
  go_wp2_with (first | ((with_reducible refine gate_dst (N := 2) rfl ?_); refine box_event ?hg (N := 2) ?hd (cs := #[.int .u64 a0_0, .int .i64 a0_1, .slice A0_2 l0_2.length c0_2]) (t := 30) ?hr ?_; (case hd => rfl); (case hg => rfl); (case hr => first | (go_simp; done) | (go_simp; rfl)); intro gb218 hg w4 hbox hb; have n0_ := Aside0.mk (below_step (by repeat (first | (with_reducible first | exact HB.out | apply below_alloc | apply pw_below_drewN | apply below_drew1) | exact HB.out)) hb); have n1_ := Aside0.mk (hbox); have n2_ := Aside0.mk ((by rw [hg]; exact (below_size (by repeat (first | (with_reducible first | exact HB.out | apply below_alloc | apply pw_below_drewN | apply below_drew1) | exact HB.out))) : w.heap.size ≤ gb218)); have n3_ := Aside0.mk ((by rw [hg]; exact (below_size (by repeat (first | (with_reducible first | exact HB.out | apply below_alloc | apply pw_below_drewN | apply below_drew1) | exact HB.out))) : w.heap.size ≤ gb218)); clear HB; have HB := n0_; have BK218 := n1_; have GW218 := n2_; have GE218 := n3_; clear n0_ n1_ n2_ n3_; clear hb hbox hg) | ((with_reducible refine gate_dst (N := 4) rfl ?_); refine box_event ?hg (N := 4) ?hd (cs := #[.int .u64 0, .int .i64 0, .slice none 0 0]) (t := 30) ?hr ?_; (case hd => rfl); (case hg => rfl); (case hr => first | (go_simp; done) | (go_simp; rfl)); intro gb219 hg w5 hbox hb; have n0_ := Aside0.mk (blk_below (g := gb218) (o := .cells #[.int .u64 a0_0, .int .i64 a0_1, .slice A0_2 l0_2.length c0_2] 30 (0, 0)) (by (with_reducible repeat (first | refine blk_drewN ?_ _ | refine blk_drew ?_ | refine blk_alloc ?_ _)); exact BK218.out) hb); have n1_ := Aside0.mk (below_step (by repeat (first | (with_reducible first | exact HB.out | apply below_alloc | apply pw_below_drewN | apply below_drew1 | refine below_set ?_ GE218.out) | exact HB.out)) hb); have n2_ := Aside0.mk (hbox); have n3_ := Aside0.mk ((by rw [hg]; exact (below_size (by repeat (first | (with_reducible first | exact HB.out | apply below_alloc | apply pw_below_drewN | apply below_drew1 | refine below_set ?_ GE218.out) | exact HB.out))) : w.heap.size ≤ gb219)); have n4_ := Aside0.mk ((by rw [hg]; exact (below_size (by repeat (first | (with_reducible first | exact HB.out | apply below_alloc | apply pw_below_drewN | apply below_drew1 | refine below_set ?_ GE218.out) | exact HB.out))) : w.heap.size ≤ gb219)); have n5_ := Aside0.mk ((by rw [hg]; exact Nat.ne_of_lt (blk_lt (g := gb218) (o := .cells #[.int .u64 a0_0, .int .i64 a0_1, .slice A0_2 l0_2.length c0_2] 30 (0, 0)) (by (with_reducible repeat (first | refine blk_drewN ?_ _ | refine blk_drew ?_ | refine blk_alloc ?_ _)); exact BK218.out)) : gb218 ≠ gb219)); have n6_ := Aside0.mk ((by rw [hg]; exact Nat.ne_of_gt (blk_lt (g := gb218) (o := .cells #[.int .u64 a0_0, .int .i64 a0_1, .slice A0_2 l0_2.length c0_2] 30 (0, 0)) (by (with_reducible repeat (first | refine blk_drewN ?_ _ | refine blk_drew ?_ | refine blk_alloc ?_ _)); exact BK218.out)) : gb219 ≠ gb218)); clear BK218; clear HB; have BK218 := n0_; have HB := n1_; have BK219 := n2_; have GW219 := n3_; have GE219 := n4_; have NB218_219 := n5_; have NB219_218 := n6_; clear n0_ n1_ n2_ n3_ n4_ n5_ n6_; clear hb hbox hg; have hnb6 := NB218_219.out; have hnc6 := NB219_218.out; have hcz7_0 : w5.cell? ⟨gb218, 0, none⟩ = some (.int .u64 a0_0) := (blk_cell BK218.out 0).trans rfl; have hcz7_1 : w5.cell? ⟨gb218, 1, none⟩ = some (.int .i64 a0_1) := (blk_cell BK218.out 1).trans rfl; have hcz7_2 : w5.cell? ⟨gb218, 2, none⟩ = some (.slice A0_2 l0_2.length c0_2) := (blk_cell BK218.out 2).trans rfl; have hfz7_0 := blk_frozen BK218.out 0; have hfz7_1 := blk_frozen BK218.out 1; have hfz7_2 := blk_frozen BK218.out 2) | ((with_reducible refine gate_callee (f := 36) rfl ?_); refine goesL_ (some 10) rfl rfl Try.func36 (by kernel_rfl) rfl #[.agg #[.int .u64 a0_0, .int .i64 a0_1, .slice A0_2 l0_2.length c0_2], .string a1] rfl (by (try simp only [List.map_toArray, List.map_cons, List.map_nil]); first | done | rfl | (simp only [List.length_drop, List.length_take]; rfl)) ?_; (with_reducible refine (rillmeterref10_at.calls k a0_0 a0_1 _ _ l0_2 a1 t220 _ ?side1 ?side2 A3.out).mono ?_); (case side1 => repeat (first | exact (Kd.C_below HR0_2.out HB.out) | (with_reducible refine Kd.C_alloc ?_ _) | (with_reducible refine Kd.C_drewN ?_ _) | (with_reducible refine Kd.C_drew ?_))); (case side2 => exact HC0_2.out); rintro e w8 ⟨v221, rfl, ho0, hb⟩; refine ⟨_, rfl, ?_⟩; have n0_ := Aside0.mk (Kd.R_lower ho0 (below_size (by repeat (first | (with_reducible first | exact HB.out | apply below_alloc | apply pw_below_drewN | apply below_drew1 | refine below_set ?_ GE218.out | refine below_set ?_ GE219.out) | exact HB.out)))); have n1_ := Aside0.mk (blk_below (g := gb218) (o := .cells #[.int .u64 a0_0, .int .i64 a0_1, .slice A0_2 l0_2.length c0_2] 30 (0, 0)) (by (with_reducible repeat (first | refine blk_drewN ?_ _ | refine blk_drew ?_ | refine blk_alloc ?_ _)); exact BK218.out) hb); have n2_ := Aside0.mk (blk_below (g := gb219) (o := .cells #[.int .u64 0, .int .i64 0, .slice none 0 0] 30 (0, 0)) (by (with_reducible repeat (first | refine blk_drewN ?_ _ | refine blk_drew ?_ | refine blk_alloc ?_ _)); exact BK219.out) hb); have n3_ := Aside0.mk (below_step (by repeat (first | (with_reducible first | exact HB.out | apply below_alloc | apply pw_below_drewN | apply below_drew1 | refine below_set ?_ GE218.out | refine below_set ?_ GE219.out) | exact HB.out)) hb); clear BK218; clear BK219; clear HB; have HO222 := n0_; have BK218 := n1_; have BK219 := n2_; have HB := n3_; clear n0_ n1_ n2_ n3_; (try clear hb); (try clear hb2); (try clear hk); (try clear hi); (try clear ho0)))
  go_loopg [5, 7] k (fun kq v5 v7 w' => ∃ (x5_1 : List Bool) (x7_1 : Int), v7 = .int .i64 x7_1 ∧ Aside0 (rillmeterref10_Add.l0 kq x5_1 t220 x7_1 a0_0 a0_1 l0_2 = some (r1, r2, r3)) ∧ Aside0 (kq ≤ k) ∧ Aside0 (Kd.R Kd.bool 4 w' w.heap.size (fun k_ => some k_ ≠ (v221 : Value).ownBlock) v5 x5_1) ∧ Aside0 (Kd.R Kd.bool 4 w' w.heap.size (fun k_ => some k_ ≠ (v5 : Value).ownBlock) v221 t220) ∧ Aside0 (w'.heap[gb218]? = some (.cells #[.int .u64 a0_0, .int .i64 a0_1, (.slice A0_2 l0_2.length c0_2)] 30 (0, 0))) ∧ Aside0 (w'.heap[gb219]? = some (.cells #[.int .u64 0, .int .i64 0, (.slice none 0 0)] 30 (0, 0))) ∧ Aside0 (Below w.heap.size w w'))
  case atStart => exact ⟨(([] : List Bool)), (0), (by first | rfl | (simp; done) | (simp [*]; done)), H', ⟨Nat.le_refl _⟩, ⟨by first | exact Kd.R_nil _ _ _ _ _ | exact Kd.N_nil _ _ _ _ _ | exact Kd.V_nil _ _ _ _ _ | exact Kd.Q_nil _ _ _ _ _ | exact Kd.S_nil _ _ _ _ _⟩, ⟨by (with_reducible repeat (first | apply Kd.R_alloc | apply Kd.R_drewN | apply Kd.R_drew)); exact Kd.R_mono HO222.out (fun _ hk => (by simp [Value.ownBlock]))⟩, ⟨by (with_reducible repeat (first | refine blk_drewN ?_ _ | refine blk_drew ?_ | refine blk_alloc ?_ _)); exact BK218.out⟩, ⟨by (with_reducible repeat (first | refine blk_drewN ?_ _ | refine blk_drew ?_ | refine blk_alloc ?_ _)); exact BK219.out⟩, ⟨by repeat (first | (with_reducible first | exact HB.out | apply below_alloc | apply pw_below_drewN | apply below_drew1 | refine below_set ?_ GE218.out | refine below_set ?_ GE219.out) | exact HB.out)⟩⟩
  case round =>
    clear H'
    try clear c2
    try clear p2
    try clear c3
    try clear c6
    try clear hcz7_0
    try clear hcz7_1
    try clear hcz7_2
    try clear hfz7_0
    try clear hfz7_1
    try clear hfz7_2
    obtain ⟨x5_1, x7_1, rfl, HA, HK1, HO_5, HO_6, BK218, BK219, HB⟩ := hrel
    cases gk with
    | zero => exact absurd HA.out (by simp [rillmeterref10_Add.l0])
    | succ k1 =>
      have H := HA.out
      clear HA
      simp only [rillmeterref10_Add.l0] at H
      by_cases c9 : x7_1 < (l0_2.length : Int)
      · rw [if_pos c9] at H
        have c9b0 : decide (x7_1 < (l0_2.length : Int)) = true := decide_eq_true c9
        clear c9
        by_cases c10 : 0 ≤ x7_1
        · rw [if_pos c10] at H
          have c10b0 : decide (0 ≤ x7_1) = true := decide_eq_true c10
          clear c10
          obtain ⟨bq11, hbq11⟩ : ∃ b_ : Bool, b_ = (rdOf false l0_2 x7_1) := ⟨_, rfl⟩
          replace H : (if bq11 = true then (if x5_1.length < 140737488355328 then (rillmeterref10_Add.l0 k1 (x5_1 ++ [true]) t220 (wrap64 (x7_1 + 1)) a0_0 a0_1 l0_2) else (none)) else (if x7_1 < (t220.length : Int) then (if x5_1.length < 140737488355328 then (rillmeterref10_Add.l0 k1 (x5_1 ++ [rdOf false t220 x7_1]) t220 (wrap64 (x7_1 + 1)) a0_0 a0_1 l0_2) else (none)) else (none))) = some (r1, r2, r3) := by rw [← hbq11] at H; exact H
          have Nbq11 := Aside0.mk hbq11
          clear hbq11
          by_cases c12 : bq11 = true
          · subst c12
            have H1 : (if x5_1.length < 140737488355328 then (rillmeterref10_Add.l0 k1 (x5_1 ++ [true]) t220 (wrap64 (x7_1 + 1)) a0_0 a0_1 l0_2) else (none)) = some (r1, r2, r3) := by rw [if_pos rfl] at H; exact H
            clear H
            have H := H1
            clear H1
            by_cases c13 : x5_1.length < 140737488355328
            · rw [if_pos c13] at H
              have LMc13 := Aside0.mk c13
              clear c13
              obtain ⟨y224, hy224⟩ : ∃ y_ : List Bool, y_ = (x5_1 ++ [true]) := ⟨_, rfl⟩
              replace H : (rillmeterref10_Add.l0 k1 y224 t220 (wrap64 (x7_1 + 1)) a0_0 a0_1 l0_2) = some (r1, r2, r3) := by first | (rw [hy224]; with_reducible exact H) | (have H2_ := (Option.bind_some _ _).symm.trans H; rw [hy224]; with_reducible exact H2_) | (have H2_ := (Option.bind_some _ _).symm.trans H; with_reducible exact H2_) | with_reducible exact H | (rw [hy224]; exact H) | exact H
              have Ny224 := Aside0.mk hy224
              clear hy224
              have H' := Aside0.mk H
              clear H
              have hnb14 := NB218_219.out
              have hnc14 := NB219_218.out
              have hcz15_0 : wr.cell? ⟨gb218, 0, none⟩ = some (.int .u64 a0_0) := (blk_cell BK218.out 0).trans rfl
              have hcz15_1 : wr.cell? ⟨gb218, 1, none⟩ = some (.int .i64 a0_1) := (blk_cell BK218.out 1).trans rfl
              have hcz15_2 : wr.cell? ⟨gb218, 2, none⟩ = some (.slice A0_2 l0_2.length c0_2) := (blk_cell BK218.out 2).trans rfl
              have hfz15_0 := blk_frozen BK218.out 0
              have hfz15_1 := blk_frozen BK218.out 1
              have hfz15_2 := blk_frozen BK218.out 2
              have p223 : 0 ≤ (x7_1 : Int) := of_decide_eq_true (by first | (with_reducible assumption) | assumption)
              have q223 : x7_1 < (l0_2.length : Int) := of_decide_eq_true (by first | (with_reducible assumption) | assumption)
              obtain ⟨ad223, e223, hx223_0⟩ := Kd.at_bool HR0_2.out x7_1 p223 q223
              (try rw [← Nbq11.out] at hx223_0)
              cases e223
              replace hx223_0 := (HB.out.cell (World.block_lt_of_cell? w _ hx223_0)).trans hx223_0
              replace p223 := eq_true p223
              replace q223 := eq_true q223
              go_wp2_with (first | ((with_reducible refine gate_builtin (b := .append) (xs := #[.tmp 18, .tmp 30]) rfl ?_); at_builtin; refine Kd.R_append Kd.bool (w0 := w) w.heap.size rfl (.tmp 18) (.tmp 30) 23 4 (.bool false) 1 rfl Try.underlying23 info4 rfl (by decide) (by omega) u5 x5_1 true [.bool true] (fun k_ => some k_ ≠ (v221 : Value).ownBlock) (fun _ => False) rfl rfl ?aP (fun _ hk => hk.elim) ?aF ?aO ?aB ?aS ?aL ?_; (case aP => exact rfl); (case aB => exact (by repeat (first | (with_reducible first | exact HB.out | apply below_alloc | apply pw_below_drewN | apply below_drew1 | refine below_set ?_ GE218.out | refine below_set ?_ GE219.out) | exact HB.out))); (case aF => exact (fun k_ hk => Kd.fresh' (Kd.R_lt (by (with_reducible repeat (first | apply Kd.R_alloc | apply Kd.R_drewN | apply Kd.R_drew)); exact HO_6.out)) k_ hk)); (case aO => exact (by (with_reducible repeat (first | apply Kd.R_alloc | apply Kd.R_drewN | apply Kd.R_drew)); exact HO_5.out)); (case aS => exact (below_size (by repeat (first | (with_reducible first | exact HB.out | apply below_alloc | apply pw_below_drewN | apply below_drew1 | refine below_set ?_ GE218.out | refine below_set ?_ GE219.out) | exact HB.out)))); (case aL => have := LMc13.out; omega); intro v225 w16 ho hb hg hat; rw [← Ny224.out] at ho; have n0_ := Aside0.mk (Kd.R_after (ok := (fun _ => True)) (by (with_reducible repeat (first | apply Kd.R_alloc | apply Kd.R_drewN | apply Kd.R_drew)); exact Kd.R_mono HO_6.out (fun _ hk => ⟨trivial, hk⟩)) hg hat); have n1_ := Aside0.mk (blk_grown (g := gb218) (o := .cells #[.int .u64 a0_0, .int .i64 a0_1, .slice (some ad223) l0_2.length c0_2] 30 (0, 0)) (by (with_reducible repeat (first | refine blk_drewN ?_ _ | refine blk_drew ?_ | refine blk_alloc ?_ _)); exact BK218.out) hg (Kd.R_ne HO_5.out BK218.out (by decide))); have n2_ := Aside0.mk (blk_grown (g := gb219) (o := .cells #[.int .u64 0, .int .i64 0, .slice none 0 0] 30 (0, 0)) (by (with_reducible repeat (first | refine blk_drewN ?_ _ | refine blk_drew ?_ | refine blk_alloc ?_ _)); exact BK219.out) hg (Kd.R_ne HO_5.out BK219.out (by decide))); have n3_ := Aside0.mk (hb); have n4_ := Aside0.mk (ho); clear HO_6; clear BK218; clear BK219; clear HB; clear HO_5; have HO_6 := n0_; have BK218 := n1_; have BK219 := n2_; have HB := n3_; have HO226 := n4_; clear n0_ n1_ n2_ n3_ n4_; clear ho hb hg hat))
              go_roundg k1
              case measure => have := HK1.out; omega
              case rel => exact ⟨(y224), (wrap64 (x7_1 + 1)), (by first | rfl | (simp; done) | (simp [*]; done)), H', ⟨by have := HK1.out; omega⟩, ⟨by (with_reducible repeat (first | apply Kd.R_alloc | apply Kd.R_drewN | apply Kd.R_drew)); exact HO226.out⟩, ⟨by (with_reducible repeat (first | apply Kd.R_alloc | apply Kd.R_drewN | apply Kd.R_drew)); exact Kd.R_mono HO_6.out (fun _ hk => hk.2)⟩, ⟨by (with_reducible repeat (first | refine blk_drewN ?_ _ | refine blk_drew ?_ | refine blk_alloc ?_ _)); exact BK218.out⟩, ⟨by (with_reducible repeat (first | refine blk_drewN ?_ _ | refine blk_drew ?_ | refine blk_alloc ?_ _)); exact BK219.out⟩, ⟨by repeat (first | (with_reducible first | exact HB.out | apply below_alloc | apply pw_below_drewN | apply below_drew1 | refine below_set ?_ GE218.out | refine below_set ?_ GE219.out) | exact HB.out)⟩⟩
            · rw [if_neg c13] at H
              exact absurd H (by simp)
          · replace c12 := Bool.eq_false_iff.mpr c12
            subst c12
            have H1 : (if x7_1 < (t220.length : Int) then (if x5_1.length < 140737488355328 then (rillmeterref10_Add.l0 k1 (x5_1 ++ [rdOf false t220 x7_1]) t220 (wrap64 (x7_1 + 1)) a0_0 a0_1 l0_2) else (none)) else (none)) = some (r1, r2, r3) := by rw [if_neg (show ¬ (false = true) by decide)] at H; exact H
            clear H
            have H := H1
            clear H1
            by_cases c17 : x7_1 < (t220.length : Int)
            · rw [if_pos c17] at H
              have c17b0 : decide (x7_1 < (t220.length : Int)) = true := decide_eq_true c17
              clear c17
              by_cases c18 : x5_1.length < 140737488355328
              · rw [if_pos c18] at H
                have LMc18 := Aside0.mk c18
                clear c18
                obtain ⟨y228, hy228⟩ : ∃ y_ : List Bool, y_ = (x5_1 ++ [rdOf false t220 x7_1]) := ⟨_, rfl⟩
                replace H : (rillmeterref10_Add.l0 k1 y228 t220 (wrap64 (x7_1 + 1)) a0_0 a0_1 l0_2) = some (r1, r2, r3) := by first | (rw [hy228]; with_reducible exact H) | (have H2_ := (Option.bind_some _ _).symm.trans H; rw [hy228]; with_reducible exact H2_) | (have H2_ := (Option.bind_some _ _).symm.trans H; with_reducible exact H2_) | with_reducible exact H | (rw [hy228]; exact H) | exact H
                have Ny228 := Aside0.mk hy228
                clear hy228
                have H' := Aside0.mk H
                clear H
                have hnb19 := NB218_219.out
                have hnc19 := NB219_218.out
                have hcz20_0 : wr.cell? ⟨gb218, 0, none⟩ = some (.int .u64 a0_0) := (blk_cell BK218.out 0).trans rfl
                have hcz20_1 : wr.cell? ⟨gb218, 1, none⟩ = some (.int .i64 a0_1) := (blk_cell BK218.out 1).trans rfl
                have hcz20_2 : wr.cell? ⟨gb218, 2, none⟩ = some (.slice A0_2 l0_2.length c0_2) := (blk_cell BK218.out 2).trans rfl
                have hfz20_0 := blk_frozen BK218.out 0
                have hfz20_1 := blk_frozen BK218.out 1
                have hfz20_2 := blk_frozen BK218.out 2
                have p223 : 0 ≤ (x7_1 : Int) := of_decide_eq_true (by first | (with_reducible assumption) | assumption)
                have q223 : x7_1 < (l0_2.length : Int) := of_decide_eq_true (by first | (with_reducible assumption) | assumption)
                obtain ⟨ad223, e223, hx223_0⟩ := Kd.at_bool HR0_2.out x7_1 p223 q223
                (try rw [← Nbq11.out] at hx223_0)
                cases e223
                replace hx223_0 := (HB.out.cell (World.block_lt_of_cell? w _ hx223_0)).trans hx223_0
                replace p223 := eq_true p223
                replace q223 := eq_true q223
                obtain ⟨Ao21, co21, eo21⟩ := Kd.R_slice HO_6.out
                subst eo21
                have p227 : 0 ≤ (x7_1 : Int) := of_decide_eq_true (by first | (with_reducible assumption) | assumption)
                have q227 : x7_1 < (t220.length : Int) := of_decide_eq_true (by first | (with_reducible assumption) | assumption)
                obtain ⟨ad227, e227, hx227_0⟩ := Kd.at_bool (Kd.R_reads' HO_6.out).2.2 x7_1 p227 q227
                (try rw [← Nbq11.out] at hx227_0)
                cases e227
                replace p227 := eq_true p227
                replace q227 := eq_true q227
                go_wp2_with (first | ((with_reducible refine gate_builtin (b := .append) (xs := #[.tmp 18, .tmp 30]) rfl ?_); at_builtin; refine Kd.R_append Kd.bool (w0 := w) w.heap.size rfl (.tmp 18) (.tmp 30) 23 4 (.bool false) 1 rfl Try.underlying23 info4 rfl (by decide) (by omega) u5 x5_1 (rdOf false t220 x7_1) [.bool (rdOf false t220 x7_1)] (fun k_ => some k_ ≠ (.slice (some ad227) t220.length co21 : Value).ownBlock) (fun _ => False) rfl rfl ?aP (fun _ hk => hk.elim) ?aF ?aO ?aB ?aS ?aL ?_; (case aP => exact rfl); (case aB => exact (by repeat (first | (with_reducible first | exact HB.out | apply below_alloc | apply pw_below_drewN | apply below_drew1 | refine below_set ?_ GE218.out | refine below_set ?_ GE219.out) | exact HB.out))); (case aF => exact (fun k_ hk => Kd.fresh' (Kd.R_lt (by (with_reducible repeat (first | apply Kd.R_alloc | apply Kd.R_drewN | apply Kd.R_drew)); exact HO_6.out)) k_ hk)); (case aO => exact (by (with_reducible repeat (first | apply Kd.R_alloc | apply Kd.R_drewN | apply Kd.R_drew)); exact HO_5.out)); (case aS => exact (below_size (by repeat (first | (with_reducible first | exact HB.out | apply below_alloc | apply pw_below_drewN | apply below_drew1 | refine below_set ?_ GE218.out | refine below_set ?_ GE219.out) | exact HB.out)))); (case aL => have := LMc18.out; omega); intro v229 w22 ho hb hg hat; rw [← Ny228.out] at ho; have n0_ := Aside0.mk (Kd.R_after (ok := (fun _ => True)) (by (with_reducible repeat (first | apply Kd.R_alloc | apply Kd.R_drewN | apply Kd.R_drew)); exact Kd.R_mono HO_6.out (fun _ hk => ⟨trivial, hk⟩)) hg hat); have n1_ := Aside0.mk (blk_grown (g := gb218) (o := .cells #[.int .u64 a0_0, .int .i64 a0_1, .slice (some ad223) l0_2.length c0_2] 30 (0, 0)) (by (with_reducible repeat (first | refine blk_drewN ?_ _ | refine blk_drew ?_ | refine blk_alloc ?_ _)); exact BK218.out) hg (Kd.R_ne HO_5.out BK218.out (by decide))); have n2_ := Aside0.mk (blk_grown (g := gb219) (o := .cells #[.int .u64 0, .int .i64 0, .slice none 0 0] 30 (0, 0)) (by (with_reducible repeat (first | refine blk_drewN ?_ _ | refine blk_drew ?_ | refine blk_alloc ?_ _)); exact BK219.out) hg (Kd.R_ne HO_5.out BK219.out (by decide))); have n3_ := Aside0.mk (hb); have n4_ := Aside0.mk (ho); clear HO_6; clear BK218; clear BK219; clear HB; clear HO_5; have HO_6 := n0_; have BK218 := n1_; have BK219 := n2_; have HB := n3_; have HO230 := n4_; clear n0_ n1_ n2_ n3_ n4_; clear ho hb hg hat))
                go_roundg k1
                case measure => have := HK1.out; omega
                case rel => exact ⟨(y228), (wrap64 (x7_1 + 1)), (by first | rfl | (simp; done) | (simp [*]; done)), H', ⟨by have := HK1.out; omega⟩, ⟨by (with_reducible repeat (first | apply Kd.R_alloc | apply Kd.R_drewN | apply Kd.R_drew)); exact HO230.out⟩, ⟨by (with_reducible repeat (first | apply Kd.R_alloc | apply Kd.R_drewN | apply Kd.R_drew)); exact Kd.R_mono HO_6.out (fun _ hk => hk.2)⟩, ⟨by (with_reducible repeat (first | refine blk_drewN ?_ _ | refine blk_drew ?_ | refine blk_alloc ?_ _)); exact BK218.out⟩, ⟨by (with_reducible repeat (first | refine blk_drewN ?_ _ | refine blk_drew ?_ | refine blk_alloc ?_ _)); exact BK219.out⟩, ⟨by repeat (first | (with_reducible first | exact HB.out | apply below_alloc | apply pw_below_drewN | apply below_drew1 | refine below_set ?_ GE218.out | refine below_set ?_ GE219.out) | exact HB.out)⟩⟩
              · rw [if_neg c18] at H
                exact absurd H (by simp)
            · rw [if_neg c17] at H
              exact absurd H (by simp)
        · rw [if_neg c10] at H
          exact absurd H (by simp)
      · rw [if_neg c9] at H
        have c9b0 : decide (x7_1 < (l0_2.length : Int)) = false := decide_eq_false c9
        clear c9
        simp only [Option.some.injEq, Prod.mk.injEq] at H
        obtain ⟨rfl, rfl, rfl⟩ := H
        have hnb23 := NB218_219.out
        have hnc23 := NB219_218.out
        have hcz24_0 : wr.cell? ⟨gb218, 0, none⟩ = some (.int .u64 a0_0) := (blk_cell BK218.out 0).trans rfl
        have hcz24_1 : wr.cell? ⟨gb218, 1, none⟩ = some (.int .i64 a0_1) := (blk_cell BK218.out 1).trans rfl
        have hcz24_2 : wr.cell? ⟨gb218, 2, none⟩ = some (.slice A0_2 l0_2.length c0_2) := (blk_cell BK218.out 2).trans rfl
        have hfz24_0 := blk_frozen BK218.out 0
        have hfz24_1 := blk_frozen BK218.out 1
        have hfz24_2 := blk_frozen BK218.out 2
        obtain ⟨Ao25, co25, eo25⟩ := Kd.R_slice HO_5.out
        subst eo25
        have hcz26_0 : wr.cell? ⟨gb219, 0, none⟩ = some (.int .u64 0) := (blk_cell BK219.out 0).trans rfl
        have hcz26_1 : wr.cell? ⟨gb219, 1, none⟩ = some (.int .i64 0) := (blk_cell BK219.out 1).trans rfl
        have hcz26_2 : wr.cell? ⟨gb219, 2, none⟩ = some (.slice none 0 0) := (blk_cell BK219.out 2).trans rfl
        have hfz26_0 := blk_frozen BK219.out 0
        have hfz26_1 := blk_frozen BK219.out 1
        have hfz26_2 := blk_frozen BK219.out 2
        go_wp2
        refine bodyPost_ret (results_cell_row rfl _ _ gb219 30 #[.int .u64 a0_0, .int .i64 a0_1, .slice Ao25 x5_1.length co25] (0, 0) _ rfl (by (with_reducible repeat (first | refine blk_drewN ?_ _ | refine blk_drew ?_ | refine blk_alloc ?_ _)); refine blk_put (cs := #[.int .u64 a0_0, .int .i64 a0_1, .slice none 0 0]) ?_ 2 _ rfl; (with_reducible repeat (first | refine blk_drewN ?_ _ | refine blk_drew ?_ | refine blk_alloc ?_ _)); refine blk_put (cs := #[.int .u64 a0_0, .int .i64 0, .slice none 0 0]) ?_ 1 _ rfl; (with_reducible repeat (first | refine blk_drewN ?_ _ | refine blk_drew ?_ | refine blk_alloc ?_ _)); refine blk_put (cs := #[.int .u64 0, .int .i64 0, .slice none 0 0]) ?_ 0 _ rfl; (with_reducible repeat (first | refine blk_drewN ?_ _ | refine blk_drew ?_ | refine blk_alloc ?_ _)); refine blk_far ?_ NB219_218.out _; (with_reducible repeat (first | refine blk_drewN ?_ _ | refine blk_drew ?_ | refine blk_alloc ?_ _)); exact BK219.out) Try.underlying30 rfl (by kernel_rfl)) rfl ?_
        exact ⟨_, by first | rfl | (simp [errW_none, errW_some] <;> rfl) | (simp [*, errW_none, errW_some] <;> rfl), by (with_reducible repeat (first | apply Kd.R_alloc | apply Kd.R_drewN | apply Kd.R_drew)); exact Kd.R_mono (Kd.R_far (p := ⟨gb219, 2, none⟩) (Kd.R_far (p := ⟨gb219, 1, none⟩) (Kd.R_far (p := ⟨gb219, 0, none⟩) (Kd.R_far (p := ⟨gb218, 2, none⟩) (Kd.R_types (Kd.R_types HO_5.out BK218.out (by decide)) BK219.out (by decide)) (fun _ hk => hk.1.2) (.slice Ao25 x5_1.length co25)) (fun _ hk => hk.2) (.int .u64 a0_0)) (fun _ hk => hk.2) (.int .i64 a0_1)) (fun _ hk => hk.2) (.slice Ao25 x5_1.length co25)) (fun _ hk => trivial), by repeat (first | (with_reducible first | exact HB.out | apply below_alloc | apply pw_below_drewN | apply below_drew1 | refine below_set ?_ GE218.out | refine below_set ?_ GE219.out) | exact HB.out)⟩

/-! ### rillmeterref10_Has: function 23 -/
def rillmeterref10_Has.l0 : Nat → List Bool → Int → Int → Int → List Bool → Option (Bool)
  | 0, _, _, _, _, _ => none
  | k + 1, x5, x6, x232000, x232001, x232002 => if x6 < (x232002.length : Int) then (if 0 ≤ x6 then (if rdOf false x232002 x6 = true then (rillmeterref10_Has.l0 k x5 (wrap64 (x6 + 1)) x232000 x232001 x232002) else (if x6 < (x5.length : Int) then (if rdOf false x5 x6 = true then (some false) else (rillmeterref10_Has.l0 k x5 (wrap64 (x6 + 1)) x232000 x232001 x232002)) else (none))) else (none)) else (some true)
def rillmeterref10_Has.f (k : Nat) (a0_0 : Int) (a0_1 : Int) (l0_2 : List Bool) (a1 : ByteArray) : Option (Bool) := (rillmeterref10_at.f k a0_0 a0_1 l0_2 a1).bind fun t232 => (rillmeterref10_Has.l0 k t232 0 a0_0 a0_1 l0_2)
theorem rillmeterref10_Has.mono_l : ∀ k, (∀ y0 y1 y2 y3 y4, LeO (rillmeterref10_Has.l0 k y0 y1 y2 y3 y4) (rillmeterref10_Has.l0 (k + 1) y0 y1 y2 y3 y4))
  | 0 => fun _ _ _ _ _ r h => by simp [rillmeterref10_Has.l0] at h
  | k + 1 => by
    have ih0 := rillmeterref10_Has.mono_l k
    · intro y0 y1 y2 y3 y4
      unfold rillmeterref10_Has.l0
      repeat' first
      | (with_reducible exact ih0 _ _ _ _ _)
      | (with_reducible exact rillmeterref10_at.mono _ _ _ _ _)
      | (with_reducible exact LeO.refl _)
      | (with_reducible exact LeO.none _)
      | (with_reducible refine LeO.ite ?_ ?_)
      | (with_reducible refine LeO.bind ?_ (fun _ => ?_))
      | exact ih0 _ _ _ _ _
      | exact rillmeterref10_at.mono _ _ _ _ _
      | exact LeO.none _
      | refine LeO.ite ?_ ?_
      | refine LeO.bind ?_ (fun _ => ?_)
theorem rillmeterref10_Has.mono : ∀ a0 a1 a2 a3 k, LeO (rillmeterref10_Has.f k a0 a1 a2 a3) (rillmeterref10_Has.f (k + 1) a0 a1 a2 a3) := by
  intro a0 a1 a2 a3 k
  have ih0 := rillmeterref10_Has.mono_l k
  unfold rillmeterref10_Has.f
  repeat' first
      | (with_reducible exact ih0 _ _ _ _ _)
      | (with_reducible exact rillmeterref10_at.mono _ _ _ _ _)
      | (with_reducible exact LeO.refl _)
      | (with_reducible exact LeO.none _)
      | (with_reducible refine LeO.ite ?_ ?_)
      | (with_reducible refine LeO.bind ?_ (fun _ => ?_))
      | exact ih0 _ _ _ _ _
      | exact rillmeterref10_at.mono _ _ _ _ _
      | exact LeO.none _
      | refine LeO.ite ?_ ?_
      | refine LeO.bind ?_ (fun _ => ?_)
set_option maxHeartbeats 8000000 in
set_option maxRecDepth 100000 in
theorem rillmeterref10_Has.calls (k : Nat) (a0_0 : Int) (a0_1 : Int) (A0_2 : Option Addr) (c0_2 : Nat) (l0_2 : List Bool) (a1 : ByteArray) (r : Bool) (w : World) (hr0_2 : Kd.C Kd.bool w A0_2 l0_2.length l0_2) (hc0_2 : l0_2.length ≤ c0_2) (h : rillmeterref10_Has.f k a0_0 a0_1 l0_2 a1 = some r) :
    Calls Try.prog 23 #[.agg #[.int .u64 a0_0, .int .i64 a0_1, .slice A0_2 l0_2.length c0_2], .string a1] w fun e w' => e = .returned (.bool r) ∧ Below w.heap.size w w' := by
  have hu30 := Try.underlying30
  have HR0_2 := Aside0.mk hr0_2
  have HC0_2 := Aside0.mk hc0_2
  clear hr0_2 hc0_2
  have HB := Aside0.mk (Below.refl w.heap.size w)
  have H : ((rillmeterref10_at.f k a0_0 a0_1 l0_2 a1).bind fun t232 => (rillmeterref10_Has.l0 k t232 0 a0_0 a0_1 l0_2)) = some r := h
  clear h
  replace H := Option.bind_eq_some_iff.mp H
  obtain ⟨t232, A30, H⟩ := H
  replace H : (rillmeterref10_Has.l0 k t232 0 a0_0 a0_1 l0_2) = some r := H
  have A3 := Aside0.mk A30
  clear A30
  have H' := Aside0.mk H
  clear H
  go_enter Try.func23, Try.ntmps23
  go_wp2_with (first | ((with_reducible refine gate_dst (N := 2) rfl ?_); refine box_event ?hg (N := 2) ?hd (cs := #[.int .u64 a0_0, .int .i64 a0_1, .slice A0_2 l0_2.length c0_2]) (t := 30) ?hr ?_; (case hd => rfl); (case hg => rfl); (case hr => first | (go_simp; done) | (go_simp; rfl)); intro gb231 hg w4 hbox hb; have n0_ := Aside0.mk (below_step (by repeat (first | (with_reducible first | exact HB.out | apply below_alloc | apply pw_below_drewN | apply below_drew1) | exact HB.out)) hb); have n1_ := Aside0.mk (hbox); have n2_ := Aside0.mk ((by rw [hg]; exact (below_size (by repeat (first | (with_reducible first | exact HB.out | apply below_alloc | apply pw_below_drewN | apply below_drew1) | exact HB.out))) : w.heap.size ≤ gb231)); have n3_ := Aside0.mk ((by rw [hg]; exact (below_size (by repeat (first | (with_reducible first | exact HB.out | apply below_alloc | apply pw_below_drewN | apply below_drew1) | exact HB.out))) : w.heap.size ≤ gb231)); clear HB; have HB := n0_; have BK231 := n1_; have GW231 := n2_; have GE231 := n3_; clear n0_ n1_ n2_ n3_; clear hb hbox hg; have hcz5_0 : w4.cell? ⟨gb231, 0, none⟩ = some (.int .u64 a0_0) := (blk_cell BK231.out 0).trans rfl; have hcz5_1 : w4.cell? ⟨gb231, 1, none⟩ = some (.int .i64 a0_1) := (blk_cell BK231.out 1).trans rfl; have hcz5_2 : w4.cell? ⟨gb231, 2, none⟩ = some (.slice A0_2 l0_2.length c0_2) := (blk_cell BK231.out 2).trans rfl; have hfz5_0 := blk_frozen BK231.out 0; have hfz5_1 := blk_frozen BK231.out 1; have hfz5_2 := blk_frozen BK231.out 2) | ((with_reducible refine gate_callee (f := 36) rfl ?_); refine goesL_ (some 9) rfl rfl Try.func36 (by kernel_rfl) rfl #[.agg #[.int .u64 a0_0, .int .i64 a0_1, .slice A0_2 l0_2.length c0_2], .string a1] rfl (by (try simp only [List.map_toArray, List.map_cons, List.map_nil]); first | done | rfl | (simp only [List.length_drop, List.length_take]; rfl)) ?_; (with_reducible refine (rillmeterref10_at.calls k a0_0 a0_1 _ _ l0_2 a1 t232 _ ?side1 ?side2 A3.out).mono ?_); (case side1 => repeat (first | exact (Kd.C_below HR0_2.out HB.out) | (with_reducible refine Kd.C_alloc ?_ _) | (with_reducible refine Kd.C_drewN ?_ _) | (with_reducible refine Kd.C_drew ?_))); (case side2 => exact HC0_2.out); rintro e w6 ⟨v233, rfl, ho0, hb⟩; refine ⟨_, rfl, ?_⟩; have n0_ := Aside0.mk (Kd.R_lower ho0 (below_size (by repeat (first | (with_reducible first | exact HB.out | apply below_alloc | apply pw_below_drewN | apply below_drew1 | refine below_set ?_ GE231.out) | exact HB.out)))); have n1_ := Aside0.mk (blk_below (g := gb231) (o := .cells #[.int .u64 a0_0, .int .i64 a0_1, .slice A0_2 l0_2.length c0_2] 30 (0, 0)) (by (with_reducible repeat (first | refine blk_drewN ?_ _ | refine blk_drew ?_ | refine blk_alloc ?_ _)); exact BK231.out) hb); have n2_ := Aside0.mk (below_step (by repeat (first | (with_reducible first | exact HB.out | apply below_alloc | apply pw_below_drewN | apply below_drew1 | refine below_set ?_ GE231.out) | exact HB.out)) hb); clear BK231; clear HB; have HO234 := n0_; have BK231 := n1_; have HB := n2_; clear n0_ n1_ n2_; (try clear hb); (try clear hb2); (try clear hk); (try clear hi); (try clear ho0)))
  go_loopg [6] k (fun kq v6 w' => ∃ (x6_1 : Int), v6 = .int .i64 x6_1 ∧ Aside0 (rillmeterref10_Has.l0 kq t232 x6_1 a0_0 a0_1 l0_2 = some r) ∧ Aside0 (kq ≤ k) ∧ Aside0 (Kd.R Kd.bool 4 w' w.heap.size (fun _ => True) v233 t232) ∧ Aside0 (w'.heap[gb231]? = some (.cells #[.int .u64 a0_0, .int .i64 a0_1, (.slice A0_2 l0_2.length c0_2)] 30 (0, 0))) ∧ Aside0 (Below w.heap.size w w'))
  case atStart => exact ⟨(0), (by first | rfl | (simp; done) | (simp [*]; done)), H', ⟨Nat.le_refl _⟩, ⟨by (with_reducible repeat (first | apply Kd.R_alloc | apply Kd.R_drewN | apply Kd.R_drew)); exact HO234.out⟩, ⟨by (with_reducible repeat (first | refine blk_drewN ?_ _ | refine blk_drew ?_ | refine blk_alloc ?_ _)); exact BK231.out⟩, ⟨by repeat (first | (with_reducible first | exact HB.out | apply below_alloc | apply pw_below_drewN | apply below_drew1 | refine below_set ?_ GE231.out) | exact HB.out)⟩⟩
  case round =>
    clear H'
    try clear c2
    try clear p2
    try clear c3
    try clear hcz5_0
    try clear hcz5_1
    try clear hcz5_2
    try clear hfz5_0
    try clear hfz5_1
    try clear hfz5_2
    obtain ⟨x6_1, rfl, HA, HK1, HO_5, BK231, HB⟩ := hrel
    cases gk with
    | zero => exact absurd HA.out (by simp [rillmeterref10_Has.l0])
    | succ k1 =>
      have H := HA.out
      clear HA
      simp only [rillmeterref10_Has.l0] at H
      by_cases c7 : x6_1 < (l0_2.length : Int)
      · rw [if_pos c7] at H
        have c7b0 : decide (x6_1 < (l0_2.length : Int)) = true := decide_eq_true c7
        clear c7
        by_cases c8 : 0 ≤ x6_1
        · rw [if_pos c8] at H
          have c8b0 : decide (0 ≤ x6_1) = true := decide_eq_true c8
          clear c8
          obtain ⟨bq9, hbq9⟩ : ∃ b_ : Bool, b_ = (rdOf false l0_2 x6_1) := ⟨_, rfl⟩
          replace H : (if bq9 = true then (rillmeterref10_Has.l0 k1 t232 (wrap64 (x6_1 + 1)) a0_0 a0_1 l0_2) else (if x6_1 < (t232.length : Int) then (if rdOf false t232 x6_1 = true then (some false) else (rillmeterref10_Has.l0 k1 t232 (wrap64 (x6_1 + 1)) a0_0 a0_1 l0_2)) else (none))) = some r := by rw [← hbq9] at H; exact H
          have Nbq9 := Aside0.mk hbq9
          clear hbq9
          by_cases c10 : bq9 = true
          · subst c10
            have H1 : (rillmeterref10_Has.l0 k1 t232 (wrap64 (x6_1 + 1)) a0_0 a0_1 l0_2) = some r := by rw [if_pos rfl] at H; exact H
            clear H
            have H := H1
            clear H1
            have H' := Aside0.mk H
            clear H
            have hcz11_0 : wr.cell? ⟨gb231, 0, none⟩ = some (.int .u64 a0_0) := (blk_cell BK231.out 0).trans rfl
            have hcz11_1 : wr.cell? ⟨gb231, 1, none⟩ = some (.int .i64 a0_1) := (blk_cell BK231.out 1).trans rfl
            have hcz11_2 : wr.cell? ⟨gb231, 2, none⟩ = some (.slice A0_2 l0_2.length c0_2) := (blk_cell BK231.out 2).trans rfl
            have hfz11_0 := blk_frozen BK231.out 0
            have hfz11_1 := blk_frozen BK231.out 1
            have hfz11_2 := blk_frozen BK231.out 2
            have p235 : 0 ≤ (x6_1 : Int) := of_decide_eq_true (by first | (with_reducible assumption) | assumption)
            have q235 : x6_1 < (l0_2.length : Int) := of_decide_eq_true (by first | (with_reducible assumption) | assumption)
            obtain ⟨ad235, e235, hx235_0⟩ := Kd.at_bool HR0_2.out x6_1 p235 q235
            (try rw [← Nbq9.out] at hx235_0)
            cases e235
            replace hx235_0 := (HB.out.cell (World.block_lt_of_cell? w _ hx235_0)).trans hx235_0
            replace p235 := eq_true p235
            replace q235 := eq_true q235
            go_wp2
            go_roundg k1
            case measure => have := HK1.out; omega
            case rel => exact ⟨(wrap64 (x6_1 + 1)), (by first | rfl | (simp; done) | (simp [*]; done)), H', ⟨by have := HK1.out; omega⟩, ⟨by (with_reducible repeat (first | apply Kd.R_alloc | apply Kd.R_drewN | apply Kd.R_drew)); exact HO_5.out⟩, ⟨by (with_reducible repeat (first | refine blk_drewN ?_ _ | refine blk_drew ?_ | refine blk_alloc ?_ _)); exact BK231.out⟩, ⟨by repeat (first | (with_reducible first | exact HB.out | apply below_alloc | apply pw_below_drewN | apply below_drew1 | refine below_set ?_ GE231.out) | exact HB.out)⟩⟩
          · replace c10 := Bool.eq_false_iff.mpr c10
            subst c10
            have H1 : (if x6_1 < (t232.length : Int) then (if rdOf false t232 x6_1 = true then (some false) else (rillmeterref10_Has.l0 k1 t232 (wrap64 (x6_1 + 1)) a0_0 a0_1 l0_2)) else (none)) = some r := by rw [if_neg (show ¬ (false = true) by decide)] at H; exact H
            clear H
            have H := H1
            clear H1
            by_cases c12 : x6_1 < (t232.length : Int)
            · rw [if_pos c12] at H
              have c12b0 : decide (x6_1 < (t232.length : Int)) = true := decide_eq_true c12
              clear c12
              obtain ⟨bq13, hbq13⟩ : ∃ b_ : Bool, b_ = (rdOf false t232 x6_1) := ⟨_, rfl⟩
              replace H : (if bq13 = true then (some false) else (rillmeterref10_Has.l0 k1 t232 (wrap64 (x6_1 + 1)) a0_0 a0_1 l0_2)) = some r := by rw [← hbq13] at H; exact H
              have Nbq13 := Aside0.mk hbq13
              clear hbq13
              by_cases c14 : bq13 = true
              · subst c14
                have H1 : (some false) = some r := by rw [if_pos rfl] at H; exact H
                clear H
                have H := H1
                clear H1
                obtain rfl := Option.some.inj H
                have hcz15_0 : wr.cell? ⟨gb231, 0, none⟩ = some (.int .u64 a0_0) := (blk_cell BK231.out 0).trans rfl
                have hcz15_1 : wr.cell? ⟨gb231, 1, none⟩ = some (.int .i64 a0_1) := (blk_cell BK231.out 1).trans rfl
                have hcz15_2 : wr.cell? ⟨gb231, 2, none⟩ = some (.slice A0_2 l0_2.length c0_2) := (blk_cell BK231.out 2).trans rfl
                have hfz15_0 := blk_frozen BK231.out 0
                have hfz15_1 := blk_frozen BK231.out 1
                have hfz15_2 := blk_frozen BK231.out 2
                have p235 : 0 ≤ (x6_1 : Int) := of_decide_eq_true (by first | (with_reducible assumption) | assumption)
                have q235 : x6_1 < (l0_2.length : Int) := of_decide_eq_true (by first | (with_reducible assumption) | assumption)
                obtain ⟨ad235, e235, hx235_0⟩ := Kd.at_bool HR0_2.out x6_1 p235 q235
                (try rw [← Nbq9.out] at hx235_0)
                (try rw [← Nbq13.out] at hx235_0)
                cases e235
                replace hx235_0 := (HB.out.cell (World.block_lt_of_cell? w _ hx235_0)).trans hx235_0
                replace p235 := eq_true p235
                replace q235 := eq_true q235
                obtain ⟨Ao16, co16, eo16⟩ := Kd.R_slice HO_5.out
                subst eo16
                have p236 : 0 ≤ (x6_1 : Int) := of_decide_eq_true (by first | (with_reducible assumption) | assumption)
                have q236 : x6_1 < (t232.length : Int) := of_decide_eq_true (by first | (with_reducible assumption) | assumption)
                obtain ⟨ad236, e236, hx236_0⟩ := Kd.at_bool (Kd.R_reads' HO_5.out).2.2 x6_1 p236 q236
                (try rw [← Nbq9.out] at hx236_0)
                (try rw [← Nbq13.out] at hx236_0)
                cases e236
                replace p236 := eq_true p236
                replace q236 := eq_true q236
                go_wp2
                go_ret
                exact ⟨by first | rfl | (simp [errW_none, errW_some] <;> rfl) | (simp [*, errW_none, errW_some] <;> rfl), by repeat (first | (with_reducible first | exact HB.out | apply below_alloc | apply pw_below_drewN | apply below_drew1 | refine below_set ?_ GE231.out) | exact HB.out)⟩
              · replace c14 := Bool.eq_false_iff.mpr c14
                subst c14
                have H1 : (rillmeterref10_Has.l0 k1 t232 (wrap64 (x6_1 + 1)) a0_0 a0_1 l0_2) = some r := by rw [if_neg (show ¬ (false = true) by decide)] at H; exact H
                clear H
                have H := H1
                clear H1
                have H' := Aside0.mk H
                clear H
                have hcz17_0 : wr.cell? ⟨gb231, 0, none⟩ = some (.int .u64 a0_0) := (blk_cell BK231.out 0).trans rfl
                have hcz17_1 : wr.cell? ⟨gb231, 1, none⟩ = some (.int .i64 a0_1) := (blk_cell BK231.out 1).trans rfl
                have hcz17_2 : wr.cell? ⟨gb231, 2, none⟩ = some (.slice A0_2 l0_2.length c0_2) := (blk_cell BK231.out 2).trans rfl
                have hfz17_0 := blk_frozen BK231.out 0
                have hfz17_1 := blk_frozen BK231.out 1
                have hfz17_2 := blk_frozen BK231.out 2
                have p235 : 0 ≤ (x6_1 : Int) := of_decide_eq_true (by first | (with_reducible assumption) | assumption)
                have q235 : x6_1 < (l0_2.length : Int) := of_decide_eq_true (by first | (with_reducible assumption) | assumption)
                obtain ⟨ad235, e235, hx235_0⟩ := Kd.at_bool HR0_2.out x6_1 p235 q235
                (try rw [← Nbq9.out] at hx235_0)
                (try rw [← Nbq13.out] at hx235_0)
                cases e235
                replace hx235_0 := (HB.out.cell (World.block_lt_of_cell? w _ hx235_0)).trans hx235_0
                replace p235 := eq_true p235
                replace q235 := eq_true q235
                obtain ⟨Ao18, co18, eo18⟩ := Kd.R_slice HO_5.out
                subst eo18
                have p236 : 0 ≤ (x6_1 : Int) := of_decide_eq_true (by first | (with_reducible assumption) | assumption)
                have q236 : x6_1 < (t232.length : Int) := of_decide_eq_true (by first | (with_reducible assumption) | assumption)
                obtain ⟨ad236, e236, hx236_0⟩ := Kd.at_bool (Kd.R_reads' HO_5.out).2.2 x6_1 p236 q236
                (try rw [← Nbq9.out] at hx236_0)
                (try rw [← Nbq13.out] at hx236_0)
                cases e236
                replace p236 := eq_true p236
                replace q236 := eq_true q236
                go_wp2
                go_roundg k1
                case measure => have := HK1.out; omega
                case rel => exact ⟨(wrap64 (x6_1 + 1)), (by first | rfl | (simp; done) | (simp [*]; done)), H', ⟨by have := HK1.out; omega⟩, ⟨by (with_reducible repeat (first | apply Kd.R_alloc | apply Kd.R_drewN | apply Kd.R_drew)); exact HO_5.out⟩, ⟨by (with_reducible repeat (first | refine blk_drewN ?_ _ | refine blk_drew ?_ | refine blk_alloc ?_ _)); exact BK231.out⟩, ⟨by repeat (first | (with_reducible first | exact HB.out | apply below_alloc | apply pw_below_drewN | apply below_drew1 | refine below_set ?_ GE231.out) | exact HB.out)⟩⟩
            · rw [if_neg c12] at H
              exact absurd H (by simp)
        · rw [if_neg c8] at H
          exact absurd H (by simp)
      · rw [if_neg c7] at H
        have c7b0 : decide (x6_1 < (l0_2.length : Int)) = false := decide_eq_false c7
        clear c7
        obtain rfl := Option.some.inj H
        have hcz19_0 : wr.cell? ⟨gb231, 0, none⟩ = some (.int .u64 a0_0) := (blk_cell BK231.out 0).trans rfl
        have hcz19_1 : wr.cell? ⟨gb231, 1, none⟩ = some (.int .i64 a0_1) := (blk_cell BK231.out 1).trans rfl
        have hcz19_2 : wr.cell? ⟨gb231, 2, none⟩ = some (.slice A0_2 l0_2.length c0_2) := (blk_cell BK231.out 2).trans rfl
        have hfz19_0 := blk_frozen BK231.out 0
        have hfz19_1 := blk_frozen BK231.out 1
        have hfz19_2 := blk_frozen BK231.out 2
        go_wp2
        go_ret
        exact ⟨by first | rfl | (simp [errW_none, errW_some] <;> rfl) | (simp [*, errW_none, errW_some] <;> rfl), by repeat (first | (with_reducible first | exact HB.out | apply below_alloc | apply pw_below_drewN | apply below_drew1 | refine below_set ?_ GE231.out) | exact HB.out)⟩

end Go.Proofs.Ytmlcafnnhpfpaaa.PBloomTurns
