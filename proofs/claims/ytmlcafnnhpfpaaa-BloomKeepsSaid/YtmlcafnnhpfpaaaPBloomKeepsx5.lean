/- The functions that a law uses, each as a plain function, with the proof that a call of the Go function comes to its answer. Condition of each: the arguments read as the data that it names, and the plain function has an answer. Written by a program of this session (standin.py). -/
import Derived.Test.YtmlcafnnhpfpaaaPBloomKeepsx0
import Derived.Test.YtmlcafnnhpfpaaaPBloomKeepsx3
import Derived.Test.YtmlcafnnhpfpaaaShort
import Derived.Lib.SliceRun
import Derived.Test.YtmlcafnnhpfpaaaPress
namespace Go.Proofs.Ytmlcafnnhpfpaaa.PBloomKeeps
open Go.RowKit Go.Proofs.YtmlcafnnhpfpaaaW.PrintWords Go.Proofs.YtmlcafnnhpfpaaaW.PrintLast Go.Proofs.YtmlcafnnhpfpaaaW.PrintMore Go.Proofs.Ytmlcafnnhpfpaaa.Short Go.Proofs.Ytmlcafnnhpfpaaa.Press
attribute [local go_sem] max2_int min2_int max_two min_two max_three min_three max_four min_four   -- for this text's walks alone
set_option linter.unusedVariables false
set_option linter.unusedSimpArgs false

/-! ### rillmeterlaw10_adds: function 26 -/
def rillmeterlaw10_adds.l0 : Nat → List ByteArray → Int → Int → Int → Int → List Bool → Option (Int × Int × List Bool)
  | 0, _, _, _, _, _, _ => none
  | k + 1, x7, x8, x9, x198000, x198001, x198002 => if x9 < x8 then (if 0 ≤ x9 then (if x9 < (x7.length : Int) then ((bloom_Add.f k x198000 x198001 x198002 (rdOf ByteArray.empty x7 x9)).bind fun bt200 => (rillmeterlaw10_adds.l0 k x7 x8 (wrap64 (x9 + 1)) bt200.1 bt200.2.1 bt200.2.2)) else (none)) else (none)) else (some (x198000, x198001, x198002))
def rillmeterlaw10_adds.f (k : Nat) (a0_0 : Int) (a0_1 : Int) (l0_2 : List Bool) (l1 : List ByteArray) : Option (Int × Int × List Bool) := rillmeterlaw10_adds.l0 k l1 (l1.length : Int) 0 a0_0 a0_1 l0_2
theorem rillmeterlaw10_adds.mono_l : ∀ k, (∀ y0 y1 y2 y3 y4 y5, LeO (rillmeterlaw10_adds.l0 k y0 y1 y2 y3 y4 y5) (rillmeterlaw10_adds.l0 (k + 1) y0 y1 y2 y3 y4 y5))
  | 0 => fun _ _ _ _ _ _ r h => by simp [rillmeterlaw10_adds.l0] at h
  | k + 1 => by
    have ih0 := rillmeterlaw10_adds.mono_l k
    · intro y0 y1 y2 y3 y4 y5
      unfold rillmeterlaw10_adds.l0
      repeat' first
      | (with_reducible exact ih0 _ _ _ _ _ _)
      | (with_reducible exact bloom_Add.mono _ _ _ _ _)
      | (with_reducible exact LeO.refl _)
      | (with_reducible exact LeO.none _)
      | (with_reducible refine LeO.ite ?_ ?_)
      | (with_reducible refine LeO.bind ?_ (fun _ => ?_))
      | exact ih0 _ _ _ _ _ _
      | exact bloom_Add.mono _ _ _ _ _
      | exact LeO.none _
      | refine LeO.ite ?_ ?_
      | refine LeO.bind ?_ (fun _ => ?_)
theorem rillmeterlaw10_adds.mono : ∀ a0 a1 a2 a3 k, LeO (rillmeterlaw10_adds.f k a0 a1 a2 a3) (rillmeterlaw10_adds.f (k + 1) a0 a1 a2 a3) := by
  intro a0 a1 a2 a3 k
  have ih0 := rillmeterlaw10_adds.mono_l k
  unfold rillmeterlaw10_adds.f
  repeat' first
      | (with_reducible exact ih0 _ _ _ _ _ _)
      | (with_reducible exact bloom_Add.mono _ _ _ _ _)
      | (with_reducible exact LeO.refl _)
      | (with_reducible exact LeO.none _)
      | (with_reducible refine LeO.ite ?_ ?_)
      | (with_reducible refine LeO.bind ?_ (fun _ => ?_))
      | exact ih0 _ _ _ _ _ _
      | exact bloom_Add.mono _ _ _ _ _
      | exact LeO.none _
      | refine LeO.ite ?_ ?_
      | refine LeO.bind ?_ (fun _ => ?_)
set_option maxHeartbeats 80000000 in
set_option maxRecDepth 100000 in
theorem rillmeterlaw10_adds.calls (k : Nat) (a0_0 : Int) (a0_1 : Int) (P0_2_ : Nat → Prop) (A0_2 : Option Addr) (c0_2 : Nat) (l0_2 : List Bool) (A1 : Option Addr) (c1 : Nat) (l1 : List ByteArray) (r1 : Int) (r2 : Int) (r3 : List Bool) (w : World) (hs0_2 : Kd.V Kd.bool 4 w w.heap.size (fun k_ => P0_2_ k_) (.slice A0_2 l0_2.length c0_2) l0_2) (hr1 : Kd.C Kd.string w A1 l1.length l1) (hc1 : l1.length ≤ c1) (h : rillmeterlaw10_adds.f k a0_0 a0_1 l0_2 l1 = some (r1, r2, r3)) :
    Calls Try.prog 26 #[.agg #[.int .u64 a0_0, .int .i64 a0_1, .slice A0_2 l0_2.length c0_2], .slice A1 l1.length c1] w fun e w' => ∃ v2_ : Value, e = .returned (.agg #[.int .u64 r1, .int .i64 r2, v2_]) ∧ Kd.V Kd.bool 4 w' w.heap.size (fun k_ => (P0_2_ k_ ∨ w.heap.size ≤ k_)) v2_ r3 ∧ Below w.heap.size w w' := by
 have hu25 := Try.underlying25; have HO0_2 := Aside0.mk (show Kd.V Kd.bool 4 w w.heap.size (fun k_ => (P0_2_ k_ ∨ w.heap.size ≤ k_)) (.slice A0_2 l0_2.length c0_2) l0_2 from Kd.V_mono hs0_2 (fun k_ hk => .inl hk)); have HR1 := Aside0.mk hr1; have HC1 := Aside0.mk hc1; clear hr1 hc1; have HB := Aside0.mk (Below.refl w.heap.size w); have H : (rillmeterlaw10_adds.l0 k l1 (l1.length : Int) 0 a0_0 a0_1 l0_2) = some (r1, r2, r3) := h; clear h; have H' := Aside0.mk H; clear H
 go_enter Try.func26, Try.ntmps26
 go_wp2_with (first | ((with_reducible refine gate_dst (N := 2) rfl ?_); refine box_event ?hg (N := 2) ?hd (cs := #[.int .u64 a0_0, .int .i64 a0_1, .slice A0_2 l0_2.length c0_2]) (t := 25) ?hr ?_; (case hd => rfl); (case hg => rfl); (case hr => first | (go_simp; done) | (go_simp; rfl)); intro gb197 hg w3 hbox hb; have n0_ := Aside0.mk (Kd.V_below (Kd.V_elderB (vk_ HO0_2) gb197 (Nat.le_of_eq hg.symm)) hb); have n1_ := Aside0.mk (below_step (bl_ HB) hb); have n2_ := Aside0.mk (hbox); have n3_ := Aside0.mk (gl_ hg HB); have n4_ := Aside0.mk (gl_ hg HB); clear HO0_2; clear HB; have HO0_2 := n0_; have HB := n1_; have BK197 := n2_; have GW197 := n3_; have GE197 := n4_; clear n0_ n1_ n2_ n3_ n4_; clear hb hbox hg) | ((with_reducible refine gate_dst (N := 4) rfl ?_); refine box_event ?hg (N := 4) ?hd (cs := #[.int .u64 0, .int .i64 0, .slice none 0 0]) (t := 25) ?hr ?_; (case hd => rfl); (case hg => rfl); (case hr => first | (go_simp; done) | (go_simp; rfl)); intro gb198 hg w4 hbox hb; have n0_ := Aside0.mk (Kd.V_below (Kd.V_elderB (vk_ HO0_2) gb198 (Nat.le_of_eq hg.symm)) hb); have n1_ := Aside0.mk (blk_below (bk_ BK197) hb); have n2_ := Aside0.mk (below_step (bl_ HB) hb); have n3_ := Aside0.mk (hbox); have n4_ := Aside0.mk (gl_ hg HB); have n5_ := Aside0.mk (gl_ hg HB); have n6_ := Aside0.mk (nl_ hg BK197); have n7_ := Aside0.mk (ng_ hg BK197); clear HO0_2; clear BK197; clear HB; have HO0_2 := n0_; have BK197 := n1_; have HB := n2_; have BK198 := n3_; have GW198 := n4_; have GE198 := n5_; have NB197_198 := n6_; have NB198_197 := n7_; clear n0_ n1_ n2_ n3_ n4_ n5_ n6_ n7_; clear hb hbox hg))
 go_loopg [9] k (fun kq v9 w' => ∃ (x9_1 : Int) (x198000_1 : Int) (x198001_1 : Int) (x198002_1 : List Bool) (u198002 : Value), v9 = .int .i64 x9_1 ∧ Aside0 (rillmeterlaw10_adds.l0 kq l1 (l1.length : Int) x9_1 x198000_1 x198001_1 x198002_1 = some (r1, r2, r3)) ∧ Aside0 (kq ≤ k) ∧ Aside0 (Kd.V Kd.bool 4 w' w.heap.size (fun k_ => (P0_2_ k_ ∨ w.heap.size ≤ k_) ∧ k_ ≠ gb197 ∧ k_ ≠ gb198) u198002 x198002_1) ∧ Aside0 (w'.heap[gb197]? = some (.cells #[.int .u64 x198000_1, .int .i64 x198001_1, u198002] 25 (0, 0))) ∧ Aside0 (w'.heap[gb198]? = some (.cells #[.int .u64 0, .int .i64 0, (.slice none 0 0)] 25 (0, 0))) ∧ Aside0 (Below w.heap.size w w'))
 case atStart => exact ⟨(0), (a0_0), (a0_1), (l0_2), (.slice A0_2 l0_2.length c0_2), (by first | rfl | (simp; done) | (simp [*]; done)), H', ⟨Nat.le_refl _⟩, ⟨by (with_reducible repeat (first | apply Kd.V_alloc | apply Kd.V_drewN | apply Kd.V_drew)); exact Kd.V_mono HO0_2.out (fun _ hk => ⟨hk.1.1, ⟨hk.1.2, hk.2⟩⟩)⟩, ⟨bk_ BK197⟩, ⟨bk_ BK198⟩, ⟨bl_ HB⟩⟩
 case round =>
  clear H'; (try clear c1); (try clear c2); (try clear p2); obtain ⟨x9_1, x198000_1, x198001_1, x198002_1, u198002, rfl, HA, HK1, HO_198002, BK197, BK198, HB⟩ := hrel
  cases gk with
  | zero => exact absurd HA.out (by simp [rillmeterlaw10_adds.l0])
  | succ k1 =>
   have H := HA.out; clear HA; simp only [rillmeterlaw10_adds.l0] at H
   by_cases c5 : x9_1 < (l1.length : Int)
   ·rw [if_pos c5] at H; have c5b0 : decide (x9_1 < (l1.length : Int)) = true := decide_eq_true c5; clear c5
    by_cases c6 : 0 ≤ x9_1
    ·rw [if_pos c6] at H; have c6b0 : decide (0 ≤ x9_1) = true := decide_eq_true c6; clear c6
     by_cases c7 : x9_1 < (l1.length : Int)
     ·rw [if_pos c7] at H; have c7b0 : decide (x9_1 < (l1.length : Int)) = true := decide_eq_true c7; clear c7; replace H := Option.bind_eq_some_iff.mp H; obtain ⟨⟨t200, t201, t202⟩, A80, H⟩ := H; replace H : (rillmeterlaw10_adds.l0 k1 l1 (l1.length : Int) (wrap64 (x9_1 + 1)) t200 t201 t202) = some (r1, r2, r3) := H; have A8 := Aside0.mk A80; clear A80; have H' := Aside0.mk H; clear H; have p199 : 0 ≤ (x9_1 : Int) := of_decide_eq_true (by first | (with_reducible assumption) | assumption); have q199 : x9_1 < (l1.length : Int) := of_decide_eq_true (by first | (with_reducible assumption) | assumption); obtain ⟨ad199, e199, hx199_0⟩ := Kd.at_string HR1.out x9_1 p199 q199
      cases e199; (try replace hx199_0 := (HB.out.cell (World.block_lt_of_cell? w _ hx199_0)).trans hx199_0); replace p199 := eq_true p199; replace q199 := eq_true q199; have hnb9 := NB197_198.out; have hnc9 := NB198_197.out; have hcz10_0 : wr.cell? ⟨gb197, 0, none⟩ = some (.int .u64 x198000_1) := (blk_cell BK197.out 0).trans rfl; have hcz10_1 : wr.cell? ⟨gb197, 1, none⟩ = some (.int .i64 x198001_1) := (blk_cell BK197.out 1).trans rfl; have hcz10_2 : wr.cell? ⟨gb197, 2, none⟩ = some (u198002) := (blk_cell BK197.out 2).trans rfl; have hfz10_0 := blk_frozen BK197.out 0; have hfz10_1 := blk_frozen BK197.out 1; have hfz10_2 := blk_frozen BK197.out 2; obtain ⟨Ao11, co11, eo11⟩ := Kd.V_slice HO_198002.out; subst eo11
      go_wp2_with (first | ((with_reducible refine gate_callee (f := 16) rfl ?_); refine goesL_ (some 15) rfl rfl Try.func16 (by kernel_rfl) rfl #[.agg #[.int .u64 x198000_1, .int .i64 x198001_1, .slice Ao11 x198002_1.length co11], .string (rdOf ByteArray.empty l1 x9_1)] rfl (by (try simp only [List.map_toArray, List.map_cons, List.map_nil]); first | done | rfl | (simp only [List.length_drop, List.length_take]; rfl)) ?_; (with_reducible refine (bloom_Add.calls k1 x198000_1 x198001_1 _ _ x198002_1 (rdOf ByteArray.empty l1 x9_1) t200 t201 t202 _ ?side1 ?side2 A8.out).mono ?_); (case side1 => repeat (first | exact (Kd.V_reads' HO_198002.out).2.2 | (with_reducible refine Kd.C_alloc ?_ _) | (with_reducible refine Kd.C_drewN ?_ _) | (with_reducible refine Kd.C_drew ?_))); (case side2 => exact (Kd.V_reads' HO_198002.out).2.1); rintro e w12 ⟨v203, rfl, ho0, hb⟩; refine ⟨_, rfl, ?_⟩; have n0_ := Aside0.mk (Kd.V_elder' (vk_ HO_198002) (Kd.R_base ho0) hb); have n1_ := Aside0.mk (Kd.R_lower (Kd.R_newM (M := fun k_ => (w.heap.size ≤ k_)) ho0 (below_size (bl_ HB)) (fun k_ h_ => h_)) (below_size (bl_ HB))); have n2_ := Aside0.mk (blk_below (bk_ BK197) hb); have n3_ := Aside0.mk (blk_below (bk_ BK198) hb); have n4_ := Aside0.mk (below_step (bl_ HB) hb); clear HO_198002; clear BK197; clear BK198; clear HB; have HO_198002 := n0_; have HO204 := n1_; have BK197 := n2_; have BK198 := n3_; have HB := n4_; clear n0_ n1_ n2_ n3_ n4_; (try clear hb); (try clear hb2); (try clear hk); (try clear hi); (try clear ho0); have hcz13_0 : w12.cell? ⟨gb197, 0, none⟩ = some (.int .u64 x198000_1) := (blk_cell BK197.out 0).trans rfl; have hcz13_1 : w12.cell? ⟨gb197, 1, none⟩ = some (.int .i64 x198001_1) := (blk_cell BK197.out 1).trans rfl; have hcz13_2 : w12.cell? ⟨gb197, 2, none⟩ = some (.slice Ao11 x198002_1.length co11) := (blk_cell BK197.out 2).trans rfl; have hfz13_0 := blk_frozen BK197.out 0; have hfz13_1 := blk_frozen BK197.out 1; have hfz13_2 := blk_frozen BK197.out 2; obtain ⟨Ao14, co14, eo14⟩ := Kd.R_slice HO204.out; subst eo14))
      go_roundg k1
      case measure => have := HK1.out; omega
      case rel => exact ⟨(wrap64 (x9_1 + 1)), (t200), (t201), (t202), (.slice Ao14 t202.length co14), (by first | rfl | (simp; done) | (simp [*]; done)), H', ⟨by have := HK1.out; omega⟩, ⟨Kd.V_mono (Kd.R_V (by (with_reducible repeat (first | apply Kd.R_alloc | apply Kd.R_drewN | apply Kd.R_drew)); exact Kd.R_mono (Kd.R_far (p := ⟨gb197, 2, none⟩) (Kd.R_far (p := ⟨gb197, 1, none⟩) (Kd.R_far (p := ⟨gb197, 0, none⟩) (Kd.R_types (Kd.R_types (Kd.R_types HO204.out BK197.out (by decide)) BK198.out (by decide)) BK197.out (by decide)) (fun _ hk => hk.2) (.int .u64 t200)) (fun _ hk => hk.2) (.int .i64 t201)) (fun _ hk => hk.2) (.slice Ao14 t202.length co14)) (fun k_ hk => (show w.heap.size ≤ k_ ∧ k_ ≠ gb197 ∧ k_ ≠ gb198 from ⟨hk.1.1.1.1, ⟨hk.1.1.2, hk.1.2⟩⟩)))) (fun k_ hk => by first | exact ⟨(.inr (hk.1)), hk.2⟩ | exact (.inr (hk)))⟩, ⟨by (with_reducible repeat (first | refine blk_drewN ?_ _ | refine blk_drew ?_ | refine blk_alloc ?_ _)); refine blk_put (cs := #[.int .u64 t200, .int .i64 t201, .slice Ao11 x198002_1.length co11]) ?_ 2 _ rfl; (with_reducible repeat (first | refine blk_drewN ?_ _ | refine blk_drew ?_ | refine blk_alloc ?_ _)); refine blk_put (cs := #[.int .u64 t200, .int .i64 x198001_1, .slice Ao11 x198002_1.length co11]) ?_ 1 _ rfl; (with_reducible repeat (first | refine blk_drewN ?_ _ | refine blk_drew ?_ | refine blk_alloc ?_ _)); refine blk_put (cs := #[.int .u64 x198000_1, .int .i64 x198001_1, .slice Ao11 x198002_1.length co11]) ?_ 0 _ rfl; (with_reducible repeat (first | refine blk_drewN ?_ _ | refine blk_drew ?_ | refine blk_alloc ?_ _)); exact BK197.out⟩, ⟨by (with_reducible repeat (first | refine blk_drewN ?_ _ | refine blk_drew ?_ | refine blk_alloc ?_ _)); refine blk_far ?_ NB198_197.out _; (with_reducible repeat (first | refine blk_drewN ?_ _ | refine blk_drew ?_ | refine blk_alloc ?_ _)); refine blk_far ?_ NB198_197.out _; (with_reducible repeat (first | refine blk_drewN ?_ _ | refine blk_drew ?_ | refine blk_alloc ?_ _)); refine blk_far ?_ NB198_197.out _; (with_reducible repeat (first | refine blk_drewN ?_ _ | refine blk_drew ?_ | refine blk_alloc ?_ _)); exact BK198.out⟩, ⟨bl_ HB⟩⟩
     ·rw [if_neg c7] at H; exact absurd H (by simp)
    ·rw [if_neg c6] at H; exact absurd H (by simp)
   ·rw [if_neg c5] at H; have c5b0 : decide (x9_1 < (l1.length : Int)) = false := decide_eq_false c5; clear c5; simp only [Option.some.injEq, Prod.mk.injEq] at H; obtain ⟨rfl, rfl, rfl⟩ := H; have hnb15 := NB197_198.out; have hnc15 := NB198_197.out; have hcz16_0 : wr.cell? ⟨gb197, 0, none⟩ = some (.int .u64 x198000_1) := (blk_cell BK197.out 0).trans rfl; have hcz16_1 : wr.cell? ⟨gb197, 1, none⟩ = some (.int .i64 x198001_1) := (blk_cell BK197.out 1).trans rfl; have hcz16_2 : wr.cell? ⟨gb197, 2, none⟩ = some (u198002) := (blk_cell BK197.out 2).trans rfl; have hfz16_0 := blk_frozen BK197.out 0; have hfz16_1 := blk_frozen BK197.out 1; have hfz16_2 := blk_frozen BK197.out 2; have hcz17_0 : wr.cell? ⟨gb198, 0, none⟩ = some (.int .u64 0) := (blk_cell BK198.out 0).trans rfl; have hcz17_1 : wr.cell? ⟨gb198, 1, none⟩ = some (.int .i64 0) := (blk_cell BK198.out 1).trans rfl; have hcz17_2 : wr.cell? ⟨gb198, 2, none⟩ = some (.slice none 0 0) := (blk_cell BK198.out 2).trans rfl; have hfz17_0 := blk_frozen BK198.out 0; have hfz17_1 := blk_frozen BK198.out 1; have hfz17_2 := blk_frozen BK198.out 2; obtain ⟨Ao18, co18, eo18⟩ := Kd.V_slice HO_198002.out; subst eo18
    go_wp2
    refine bodyPost_ret (results_cell_row rfl _ _ gb198 25 #[.int .u64 x198000_1, .int .i64 x198001_1, .slice Ao18 x198002_1.length co18] (0, 0) _ rfl (by (with_reducible repeat (first | refine blk_drewN ?_ _ | refine blk_drew ?_ | refine blk_alloc ?_ _)); refine blk_put (cs := #[.int .u64 x198000_1, .int .i64 x198001_1, .slice none 0 0]) ?_ 2 _ rfl; (with_reducible repeat (first | refine blk_drewN ?_ _ | refine blk_drew ?_ | refine blk_alloc ?_ _)); refine blk_put (cs := #[.int .u64 x198000_1, .int .i64 0, .slice none 0 0]) ?_ 1 _ rfl; (with_reducible repeat (first | refine blk_drewN ?_ _ | refine blk_drew ?_ | refine blk_alloc ?_ _)); refine blk_put (cs := #[.int .u64 0, .int .i64 0, .slice none 0 0]) ?_ 0 _ rfl; (with_reducible repeat (first | refine blk_drewN ?_ _ | refine blk_drew ?_ | refine blk_alloc ?_ _)); exact BK198.out) Try.underlying25 rfl (by kernel_rfl)) rfl ?_; exact ⟨_, by first | rfl | (simp [errW_none, errW_some] <;> rfl) | (simp [*, errW_none, errW_some] <;> rfl), by (with_reducible repeat (first | apply Kd.V_alloc | apply Kd.V_drewN | apply Kd.V_drew)); exact Kd.V_mono (Kd.V_far (p := ⟨gb198, 2, none⟩) (Kd.V_far (p := ⟨gb198, 1, none⟩) (Kd.V_far (p := ⟨gb198, 0, none⟩) (Kd.V_mono HO_198002.out (fun k_ hk => (⟨hk, hk.2.2⟩ : _ ∧ k_ ≠ gb198))) (fun _ hk => hk.2) (.int .u64 x198000_1)) (fun _ hk => hk.2) (.int .i64 x198001_1)) (fun _ hk => hk.2) (.slice Ao18 x198002_1.length co18)) (fun _ hk => hk.1.1), bl_ HB⟩

end Go.Proofs.Ytmlcafnnhpfpaaa.PBloomKeeps
