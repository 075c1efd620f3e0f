/- The functions that a law uses, each as a plain function, with the proof that a call of the Go function comes to its answer. Condition of each: the arguments read as the data that it names, and the plain function has an answer. Written by a program of this session (standin.py). -/
import Derived.Test.YtljmjjeghebdpaaPElasticFewx0
import Derived.Test.YtljmjjeghebdpaaPElasticFewx4
import Derived.Test.YtljmjjeghebdpaaShort
import Derived.Lib.SliceRun
import Derived.Shelf.Abstract
import Derived.Test.YtljmjjeghebdpaaPressMore
namespace Go.Proofs.Ytljmjjeghebdpaa.PElasticFew
open Go.RowKit Go.Proofs.YtljmjjeghebdpaaW.PrintWords Go.Proofs.YtljmjjeghebdpaaW.PrintLast Go.Proofs.YtljmjjeghebdpaaW.PrintMore Go.Proofs.Ytljmjjeghebdpaa.Short Go.Proofs.Ytljmjjeghebdpaa.Press Go.Proofs.Ytljmjjeghebdpaa.PressMore
attribute [local go_sem] max2_int min2_int max_two min_two max_three min_three max_four min_four   -- for this text's walks alone
set_option linter.unusedVariables false
set_option linter.unusedSimpArgs false

/-! ### heavy_Item: function 34 -/
/-- a row of one element or none is sorted; of longer ones nothing is told -/
def heavy_Item.f (l0 : List (S68)) : Option ((List (S68))) := if l0.length ≤ 1 then some l0 else none

theorem heavy_Item.ins (A : Option Addr) (c n : Nat) (hn : n ≤ 1) (w : World) :
    Calls Try.prog 76 #[.slice A n c, .int .i64 0, .int .i64 n, .func (.func 35) #[] #[]] w fun e w' => e = .returned (.tuple #[]) ∧ Below w.heap.size w w' := by
  have h1 : ¬ (1 : Int) < (n : Int) := by omega
  have h2 : decide ((1 : Int) < (n : Int)) = false := decide_eq_false h1
  have h3 : ¬ (1 < n) := by omega
  go_enter Try.func76, Try.ntmps76
  go_wp2
  refine wp_loop_rounds 1 ?_
  rw [rounds_succ]
  go_wp2
  go_end0
  exact ⟨rfl, by repeat (first | exact Below.refl _ _ | apply below_alloc | apply pw_below_drewN | apply below_drew1)⟩

theorem heavy_Item.stable (A : Option Addr) (c n : Nat) (hn : n ≤ 1) (w : World) :
    Calls Try.prog 59 #[.slice A n c, .int .i64 n, .func (.func 35) #[] #[]] w fun e w' => e = .returned (.tuple #[]) ∧ Below w.heap.size w w' := by
  have h1 : ¬ (20 : Int) ≤ (n : Int) := by omega
  have h2 : decide ((20 : Int) ≤ (n : Int)) = false := decide_eq_false h1
  have h4 : ¬ (20 : Int) < (n : Int) := by omega
  have h5 : decide ((20 : Int) < (n : Int)) = false := decide_eq_false h4
  have e_ : ∀ (args : Array Value) (w : World), (callFunc 76 args).run Try.prog w = .ok (.enter 76 args) w := fun args w => enters_ Try.func76 (by kernel_rfl) rfl args w
  go_enter Try.func59, Try.ntmps59
  go_wp2
  refine wp_loop_rounds 1 ?_
  rw [rounds_succ]
  go_wp2_with (go_at_fn 76; refine (heavy_Item.ins A c n hn _).mono ?_; rintro e w1 ⟨rfl, hb1⟩)
  refine wp_loop_rounds 1 ?_
  rw [rounds_succ]
  go_wp2
  go_end0
  refine ⟨rfl, ?_⟩
  first | exact hb1 | (repeat (first | exact hb1 | apply below_alloc | apply pw_below_drewN | apply below_drew1))
set_option maxHeartbeats 80000000 in
set_option maxRecDepth 100000 in
theorem heavy_Item.calls (P0_ : Nat → Prop) (u9000_ : Value) (l0 : List (S68)) (r : List (S68)) (w0 w : World) (hB : Below w0.heap.size w0 w) (ho0 : Kd.R k68 68 w w0.heap.size P0_ u9000_ l0) (h : heavy_Item.f l0 = some r) :
    Calls Try.prog 34 #[u9000_, .func (.func 35) #[] #[]] w fun e w' => e = .returned (.tuple #[]) ∧ Kd.R k68 68 w' w0.heap.size (fun k_ => (P0_ k_ ∨ w.heap.size ≤ k_)) u9000_ r ∧ Below w0.heap.size w0 w' ∧ Kept w w' (fun k_ => P0_ k_) := by
 unfold heavy_Item.f at h
 split at h
 ·rename_i hl
  obtain rfl := Option.some.inj h; clear h; obtain ⟨A, c, e_⟩ := Kd.R_slice ho0; subst e_
  have e2_ : ∀ (args : Array Value) (w : World), (callFunc 59 args).run Try.prog w = .ok (.enter 59 args) w := fun args w => enters_ Try.func59 (by kernel_rfl) rfl args w
  have key : Calls Try.prog 34 #[.slice A l0.length c, .func (.func 35) #[] #[]] w fun e w' => e = .returned (.tuple #[]) ∧ Below w.heap.size w w' := by
   clear ho0; generalize l0.length = n at *
   go_enter Try.func34, Try.ntmps34
   go_wp2_with (go_at_fn 59; refine (heavy_Item.stable A c n hl _).mono ?_; rintro e w1 ⟨rfl, hb1⟩)
   go_end0
   exact ⟨rfl, hb1⟩
  refine key.mono ?_; rintro e w' ⟨rfl, hb⟩; exact ⟨rfl, Kd.R_mono (Kd.R_below ho0 hb) (fun k_ hk => .inl hk), below_step hB hb, Kept.of_below hb _⟩
 ·cases h

/-! ### elastic_List: function 13 -/
mutual
def elastic_List.l0 : Nat → Int → List (S68) → List (S56) → Int → Int → Option ((List (S68)))
  | 0, _, _, _, _, _ => none
  | k + 1, x1, x5, x14, x15, x16 => if x16 < x15 then (if 0 ≤ x16 then (if x16 < (x14.length : Int) then (elastic_List.l1 k x1 x5 x14 x15 x16 ((rd_T56 x14 x16).f0) (((rd_T56 x14 x16).f0).length : Int) 0) else (none)) else (none)) else ((heavy_Item.f x5).bind fun t273 => (some t273))
def elastic_List.l1 : Nat → Int → List (S68) → List (S56) → Int → Int → List (S76) → Int → Int → Option ((List (S68)))
  | 0, _, _, _, _, _, _, _, _ => none
  | k + 1, x1, x5, x14, x15, x16, x21, x22, x23 => if x23 < x22 then (if 0 ≤ x23 then (if x23 < (x21.length : Int) then (if ((rd_T76 x21 x23).f1) ≥ x1 then (if x5.length < 5864062014805 then (elastic_List.l1 k x1 (x5 ++ [(⟨(rd_T76 x21 x23).f0, (rd_T76 x21 x23).f1⟩ : S68)]) x14 x15 x16 x21 x22 (wrap64 (x23 + 1))) else (none)) else (elastic_List.l1 k x1 x5 x14 x15 x16 x21 x22 (wrap64 (x23 + 1)))) else (none)) else (none)) else (elastic_List.l0 k x1 x5 x14 x15 (wrap64 (x16 + 1)))
end
def elastic_List.f (k : Nat) (a0_0 : Int) (a0_1 : Int) (a0_2 : Int) (l0_3 : List (S56)) (a0_4 : Int) (a0_5 : Int) (l0_6 : List (List Int)) (a1 : Int) : Option ((List (S68))) := (elastic_Right.f k a0_0 a0_1 a0_2 l0_3 a0_4 a0_5 l0_6).bind fun t272 => (if t272 = true then (elastic_List.l0 k a1 ([] : List (S68)) l0_3 (l0_3.length : Int) 0) else (some ([] : List (S68))))
theorem elastic_List.mono_l : ∀ k, (∀ y0 y1 y2 y3 y4, LeO (elastic_List.l0 k y0 y1 y2 y3 y4) (elastic_List.l0 (k + 1) y0 y1 y2 y3 y4)) ∧ (∀ y0 y1 y2 y3 y4 y5 y6 y7, LeO (elastic_List.l1 k y0 y1 y2 y3 y4 y5 y6 y7) (elastic_List.l1 (k + 1) y0 y1 y2 y3 y4 y5 y6 y7))
  | 0 => ⟨fun _ _ _ _ _ r h => by simp [elastic_List.l0] at h, fun _ _ _ _ _ _ _ _ r h => by simp [elastic_List.l1] at h⟩
  | k + 1 => by
    obtain ⟨ih0, ih1⟩ := elastic_List.mono_l k
    refine ⟨?_, ?_⟩
    · intro y0 y1 y2 y3 y4
      unfold elastic_List.l0
      repeat' first
      | (with_reducible exact ih0 _ _ _ _ _)
      | (with_reducible exact ih1 _ _ _ _ _ _ _ _)
      | (with_reducible exact elastic_Right.mono _ _ _ _ _ _ _ _)
      | (with_reducible exact LeO.refl _)
      | (with_reducible exact LeO.none _)
      | (with_reducible refine LeO.ite ?_ ?_)
      | (with_reducible refine LeO.bind ?_ (fun _ => ?_))
      | exact ih0 _ _ _ _ _
      | exact ih1 _ _ _ _ _ _ _ _
      | exact elastic_Right.mono _ _ _ _ _ _ _ _
      | exact LeO.none _
      | refine LeO.ite ?_ ?_
      | refine LeO.bind ?_ (fun _ => ?_)
    · intro y0 y1 y2 y3 y4 y5 y6 y7
      unfold elastic_List.l1
      repeat' first
      | (with_reducible exact ih0 _ _ _ _ _)
      | (with_reducible exact ih1 _ _ _ _ _ _ _ _)
      | (with_reducible exact elastic_Right.mono _ _ _ _ _ _ _ _)
      | (with_reducible exact LeO.refl _)
      | (with_reducible exact LeO.none _)
      | (with_reducible refine LeO.ite ?_ ?_)
      | (with_reducible refine LeO.bind ?_ (fun _ => ?_))
      | exact ih0 _ _ _ _ _
      | exact ih1 _ _ _ _ _ _ _ _
      | exact elastic_Right.mono _ _ _ _ _ _ _ _
      | exact LeO.none _
      | refine LeO.ite ?_ ?_
      | refine LeO.bind ?_ (fun _ => ?_)
theorem elastic_List.mono : ∀ a0 a1 a2 a3 a4 a5 a6 a7 k, LeO (elastic_List.f k a0 a1 a2 a3 a4 a5 a6 a7) (elastic_List.f (k + 1) a0 a1 a2 a3 a4 a5 a6 a7) := by
  intro a0 a1 a2 a3 a4 a5 a6 a7 k
  obtain ⟨ih0, ih1⟩ := elastic_List.mono_l k
  unfold elastic_List.f
  repeat' first
      | (with_reducible exact ih0 _ _ _ _ _)
      | (with_reducible exact ih1 _ _ _ _ _ _ _ _)
      | (with_reducible exact elastic_Right.mono _ _ _ _ _ _ _ _)
      | (with_reducible exact LeO.refl _)
      | (with_reducible exact LeO.none _)
      | (with_reducible refine LeO.ite ?_ ?_)
      | (with_reducible refine LeO.bind ?_ (fun _ => ?_))
      | exact ih0 _ _ _ _ _
      | exact ih1 _ _ _ _ _ _ _ _
      | exact elastic_Right.mono _ _ _ _ _ _ _ _
      | exact LeO.none _
      | refine LeO.ite ?_ ?_
      | refine LeO.bind ?_ (fun _ => ?_)
set_option maxHeartbeats 80000000 in
set_option maxRecDepth 100000 in
theorem elastic_List.calls (k : Nat) (a0_0 : Int) (a0_1 : Int) (a0_2 : Int) (A0_3 : Option Addr) (c0_3 : Nat) (l0_3 : List (S56)) (a0_4 : Int) (a0_5 : Int) (A0_6 : Option Addr) (c0_6 : Nat) (l0_6 : List (List Int)) (a1 : Int) (r : List (S68)) (w : World) (hr0_3 : Kd.C k56 w A0_3 l0_3.length l0_3) (hc0_3 : l0_3.length ≤ c0_3) (hr0_6 : Kd.C (Kd.slice 3 (Kd.int .i64)) w A0_6 l0_6.length l0_6) (hc0_6 : l0_6.length ≤ c0_6) (h : elastic_List.f k a0_0 a0_1 a0_2 l0_3 a0_4 a0_5 l0_6 a1 = some r) :
    Calls Try.prog 13 #[.agg #[.int .u64 a0_0, .int .i64 a0_1, .int .i64 a0_2, .slice A0_3 l0_3.length c0_3, .int .u64 a0_4, .int .i64 a0_5, .slice A0_6 l0_6.length c0_6], .int .i64 a1] w fun e w' => ∃ v0_ : Value, e = .returned (v0_) ∧ Kd.R k68 68 w' w.heap.size (fun _ => True) v0_ r ∧ Below w.heap.size w w' := by
 have hu28 := Try.underlying28; have hu56 := Try.underlying56; have hu76 := Try.underlying76; have hu68 := Try.underlying68; have bL := mk_ hr0_3; have bT := mk_ hc0_3; clear hr0_3 hc0_3; have bU := mk_ hr0_6; have bV := mk_ hc0_6; clear hr0_6 hc0_6; have HB := mk_ (Below.refl w.heap.size w); have H : ((elastic_Right.f k a0_0 a0_1 a0_2 l0_3 a0_4 a0_5 l0_6).bind fun bD => (if bD = true then (elastic_List.l0 k a1 ([] : List (S68)) l0_3 (l0_3.length : Int) 0) else (some ([] : List (S68))))) = some r := h; clear h; replace H := Option.bind_eq_some_iff.mp H; obtain ⟨bD, bW, H⟩ := H; replace H : (if bD = true then (elastic_List.l0 k a1 ([] : List (S68)) l0_3 (l0_3.length : Int) 0) else (some ([] : List (S68)))) = some r := H; have A3 := mk_ bW; clear bW
 by_cases c4 : bD = true
 ·subst c4
  have H1 : (elastic_List.l0 k a1 ([] : List (S68)) l0_3 (l0_3.length : Int) 0) = some r := by rw [if_pos rfl] at H; exact H
  clear H; have H := H1; clear H1; have H' := mk_ H; clear H
  go_enter Try.func13, Try.ntmps13
  go_wp2_with (first | ((with_reducible refine gate_dst (N := 2) rfl ?_); refine box_event ?hg (N := 2) ?hd (cs := #[.int .u64 a0_0, .int .i64 a0_1, .int .i64 a0_2, .slice A0_3 l0_3.length c0_3, .int .u64 a0_4, .int .i64 a0_5, .slice A0_6 l0_6.length c0_6]) (t := 28) ?hr ?_; (case hd => rfl); (case hg => rfl); (case hr => first | (go_simp; done) | (go_simp; rfl)); intro aE hg w5 hbox hb; have n0_ := bs_ HB hb; have n1_ := mk_ (hbox); have n2_ := gx_ hg HB; have n3_ := gx_ hg HB; clear HB; have HB := n0_; have aA := n1_; have dI := n2_; have bX := n3_; clear n0_ n1_ n2_ n3_; clear hb hbox hg; obtain ⟨bY, bZ, cA, cB, cC, cD, cE⟩ := cz7_ aA; obtain ⟨cF, cG, cH, cI, cJ, cK, cL⟩ := fz7_ aA) | ((with_reducible refine gate_callee (f := 15) rfl ?_); refine goesL_ (some 11) rfl rfl Try.func15 (by kernel_rfl) rfl #[.agg #[.int .u64 a0_0, .int .i64 a0_1, .int .i64 a0_2, .slice A0_3 l0_3.length c0_3, .int .u64 a0_4, .int .i64 a0_5, .slice A0_6 l0_6.length c0_6]] rfl (by (try simp only [List.map_toArray, List.map_cons, List.map_nil]); first | done | rfl | (simp only [List.length_drop, List.length_take]; rfl)) ?_; (with_reducible refine (elastic_Right.calls k a0_0 a0_1 a0_2 _ _ l0_3 a0_4 a0_5 _ _ l0_6 true _ ?side1 ?side2 ?side3 ?side4 A3.out).mono ?_); (case side1 => repeat (first | exact (Kd.C_below bL.out HB.out) | (with_reducible refine Kd.C_alloc ?_ _) | (with_reducible refine Kd.C_drewN ?_ _) | (with_reducible refine Kd.C_drew ?_))); (case side2 => exact bT.out); (case side3 => repeat (first | exact (Kd.C_below bU.out HB.out) | (with_reducible refine Kd.C_alloc ?_ _) | (with_reducible refine Kd.C_drewN ?_ _) | (with_reducible refine Kd.C_drew ?_))); (case side4 => exact bV.out); rintro e w7 ⟨rfl, hb⟩; refine ⟨_, rfl, ?_⟩; have n0_ := bb_ aA hb; have n1_ := bs_ HB hb; clear aA; clear HB; have aA := n0_; have HB := n1_; clear n0_ n1_; (try clear hb); (try clear hb2); (try clear hk); (try clear hi); obtain ⟨cM, cN, cO, cP, cQ, cR, cS⟩ := cz7_ aA; obtain ⟨cT, cU, cV, cW, cX, cY, cZ⟩ := fz7_ aA))
  go_loopg [5, 16] k (fun kq v5 dJ w' => ∃ (aN : List (S68)) (aC : Int), dJ = .int .i64 aC ∧ Aside0 (elastic_List.l0 kq a1 aN l0_3 (l0_3.length : Int) aC = some r) ∧ Aside0 (kq ≤ k) ∧ Aside0 (Kd.R k68 68 w' w.heap.size (fun _ => True) v5 aN) ∧ Aside0 (w'.heap[aE]? = some (.cells #[.int .u64 a0_0, .int .i64 a0_1, .int .i64 a0_2, (.slice A0_3 l0_3.length c0_3), .int .u64 a0_4, .int .i64 a0_5, (.slice A0_6 l0_6.length c0_6)] 28 (0, 0))) ∧ Aside0 (Below w.heap.size w w'))
  case atStart => exact ⟨(([] : List (S68))), (0), (by first | rfl | (simp; done) | (simp [*]; done)), H', ⟨Nat.le_refl _⟩, ⟨by first | exact Kd.R_nil _ _ _ _ _ | exact Kd.N_nil _ _ _ _ _ | exact Kd.V_nil _ _ _ _ _ | exact Kd.Q_nil _ _ _ _ _ | exact Kd.S_nil _ _ _ _ _⟩, ⟨bk_ aA⟩, ⟨bl_ HB⟩⟩
  case round =>
   clear H'; (try clear c1); (try clear p2); (try clear c4); (try clear bY); (try clear bZ); (try clear cA); (try clear cB); (try clear cC); (try clear cD); (try clear cE); (try clear cM); (try clear cN); (try clear cO); (try clear cP); (try clear cQ); (try clear cR); (try clear cS); (try clear cF); (try clear cG); (try clear cH); (try clear cI); (try clear cJ); (try clear cK); (try clear cL); (try clear cT); (try clear cU); (try clear cV); (try clear cW); (try clear cX); (try clear cY); (try clear cZ); obtain ⟨aN, aC, rfl, HA, HK1, aG, aA, HB⟩ := hrel
   cases gk with
   | zero => exact absurd HA.out (by simp [elastic_List.l0])
   | succ k1 =>
    have H := HA.out; clear HA; simp only [elastic_List.l0] at H
    by_cases c9 : aC < (l0_3.length : Int)
    ·rw [if_pos c9] at H; have dA : decide (aC < (l0_3.length : Int)) = true := decide_eq_true c9; clear c9
     by_cases bB : 0 ≤ aC
     ·rw [if_pos bB] at H; have dK : decide (0 ≤ aC) = true := decide_eq_true bB; clear bB
      by_cases bC : aC < (l0_3.length : Int)
      ·rw [if_pos bC] at H; have dL : decide (aC < (l0_3.length : Int)) = true := decide_eq_true bC; clear bC; have H' := mk_ H; clear H; have bE : 0 ≤ (aC : Int) := of_decide_eq_true (by first | (with_reducible assumption) | assumption); have bF : aC < (l0_3.length : Int) := of_decide_eq_true (by first | (with_reducible assumption) | assumption); obtain ⟨dB, A274_0, c274_0, e274, bG, bH, dC, hi274_0⟩ := at_T56 bL.out aC bE bF
       cases e274; (try replace bG := bt_ HB bG); (try replace bH := bt_ HB bH); have dD := mk_ hi274_0; have fB := mk_ dC; clear hi274_0 dC; replace bE := eq_true bE; replace bF := eq_true bF
       go_wp2_with (first | ((with_reducible refine gate_dst (N := 7) rfl ?_); refine box_event ?hg (N := 7) ?hd (cs := #[.slice none 0 0, .int .i64 0]) (t := 56) ?hr ?_; (case hd => rfl); (case hg => rfl); (case hr => first | (go_simp; done) | (go_simp; rfl)); intro aY hg dE hbox hb; have n0_ := mk_ (Kd.R_below (by (with_reducible repeat (first | apply Kd.R_alloc | apply Kd.R_drewN | apply Kd.R_drew)); exact aG.out) hb); have n1_ := bb_ aA hb; have n2_ := bs_ HB hb; have n3_ := mk_ (hbox); have n4_ := gx_ hg HB; have n5_ := gx_ hg HB; have n6_ := nx_ hg aA; have n7_ := ny_ hg aA; clear aG; clear aA; clear HB; have aG := n0_; have aA := n1_; have HB := n2_; have aH := n3_; have fC := n4_; have fD := n5_; have bM := n6_; have dM := n7_; clear n0_ n1_ n2_ n3_ n4_ n5_ n6_ n7_; clear hb hbox hg; have fE := dM.out; have fF := bM.out; obtain ⟨dN, dO⟩ := cz2_ aH; obtain ⟨dP, dQ⟩ := fz2_ aH))
       go_loopg [5, 23] k1 (fun kq v5 dR w' => ∃ (aQ : List (S68)) (aD : Int), dR = .int .i64 aD ∧ Aside0 (elastic_List.l1 kq a1 aQ l0_3 (l0_3.length : Int) aC ((rd_T56 l0_3 aC).f0) (((rd_T56 l0_3 aC).f0).length : Int) aD = some r) ∧ Aside0 (kq ≤ k1) ∧ Aside0 (Kd.R k68 68 w' w.heap.size (fun _ => True) v5 aQ) ∧ Aside0 (w'.heap[aE]? = some (.cells #[.int .u64 a0_0, .int .i64 a0_1, .int .i64 a0_2, (.slice (some dB) l0_3.length c0_3), .int .u64 a0_4, .int .i64 a0_5, (.slice A0_6 l0_6.length c0_6)] 28 (0, 0))) ∧ Aside0 (w'.heap[aY]? = some (.cells #[(.slice A274_0 ((rd_T56 l0_3 aC).f0).length c274_0), .int .i64 ((rd_T56 l0_3 aC).f1)] 56 (0, 0))) ∧ Aside0 (Below w.heap.size w w'))
       case atStart => exact ⟨(aN), (0), (by first | rfl | (simp; done) | (simp [*]; done)), H', ⟨Nat.le_refl _⟩, ⟨by (with_reducible repeat (first | apply Kd.R_alloc | apply Kd.R_drewN | apply Kd.R_drew)); exact Kd.R_mono (Kd.R_far (p := ⟨aY, 1, none⟩) (Kd.R_far (p := ⟨aY, 0, none⟩) (Kd.R_types aG.out aH.out (by decide)) (fun _ hk => hk.2) (.slice A274_0 ((rd_T56 l0_3 aC).f0).length c274_0)) (fun _ hk => hk.2) (.int .i64 ((rd_T56 l0_3 aC).f1))) (fun _ hk => trivial)⟩, ⟨fb_⟩, ⟨by (with_reducible repeat (first | refine blk_drewN ?_ _ | refine blk_drew ?_ | refine blk_alloc ?_ _)); refine blk_put (cs := #[.slice A274_0 ((rd_T56 l0_3 aC).f0).length c274_0, .int .i64 0]) ?_ 1 _ rfl; (with_reducible repeat (first | refine blk_drewN ?_ _ | refine blk_drew ?_ | refine blk_alloc ?_ _)); refine blk_put (cs := #[.slice none 0 0, .int .i64 0]) ?_ 0 _ rfl; (with_reducible repeat (first | refine blk_drewN ?_ _ | refine blk_drew ?_ | refine blk_alloc ?_ _)); exact aH.out⟩, ⟨bl_ HB⟩⟩
       case round =>
        clear H'; (try clear c1); (try clear c2); (try clear p2); (try clear q2); (try clear hx2); (try clear c4); (try clear c9); (try clear dA); (try clear bB); (try clear dK); (try clear bC); (try clear dL); (try clear fG); (try clear dN); (try clear dO); (try clear bY); (try clear bZ); (try clear cA); (try clear cB); (try clear cC); (try clear cD); (try clear cE); (try clear cM); (try clear cN); (try clear cO); (try clear cP); (try clear cQ); (try clear cR); (try clear cS); (try clear dP); (try clear dQ); (try clear cF); (try clear cG); (try clear cH); (try clear cI); (try clear cJ); (try clear cK); (try clear cL); (try clear cT); (try clear cU); (try clear cV); (try clear cW); (try clear cX); (try clear cY); (try clear cZ); (try clear bG); (try clear bH); (try clear p2); (try clear bE); (try clear bF); obtain ⟨aQ, aD, rfl, HA, HK2, aG, aA, aH, HB⟩ := hrel
        cases gk with
        | zero => exact absurd HA.out (by simp [elastic_List.l1])
        | succ k2 =>
         have H := HA.out; clear HA; simp only [elastic_List.l1] at H
         by_cases aZ : aD < (((rd_T56 l0_3 aC).f0).length : Int)
         ·rw [if_pos aZ] at H; have dS : decide (aD < (((rd_T56 l0_3 aC).f0).length : Int)) = true := decide_eq_true aZ; clear aZ
          by_cases bI : 0 ≤ aD
          ·rw [if_pos bI] at H; have fH : decide (0 ≤ aD) = true := decide_eq_true bI; clear bI
           by_cases bJ : aD < (((rd_T56 l0_3 aC).f0).length : Int)
           ·rw [if_pos bJ] at H; have fI : decide (aD < (((rd_T56 l0_3 aC).f0).length : Int)) = true := decide_eq_true bJ; clear bJ
            by_cases bA : ((rd_T76 ((rd_T56 l0_3 aC).f0) aD).f1) ≥ a1
            ·rw [if_pos bA] at H; have dT : decide (a1 ≤ ((rd_T76 ((rd_T56 l0_3 aC).f0) aD).f1)) = true := decide_eq_true bA; clear bA
             by_cases bK : aQ.length < 5864062014805
             ·rw [if_pos bK] at H; have dU := mk_ bK; clear bK; obtain ⟨y278, hy278⟩ : ∃ y_ : List (S68), y_ = (aQ ++ [(⟨(rd_T76 ((rd_T56 l0_3 aC).f0) aD).f0, (rd_T76 ((rd_T56 l0_3 aC).f0) aD).f1⟩ : S68)]) := ⟨_, rfl⟩
              replace H : (elastic_List.l1 k2 a1 y278 l0_3 (l0_3.length : Int) aC ((rd_T56 l0_3 aC).f0) (((rd_T56 l0_3 aC).f0).length : Int) (wrap64 (aD + 1))) = some r := by first | (rw [hy278]; with_reducible exact H) | (have H2_ := (Option.bind_some _ _).symm.trans H; rw [hy278]; with_reducible exact H2_) | (have H2_ := (Option.bind_some _ _).symm.trans H; with_reducible exact H2_) | with_reducible exact H | (rw [hy278]; exact H) | exact H
              have dV := mk_ hy278; clear hy278; have H' := mk_ H; clear H; have aR : 0 ≤ (aD : Int) := of_decide_eq_true (by first | (with_reducible assumption) | assumption); have aT : aD < (((rd_T56 l0_3 aC).f0).length : Int) := of_decide_eq_true (by first | (with_reducible assumption) | assumption); obtain ⟨dF, e276, aU, aV, aW⟩ := at_T76 dD.out aD aR aT
              cases e276; (try replace aU := bt_ HB aU); (try replace aV := bt_ HB aV); (try replace aW := bt_ HB aW); replace aR := eq_true aR; replace aT := eq_true aT
              go_wp2_with (first | ((with_reducible refine gate_dst (N := 9) rfl ?_); refine box_event ?hg (N := 9) ?hd (cs := #[.string (⟨#[]⟩ : ByteArray), .int .i64 0, .bool false]) (t := 76) ?hr ?_; (case hd => rfl); (case hg => rfl); (case hr => first | (go_simp; done) | (go_simp; rfl)); intro aJ hg bN hbox hb; have n0_ := mk_ (Kd.R_below (by (with_reducible repeat (first | apply Kd.R_alloc | apply Kd.R_drewN | apply Kd.R_drew)); exact aG.out) hb); have n1_ := bb_ aA hb; have n2_ := bb_ aH hb; have n3_ := bs_ HB hb; have n4_ := mk_ (hbox); have n5_ := gx_ hg HB; have n6_ := gx_ hg HB; have n7_ := nx_ hg aA; have n8_ := ny_ hg aA; have n9_ := nx_ hg aH; have n10_ := ny_ hg aH; clear aG; clear aA; clear aH; clear HB; have aG := n0_; have aA := n1_; have aH := n2_; have HB := n3_; have aI := n4_; have dW := n5_; have dX := n6_; have aK := n7_; have bO := n8_; have aM := n9_; have bP := n10_; clear n0_ n1_ n2_ n3_ n4_ n5_ n6_ n7_ n8_ n9_ n10_; clear hb hbox hg; have fJ := bO.out; have fK := aK.out; have fL := bP.out; have fM := aM.out; obtain ⟨fN, fO, fP⟩ := cz3_ aI; obtain ⟨fQ, fR, fS⟩ := fz3_ aI) | ((with_reducible refine gate_builtin (b := .append) (xs := #[.tmp 31, .tmp 37]) rfl ?_); at_builtin; refine Kd.R_append k68 (w0 := w) w.heap.size rfl (.tmp 31) (.tmp 37) 41 68 (.agg #[(.string ⟨#[]⟩), (.int .i64 0)]) 24 rfl Try.underlying41 info68 rfl (by decide) (by omega) u5 aQ (⟨(rd_T76 ((rd_T56 l0_3 aC).f0) aD).f0, (rd_T76 ((rd_T56 l0_3 aC).f0) aD).f1⟩ : S68) [.string ((rd_T76 ((rd_T56 l0_3 aC).f0) aD).f0), .int .i64 ((rd_T76 ((rd_T56 l0_3 aC).f0) aD).f1)] (fun _ => True) (fun _ => False) rfl (by first | (go_simp; done) | (go_simp; rfl)) ?aP (fun _ hk => hk.elim) ?aF ?aO ?aB ?aS ?aL ?_; (case aP => exact k68_mkM _ _ _ (⟨(rd_T76 ((rd_T56 l0_3 aC).f0) aD).f0, (rd_T76 ((rd_T56 l0_3 aC).f0) aD).f1⟩ : S68)); (case aB => exact (bl_ HB)); (case aF => exact (fun _ _ => trivial)); (case aO => exact (by (with_reducible repeat (first | apply Kd.R_alloc | apply Kd.R_drewN | apply Kd.R_drew)); exact Kd.R_mono (Kd.R_far (p := ⟨aJ, 2, none⟩) (Kd.R_far (p := ⟨aJ, 1, none⟩) (Kd.R_far (p := ⟨aJ, 0, none⟩) (Kd.R_types aG.out aI.out (by decide)) (fun _ hk => hk.2) (.string ((rd_T76 ((rd_T56 l0_3 aC).f0) aD).f0))) (fun _ hk => hk.2) (.int .i64 ((rd_T76 ((rd_T56 l0_3 aC).f0) aD).f1))) (fun _ hk => hk.2) (.bool ((rd_T76 ((rd_T56 l0_3 aC).f0) aD).f2))) (fun _ hk => trivial))); (case aS => exact (below_size (bl_ HB))); (case aL => have := dU.out; omega); intro fT fU ho hb hg hat; rw [← dV.out] at ho; have n0_ := mk_ (blk_grown (g := aE) (o := .cells #[.int .u64 a0_0, .int .i64 a0_1, .int .i64 a0_2, .slice (some dB) l0_3.length c0_3, .int .u64 a0_4, .int .i64 a0_5, .slice A0_6 l0_6.length c0_6] 28 (0, 0)) fb_ hg (Kd.R_ne aG.out aA.out (by decide))); have n1_ := mk_ (blk_grown (g := aY) (o := .cells #[.slice (some dF) ((rd_T56 l0_3 aC).f0).length c274_0, .int .i64 ((rd_T56 l0_3 aC).f1)] 56 (0, 0)) fb_ hg (Kd.R_ne aG.out aH.out (by decide))); have n2_ := mk_ (blk_grown (g := aJ) (o := .cells #[.string ((rd_T76 ((rd_T56 l0_3 aC).f0) aD).f0), .int .i64 ((rd_T76 ((rd_T56 l0_3 aC).f0) aD).f1), .bool ((rd_T76 ((rd_T56 l0_3 aC).f0) aD).f2)] 76 (0, 0)) (by (with_reducible repeat (first | refine blk_drewN ?_ _ | refine blk_drew ?_ | refine blk_alloc ?_ _)); refine blk_put (cs := #[.string ((rd_T76 ((rd_T56 l0_3 aC).f0) aD).f0), .int .i64 ((rd_T76 ((rd_T56 l0_3 aC).f0) aD).f1), .bool false]) ?_ 2 _ rfl; (with_reducible repeat (first | refine blk_drewN ?_ _ | refine blk_drew ?_ | refine blk_alloc ?_ _)); refine blk_put (cs := #[.string ((rd_T76 ((rd_T56 l0_3 aC).f0) aD).f0), .int .i64 0, .bool false]) ?_ 1 _ rfl; (with_reducible repeat (first | refine blk_drewN ?_ _ | refine blk_drew ?_ | refine blk_alloc ?_ _)); refine blk_put (cs := #[.string (⟨#[]⟩ : ByteArray), .int .i64 0, .bool false]) ?_ 0 _ rfl; (with_reducible repeat (first | refine blk_drewN ?_ _ | refine blk_drew ?_ | refine blk_alloc ?_ _)); exact aI.out) hg (Kd.R_ne aG.out aI.out (by decide))); have n3_ := mk_ (hb); have n4_ := mk_ (ho); clear aA; clear aH; clear aI; clear HB; clear aG; have aA := n0_; have aH := n1_; have aI := n2_; have HB := n3_; have dY := n4_; clear n0_ n1_ n2_ n3_ n4_; clear ho hb hg hat))
              go_roundg k2
              case measure => have := HK1.out; have := HK2.out; omega
              case rel => exact ⟨(y278), (wrap64 (aD + 1)), (by first | rfl | (simp; done) | (simp [*]; done)), H', ⟨by have := HK1.out; have := HK2.out; omega⟩, ⟨by (with_reducible repeat (first | apply Kd.R_alloc | apply Kd.R_drewN | apply Kd.R_drew)); exact dY.out⟩, ⟨bk_ aA⟩, ⟨bk_ aH⟩, ⟨bl_ HB⟩⟩
             ·rw [if_neg bK] at H; exact absurd H (by simp)
            ·rw [if_neg bA] at H; have dT : decide (a1 ≤ ((rd_T76 ((rd_T56 l0_3 aC).f0) aD).f1)) = false := decide_eq_false bA; clear bA; have H' := mk_ H; clear H; have aR : 0 ≤ (aD : Int) := of_decide_eq_true (by first | (with_reducible assumption) | assumption); have aT : aD < (((rd_T56 l0_3 aC).f0).length : Int) := of_decide_eq_true (by first | (with_reducible assumption) | assumption); obtain ⟨dF, e276, aU, aV, aW⟩ := at_T76 dD.out aD aR aT
             cases e276; (try replace aU := bt_ HB aU); (try replace aV := bt_ HB aV); (try replace aW := bt_ HB aW); replace aR := eq_true aR; replace aT := eq_true aT
             go_wp2_with (first | ((with_reducible refine gate_dst (N := 9) rfl ?_); refine box_event ?hg (N := 9) ?hd (cs := #[.string (⟨#[]⟩ : ByteArray), .int .i64 0, .bool false]) (t := 76) ?hr ?_; (case hd => rfl); (case hg => rfl); (case hr => first | (go_simp; done) | (go_simp; rfl)); intro aJ hg bQ hbox hb; have n0_ := mk_ (Kd.R_below (by (with_reducible repeat (first | apply Kd.R_alloc | apply Kd.R_drewN | apply Kd.R_drew)); exact aG.out) hb); have n1_ := bb_ aA hb; have n2_ := bb_ aH hb; have n3_ := bs_ HB hb; have n4_ := mk_ (hbox); have n5_ := gx_ hg HB; have n6_ := gx_ hg HB; have n7_ := nx_ hg aA; have n8_ := ny_ hg aA; have n9_ := nx_ hg aH; have n10_ := ny_ hg aH; clear aG; clear aA; clear aH; clear HB; have aG := n0_; have aA := n1_; have aH := n2_; have HB := n3_; have aI := n4_; have dW := n5_; have dX := n6_; have aK := n7_; have bO := n8_; have aM := n9_; have bP := n10_; clear n0_ n1_ n2_ n3_ n4_ n5_ n6_ n7_ n8_ n9_ n10_; clear hb hbox hg; have fV := bO.out; have fW := aK.out; have fX := bP.out; have fY := aM.out; obtain ⟨fZ, gA, gB⟩ := cz3_ aI; obtain ⟨gC, gD, gE⟩ := fz3_ aI))
             go_roundg k2
             case measure => have := HK1.out; have := HK2.out; omega
             case rel => exact ⟨(aQ), (wrap64 (aD + 1)), (by first | rfl | (simp; done) | (simp [*]; done)), H', ⟨by have := HK1.out; have := HK2.out; omega⟩, ⟨by (with_reducible repeat (first | apply Kd.R_alloc | apply Kd.R_drewN | apply Kd.R_drew)); exact Kd.R_mono (Kd.R_far (p := ⟨aJ, 2, none⟩) (Kd.R_far (p := ⟨aJ, 1, none⟩) (Kd.R_far (p := ⟨aJ, 0, none⟩) (Kd.R_types aG.out aI.out (by decide)) (fun _ hk => hk.2) (.string ((rd_T76 ((rd_T56 l0_3 aC).f0) aD).f0))) (fun _ hk => hk.2) (.int .i64 ((rd_T76 ((rd_T56 l0_3 aC).f0) aD).f1))) (fun _ hk => hk.2) (.bool ((rd_T76 ((rd_T56 l0_3 aC).f0) aD).f2))) (fun _ hk => trivial)⟩, ⟨fb_⟩, ⟨fb_⟩, ⟨bl_ HB⟩⟩
           ·rw [if_neg bJ] at H; exact absurd H (by simp)
          ·rw [if_neg bI] at H; exact absurd H (by simp)
         ·rw [if_neg aZ] at H; have dS : decide (aD < (((rd_T56 l0_3 aC).f0).length : Int)) = false := decide_eq_false aZ; clear aZ; have H' := mk_ H; clear H
          go_wp2
          go_roundg k2
          case measure => have := HK1.out; have := HK2.out; omega
          case rel => exact ⟨(aQ), (wrap64 (aC + 1)), (by first | rfl | (simp; done) | (simp [*]; done)), H', ⟨by have := HK1.out; have := HK2.out; omega⟩, ⟨by (with_reducible repeat (first | apply Kd.R_alloc | apply Kd.R_drewN | apply Kd.R_drew)); exact aG.out⟩, ⟨bk_ aA⟩, ⟨bl_ HB⟩⟩
      ·rw [if_neg bC] at H; exact absurd H (by simp)
     ·rw [if_neg bB] at H; exact absurd H (by simp)
    ·rw [if_neg c9] at H; have dA : decide (aC < (l0_3.length : Int)) = false := decide_eq_false c9; clear c9; replace H := Option.bind_eq_some_iff.mp H; obtain ⟨dG, dH, H⟩ := H; replace H : (some dG) = some r := H; have dZ := mk_ dH; clear dH; obtain rfl := Option.some.inj H; obtain ⟨bR, bS, eo30⟩ := Kd.R_slice aG.out; subst eo30
     go_wp2_with (first | ((with_reducible refine gate_callee (f := 34) rfl ?_); refine goesL_ (some 42) rfl rfl Try.func34 (by kernel_rfl) rfl #[.slice bR aN.length bS, .func (.func 35) #[] #[]] rfl (by (try simp only [List.map_toArray, List.map_cons, List.map_nil]); first | done | rfl | (simp only [List.length_drop, List.length_take]; rfl)) ?_; (with_reducible refine (heavy_Item.calls (fun k_ => some k_ = (.slice bR aN.length bS : Value).ownBlock) (.slice bR aN.length bS) aN dG w _ ?side1 ?side2 dZ.out).mono ?_); (case side1 => repeat (first | (with_reducible first | exact HB.out | apply below_alloc | apply pw_below_drewN | apply below_drew1 | refine below_set ?_ bX.out) | exact HB.out)); (case side2 => exact Kd.R_tight rfl aG.out); rintro e gF ⟨rfl, hy0, hb, hkp⟩; refine ⟨_, rfl, ?_⟩; have n0_ := mk_ (Kd.R_reok rfl hy0 (fun k_ e_ => aG.out.1 k_ e_)); have n1_ := mk_ (blk_kept (bk_ aA) hkp (fun fA => (fun e_ => (Kd.R_ne aG.out aA.out (by decide)) e_) fA)); have n2_ := mk_ (hb); clear aG; clear aA; clear HB; have aG := n0_; have aA := n1_; have HB := n2_; clear n0_ n1_ n2_; (try clear hb); (try clear hkp); (try clear hy0)))
     go_ret; exact ⟨_, by first | rfl | (simp [errW_none, errW_some] <;> rfl) | (simp [*, errW_none, errW_some] <;> rfl), by (with_reducible repeat (first | apply Kd.R_alloc | apply Kd.R_drewN | apply Kd.R_drew)); exact aG.out, bl_ HB⟩
 ·replace c4 := Bool.eq_false_iff.mpr c4; subst c4
  have H1 : (some ([] : List (S68))) = some r := by rw [if_neg (show ¬ (false = true) by decide)] at H; exact H
  clear H; have H := H1; clear H1; obtain rfl := Option.some.inj H
  go_enter Try.func13, Try.ntmps13
  go_wp2_with (first | ((with_reducible refine gate_dst (N := 2) rfl ?_); refine box_event ?hg (N := 2) ?hd (cs := #[.int .u64 a0_0, .int .i64 a0_1, .int .i64 a0_2, .slice A0_3 l0_3.length c0_3, .int .u64 a0_4, .int .i64 a0_5, .slice A0_6 l0_6.length c0_6]) (t := 28) ?hr ?_; (case hd => rfl); (case hg => rfl); (case hr => first | (go_simp; done) | (go_simp; rfl)); intro aE hg aX hbox hb; have n0_ := bs_ HB hb; have n1_ := mk_ (hbox); have n2_ := gx_ hg HB; have n3_ := gx_ hg HB; clear HB; have HB := n0_; have aA := n1_; have dI := n2_; have bX := n3_; clear n0_ n1_ n2_ n3_; clear hb hbox hg; obtain ⟨gG, gH, gI, gJ, gK, gL, gM⟩ := cz7_ aA; obtain ⟨gN, gO, gP, gQ, gR, gS, gT⟩ := fz7_ aA) | ((with_reducible refine gate_callee (f := 15) rfl ?_); refine goesL_ (some 11) rfl rfl Try.func15 (by kernel_rfl) rfl #[.agg #[.int .u64 a0_0, .int .i64 a0_1, .int .i64 a0_2, .slice A0_3 l0_3.length c0_3, .int .u64 a0_4, .int .i64 a0_5, .slice A0_6 l0_6.length c0_6]] rfl (by (try simp only [List.map_toArray, List.map_cons, List.map_nil]); first | done | rfl | (simp only [List.length_drop, List.length_take]; rfl)) ?_; (with_reducible refine (elastic_Right.calls k a0_0 a0_1 a0_2 _ _ l0_3 a0_4 a0_5 _ _ l0_6 false _ ?side1 ?side2 ?side3 ?side4 A3.out).mono ?_); (case side1 => repeat (first | exact (Kd.C_below bL.out HB.out) | (with_reducible refine Kd.C_alloc ?_ _) | (with_reducible refine Kd.C_drewN ?_ _) | (with_reducible refine Kd.C_drew ?_))); (case side2 => exact bT.out); (case side3 => repeat (first | exact (Kd.C_below bU.out HB.out) | (with_reducible refine Kd.C_alloc ?_ _) | (with_reducible refine Kd.C_drewN ?_ _) | (with_reducible refine Kd.C_drew ?_))); (case side4 => exact bV.out); rintro e gU ⟨rfl, hb⟩; refine ⟨_, rfl, ?_⟩; have n0_ := bb_ aA hb; have n1_ := bs_ HB hb; clear aA; clear HB; have aA := n0_; have HB := n1_; clear n0_ n1_; (try clear hb); (try clear hb2); (try clear hk); (try clear hi)))
  go_ret; exact ⟨_, by first | rfl | (simp [errW_none, errW_some] <;> rfl) | (simp [*, errW_none, errW_some] <;> rfl), by first | exact Kd.R_nil _ _ _ _ _ | exact Kd.N_nil _ _ _ _ _ | exact Kd.V_nil _ _ _ _ _ | exact Kd.Q_nil _ _ _ _ _ | exact Kd.S_nil _ _ _ _ _, bl_ HB⟩

/-! ### least_New: function 52 -/
mutual
def least_New.j0 : Nat → Int → Int → Int → Int → Bool → Option (Int × Int × (List (List Int)) × Int)
  | 0, _, _, _, _, _ => none
  | k + 1, x0, x1, x2, x3, x32 => if x32 = true then (some (0, 0, ([] : List (List Int)), 1)) else (least_New.l0 k x2 x1 0 x0 x3 ([] : List (List Int)))
def least_New.l0 : Nat → Int → Int → Int → Int → Int → List (List Int) → Option (Int × Int × (List (List Int)) × Int)
  | 0, _, _, _, _, _, _ => none
  | k + 1, x2, x37, x38, x283000, x283001, x283002 => if x38 < x37 then (if 0 ≤ x2 then (if (x2 : Int).toNat ≤ 35184372088832 then (if x283002.length < 5864062014805 then (least_New.l0 k x2 x37 (wrap64 (x38 + 1)) x283000 x283001 (x283002 ++ [(List.replicate (x2 : Int).toNat 0)])) else (none)) else (none)) else (none)) else (some (x283000, x283001, x283002, 0))
end
def least_New.f (k : Nat) (a0 : Int) (a1 : Int) (a2 : Int) (a3 : Int) : Option (Int × Int × (List (List Int)) × Int) := if a1 < 1 then (least_New.j0 k a0 a1 a2 a3 true) else (if a1 > 7 then (least_New.j0 k a0 a1 a2 a3 true) else (if a2 < 1 then (least_New.j0 k a0 a1 a2 a3 true) else (if a2 > 256 then (least_New.j0 k a0 a1 a2 a3 true) else (if a3 < 1 then (least_New.j0 k a0 a1 a2 a3 true) else (least_New.j0 k a0 a1 a2 a3 (decide (a3 > 1099511627776)))))))
theorem least_New.mono_l : ∀ k, (∀ y0 y1 y2 y3 y4, LeO (least_New.j0 k y0 y1 y2 y3 y4) (least_New.j0 (k + 1) y0 y1 y2 y3 y4)) ∧ (∀ y0 y1 y2 y3 y4 y5, LeO (least_New.l0 k y0 y1 y2 y3 y4 y5) (least_New.l0 (k + 1) y0 y1 y2 y3 y4 y5))
  | 0 => ⟨fun _ _ _ _ _ r h => by simp [least_New.j0] at h, fun _ _ _ _ _ _ r h => by simp [least_New.l0] at h⟩
  | k + 1 => by
    obtain ⟨ih0, ih1⟩ := least_New.mono_l k
    refine ⟨?_, ?_⟩
    · intro y0 y1 y2 y3 y4
      unfold least_New.j0
      repeat' first
      | (with_reducible exact ih0 _ _ _ _ _)
      | (with_reducible exact ih1 _ _ _ _ _ _)
      | (with_reducible exact LeO.refl _)
      | (with_reducible exact LeO.none _)
      | (with_reducible refine LeO.ite ?_ ?_)
      | (with_reducible refine LeO.bind ?_ (fun _ => ?_))
      | exact ih0 _ _ _ _ _
      | exact ih1 _ _ _ _ _ _
      | exact LeO.none _
      | refine LeO.ite ?_ ?_
      | refine LeO.bind ?_ (fun _ => ?_)
    · intro y0 y1 y2 y3 y4 y5
      unfold least_New.l0
      repeat' first
      | (with_reducible exact ih0 _ _ _ _ _)
      | (with_reducible exact ih1 _ _ _ _ _ _)
      | (with_reducible exact LeO.refl _)
      | (with_reducible exact LeO.none _)
      | (with_reducible refine LeO.ite ?_ ?_)
      | (with_reducible refine LeO.bind ?_ (fun _ => ?_))
      | exact ih0 _ _ _ _ _
      | exact ih1 _ _ _ _ _ _
      | exact LeO.none _
      | refine LeO.ite ?_ ?_
      | refine LeO.bind ?_ (fun _ => ?_)
theorem least_New.mono : ∀ a0 a1 a2 a3 k, LeO (least_New.f k a0 a1 a2 a3) (least_New.f (k + 1) a0 a1 a2 a3) := by
  intro a0 a1 a2 a3 k
  obtain ⟨ih0, ih1⟩ := least_New.mono_l k
  unfold least_New.f
  repeat' first
      | (with_reducible exact ih0 _ _ _ _ _)
      | (with_reducible exact ih1 _ _ _ _ _ _)
      | (with_reducible exact LeO.refl _)
      | (with_reducible exact LeO.none _)
      | (with_reducible refine LeO.ite ?_ ?_)
      | (with_reducible refine LeO.bind ?_ (fun _ => ?_))
      | exact ih0 _ _ _ _ _
      | exact ih1 _ _ _ _ _ _
      | exact LeO.none _
      | refine LeO.ite ?_ ?_
      | refine LeO.bind ?_ (fun _ => ?_)
def least_New.T6 : Bool × List (List Nat × List Nat) := (true, [([], []), ([0], [0]), ([], []), ([2, 2], [2]), ([3], [3]), ([1, 4], [1, 4]), ([0, 1, 2, 3, 4, 5], []), ([6, 5, 5, 0, 1, 2, 3, 4, 5], [5, 6])])
def least_New.B6 : List Nat := [0, 1, 0, 4, 12, 31, 63, 127]
theorem least_New.tab6 : rtab .any (opsOf Try.f52 6) = least_New.T6 := by kernel_rfl
theorem least_New.bits6 : waitsOk least_New.T6.2 least_New.B6 = true := by kernel_rfl
set_option maxHeartbeats 80000000 in
set_option maxRecDepth 100000 in
theorem least_New.calls (k : Nat) (a0 : Int) (a1 : Int) (a2 : Int) (a3 : Int) (r1 : Int) (r2 : Int) (r3 : List (List Int)) (r4 : Int) (w : World) (h : least_New.f k a0 a1 a2 a3 = some (r1, r2, r3, r4)) :
    Calls Try.prog 52 #[.int .u64 a0, .int .i64 a1, .int .i64 a2, .int .i64 a3] w fun e w' => ∃ v2_ : Value, e = .returned (.tuple #[.agg #[.int .u64 r1, .int .i64 r2, v2_], .int .i64 r4]) ∧ Kd.S (Kd.slice 3 (Kd.int .i64)) 57 w' w.heap.size (fun _ => True) v2_ r3 ∧ Below w.heap.size w w' := by
 have hu26 := Try.underlying26; have HB := mk_ (Below.refl w.heap.size w); have H : (if a1 < 1 then (least_New.j0 k a0 a1 a2 a3 true) else (if a1 > 7 then (least_New.j0 k a0 a1 a2 a3 true) else (if a2 < 1 then (least_New.j0 k a0 a1 a2 a3 true) else (if a2 > 256 then (least_New.j0 k a0 a1 a2 a3 true) else (if a3 < 1 then (least_New.j0 k a0 a1 a2 a3 true) else (least_New.j0 k a0 a1 a2 a3 (decide (a3 > 1099511627776)))))))) = some (r1, r2, r3, r4) := h; clear h; have HC5 := mk_ H; clear H
 go_enter Try.func52, Try.ntmps52
 go_upto_region 1 with (first | ((with_reducible refine gate_dst (N := 8) rfl ?_); refine box_event ?hg (N := 8) ?hd (cs := #[.int .u64 0, .int .i64 0, .slice none 0 0]) (t := 26) ?hr ?_; (case hd => rfl); (case hg => rfl); (case hr => first | (go_simp; done) | (go_simp; rfl)); intro aD hg w6 hbox hb; have n0_ := bs_ HB hb; have n1_ := mk_ (hbox); have n2_ := gx_ hg HB; have n3_ := gx_ hg HB; clear HB; have HB := n0_; have aA := n1_; have cG := n2_; have cH := n3_; clear n0_ n1_ n2_ n3_; clear hb hbox hg))
 (try simp only [Act.put, sa_, sb_, sc_])
 go_cut [32] (fun bN wc => ∃ (kq : Nat) (aV : Bool), bN = .bool aV ∧ Aside0 (least_New.j0 kq a0 a1 a2 a3 aV = some (r1, r2, r3, r4)) ∧ Aside0 (kq ≤ k) ∧ Aside0 (wc.heap[aD]? = some (.cells #[.int .u64 0, .int .i64 0, (.slice none 0 0)] 26 (0, 0))) ∧ Aside0 (Below w.heap.size w wc))
 case first =>
  have H := HC5.out; clear HC5
  by_cases c7 : a1 < 1
  ·rw [if_pos c7] at H; have aM : decide (a1 < 1) = true := decide_eq_true c7; clear c7
   (first | rw [aM] | (simp only [i64_w, i32_w]; rw [aM]) | skip)
   have H' := mk_ H; clear H
   go_wp2
   go_meet
   case rel => exact ⟨_, (true), (by first | rfl | (simp; done) | (simp [*]; done)), H', ⟨by first | omega | exact Nat.le_refl _⟩, ⟨bk_ aA⟩, ⟨bl_ HB⟩⟩
  ·rw [if_neg c7] at H; have aM : decide (a1 < 1) = false := decide_eq_false c7; clear c7
   (first | rw [aM] | (simp only [i64_w, i32_w]; rw [aM]) | skip)
   by_cases c8 : a1 > 7
   ·rw [if_pos c8] at H; have aY : decide (7 < a1) = true := decide_eq_true c8; clear c8; have H' := mk_ H; clear H
    go_wp2
    go_meet
    case rel => exact ⟨_, (true), (by first | rfl | (simp; done) | (simp [*]; done)), H', ⟨by first | omega | exact Nat.le_refl _⟩, ⟨bk_ aA⟩, ⟨bl_ HB⟩⟩
   ·rw [if_neg c8] at H; have aY : decide (7 < a1) = false := decide_eq_false c8; clear c8
    by_cases c9 : a2 < 1
    ·rw [if_pos c9] at H; have aZ : decide (a2 < 1) = true := decide_eq_true c9; clear c9; have H' := mk_ H; clear H
     go_wp2
     go_meet
     case rel => exact ⟨_, (true), (by first | rfl | (simp; done) | (simp [*]; done)), H', ⟨by first | omega | exact Nat.le_refl _⟩, ⟨bk_ aA⟩, ⟨bl_ HB⟩⟩
    ·rw [if_neg c9] at H; have aZ : decide (a2 < 1) = false := decide_eq_false c9; clear c9
     by_cases aJ : a2 > 256
     ·rw [if_pos aJ] at H; have bA : decide (256 < a2) = true := decide_eq_true aJ; clear aJ; have H' := mk_ H; clear H
      go_wp2
      go_meet
      case rel => exact ⟨_, (true), (by first | rfl | (simp; done) | (simp [*]; done)), H', ⟨by first | omega | exact Nat.le_refl _⟩, ⟨bk_ aA⟩, ⟨bl_ HB⟩⟩
     ·rw [if_neg aJ] at H; have bA : decide (256 < a2) = false := decide_eq_false aJ; clear aJ
      by_cases aK : a3 < 1
      ·rw [if_pos aK] at H; have bB : decide (a3 < 1) = true := decide_eq_true aK; clear aK; have H' := mk_ H; clear H
       go_wp2
       go_meet
       case rel => exact ⟨_, (true), (by first | rfl | (simp; done) | (simp [*]; done)), H', ⟨by first | omega | exact Nat.le_refl _⟩, ⟨bk_ aA⟩, ⟨bl_ HB⟩⟩
      ·rw [if_neg aK] at H; have bB : decide (a3 < 1) = false := decide_eq_false aK; clear aK; have H' := mk_ H; clear H
       go_wp2
       go_meet
       case rel => exact ⟨_, (decide (a3 > 1099511627776)), (by first | rfl | (simp; done) | (simp [*]; done)), H', ⟨by first | omega | exact Nat.le_refl _⟩, ⟨bk_ aA⟩, ⟨bl_ HB⟩⟩
 case rest =>
  clear HC5; (try clear c1); (try clear p2); (try clear c5); (try clear c7); (try clear aM); (try clear c8); (try clear aY); (try clear c9); (try clear aZ); (try clear aJ); (try clear bA); (try clear aK); (try clear bB); obtain ⟨kq, aV, rfl, HA, HJ4, aA, HB⟩ := hcut
  cases kq with
  | zero => exact absurd HA.out (by simp [least_New.j0])
  | succ bC =>
   have H := HA.out; clear HA; simp only [least_New.j0] at H
   by_cases aR : aV = true
   ·subst aR
    have H1 : (some (0, 0, ([] : List (List Int)), 1)) = some (r1, r2, r3, r4) := by rw [if_pos rfl] at H; exact H
    clear H; have H := H1; clear H1; simp only [Option.some.injEq, Prod.mk.injEq] at H; obtain ⟨rfl, rfl, rfl, rfl⟩ := H; obtain ⟨bO, bP, bQ⟩ := cz3_ aA; obtain ⟨bR, bS, bT⟩ := fz3_ aA
    go_wp2
    refine bodyPost_ret (results_ct rfl _ _ aD 26 #[.int .u64 0, .int .i64 0, .slice none 0 0] (0, 0) _ rfl (by (with_reducible repeat (first | refine blk_drewN ?_ _ | refine blk_drew ?_ | refine blk_alloc ?_ _)); refine blk_put (cs := #[.int .u64 0, .int .i64 0, .slice none 0 0]) ?_ 2 _ rfl; (with_reducible repeat (first | refine blk_drewN ?_ _ | refine blk_drew ?_ | refine blk_alloc ?_ _)); refine blk_put (cs := #[.int .u64 0, .int .i64 0, .slice none 0 0]) ?_ 1 _ rfl; (with_reducible repeat (first | refine blk_drewN ?_ _ | refine blk_drew ?_ | refine blk_alloc ?_ _)); refine blk_put (cs := #[.int .u64 0, .int .i64 0, .slice none 0 0]) ?_ 0 _ rfl; (with_reducible repeat (first | refine blk_drewN ?_ _ | refine blk_drew ?_ | refine blk_alloc ?_ _)); exact aA.out) Try.underlying26 rfl (by kernel_rfl)) rfl ?_; exact ⟨_, by first | rfl | (simp [errW_none, errW_some] <;> rfl) | (simp [*, errW_none, errW_some] <;> rfl), by first | (with_reducible first | exact Kd.N_nil _ _ _ _ _ | exact Kd.V_nil _ _ _ _ _ | exact Kd.S_nil _ _ _ _ _) | exact Kd.Q_nil _ _ _ _ _ | exact Kd.R_nil _ _ _ _ _, bl_ HB⟩
   ·replace aR := Bool.eq_false_iff.mpr aR; subst aR
    have H1 : (least_New.l0 bC a2 a1 0 a0 a3 ([] : List (List Int))) = some (r1, r2, r3, r4) := by rw [if_neg (show ¬ (false = true) by decide)] at H; exact H
    clear H; have H := H1; clear H1; have H' := mk_ H; clear H
    go_wp2_with (first | ((with_reducible refine gate_dst (N := 10) rfl ?_); refine box_event ?hg (N := 10) ?hd (cs := #[.int .u64 0, .int .i64 0, .slice none 0 0]) (t := 26) ?hr ?_; (case hd => rfl); (case hg => rfl); (case hr => first | (go_simp; done) | (go_simp; rfl)); intro aG hg bD hbox hb; have n0_ := bb_ aA hb; have n1_ := bs_ HB hb; have n2_ := mk_ (hbox); have n3_ := gx_ hg HB; have n4_ := gx_ hg HB; have n5_ := nx_ hg aA; have n6_ := ny_ hg aA; clear aA; clear HB; have aA := n0_; have HB := n1_; have aC := n2_; have cI := n3_; have cJ := n4_; have aN := n5_; have bE := n6_; clear n0_ n1_ n2_ n3_ n4_ n5_ n6_; clear hb hbox hg; have cK := bE.out; have cL := aN.out; obtain ⟨bU, bV, bW⟩ := cz3_ aC; obtain ⟨bX, bY, bZ⟩ := fz3_ aC))
    go_loopg [38] bC (fun kq cA w' => ∃ (aI : Int) (aH : List (List Int)) (u283002 : Value), cA = .int .i64 aI ∧ Aside0 (least_New.l0 kq a2 a1 aI a0 a3 aH = some (r1, r2, r3, r4)) ∧ Aside0 (kq ≤ bC) ∧ Aside0 (Kd.S (Kd.slice 3 (Kd.int .i64)) 57 w' w.heap.size (fun _ => True) u283002 aH) ∧ Aside0 (w'.heap[aD]? = some (.cells #[.int .u64 0, .int .i64 0, (.slice none 0 0)] 26 (0, 0))) ∧ Aside0 (w'.heap[aG]? = some (.cells #[.int .u64 a0, .int .i64 a3, u283002] 26 (0, 0))) ∧ Aside0 (Below w.heap.size w w'))
    case atStart => exact ⟨(0), (([] : List (List Int))), (.slice none 0 0), (by first | rfl | (simp; done) | (simp [*]; done)), H', ⟨Nat.le_refl _⟩, ⟨by first | (with_reducible first | exact Kd.N_nil _ _ _ _ _ | exact Kd.V_nil _ _ _ _ _ | exact Kd.S_nil _ _ _ _ _) | exact Kd.Q_nil _ _ _ _ _ | exact Kd.R_nil _ _ _ _ _⟩, ⟨fb_⟩, ⟨by (with_reducible repeat (first | refine blk_drewN ?_ _ | refine blk_drew ?_ | refine blk_alloc ?_ _)); refine blk_put (cs := #[.int .u64 a0, .int .i64 a3, .slice none 0 0]) ?_ 2 _ rfl; (with_reducible repeat (first | refine blk_drewN ?_ _ | refine blk_drew ?_ | refine blk_alloc ?_ _)); refine blk_put (cs := #[.int .u64 a0, .int .i64 0, .slice none 0 0]) ?_ 1 _ rfl; (with_reducible repeat (first | refine blk_drewN ?_ _ | refine blk_drew ?_ | refine blk_alloc ?_ _)); refine blk_put (cs := #[.int .u64 0, .int .i64 0, .slice none 0 0]) ?_ 0 _ rfl; (with_reducible repeat (first | refine blk_drewN ?_ _ | refine blk_drew ?_ | refine blk_alloc ?_ _)); exact aC.out⟩, ⟨bl_ HB⟩⟩
    case round =>
     clear H'; (try clear c1); (try clear p2); (try clear c5); (try clear c7); (try clear aM); (try clear c8); (try clear aY); (try clear c9); (try clear aZ); (try clear aJ); (try clear bA); (try clear aK); (try clear bB); (try clear aR); (try clear cM); (try clear bO); (try clear bP); (try clear bQ); (try clear bU); (try clear bV); (try clear bW); (try clear bR); (try clear bS); (try clear bT); (try clear bX); (try clear bY); (try clear bZ); (try clear p2); obtain ⟨aI, aH, u283002, rfl, HA, HK2, aE, aA, aC, HB⟩ := hrel
     cases gk with
     | zero => exact absurd HA.out (by simp [least_New.l0])
     | succ k2 =>
      have H := HA.out; clear HA; simp only [least_New.l0] at H
      by_cases aQ : aI < a1
      ·rw [if_pos aQ] at H; have cB : decide (aI < a1) = true := decide_eq_true aQ; clear aQ
       by_cases aT : 0 ≤ a2
       ·rw [if_pos aT] at H; have cN := eq_true aT; have cO : decide (0 ≤ a2) = true := decide_eq_true aT; clear aT
        by_cases aU : (a2 : Int).toNat ≤ 35184372088832
        ·rw [if_pos aU] at H; have cP := eq_true aU; have cQ : decide ((a2 : Int).toNat ≤ 35184372088832) = true := decide_eq_true aU; clear aU; obtain ⟨y283, hy283⟩ : ∃ y_ : List Int, y_ = (List.replicate (a2 : Int).toNat 0) := ⟨_, rfl⟩
         replace H : (if aH.length < 5864062014805 then (least_New.l0 k2 a2 a1 (wrap64 (aI + 1)) a0 a3 (aH ++ [y283])) else (none)) = some (r1, r2, r3, r4) := by first | (rw [hy283]; with_reducible exact H) | (have H2_ := (Option.bind_some _ _).symm.trans H; rw [hy283]; with_reducible exact H2_) | (have H2_ := (Option.bind_some _ _).symm.trans H; with_reducible exact H2_) | with_reducible exact H | (rw [hy283]; exact H) | exact H
         have bF := mk_ hy283; clear hy283
         by_cases aW : aH.length < 5864062014805
         ·rw [if_pos aW] at H; have cC := mk_ aW; clear aW; obtain ⟨y286, hy286⟩ : ∃ y_ : List (List Int), y_ = (aH ++ [y283]) := ⟨_, rfl⟩
          replace H : (least_New.l0 k2 a2 a1 (wrap64 (aI + 1)) a0 a3 y286) = some (r1, r2, r3, r4) := by first | (rw [hy286]; with_reducible exact H) | (have H2_ := (Option.bind_some _ _).symm.trans H; rw [hy286]; with_reducible exact H2_) | (have H2_ := (Option.bind_some _ _).symm.trans H; with_reducible exact H2_) | with_reducible exact H | (rw [hy286]; exact H) | exact H
          have cD := mk_ hy286; clear hy286; have H' := mk_ H; clear H
          try go_wp2
          replace aE := mk_ (Kd.S_drew aE.out); replace aA := bd_ aA; replace aC := bd_ aC; replace HB := mk_ (below_drew1 HB.out); refine start_ (n := 8) (S := fun w' => w'.cell? ⟨aG, 0, none⟩ = some (.int .u64 a0) ∧ w'.cell? ⟨aG, 1, none⟩ = some (.int .i64 a3) ∧ w'.cell? ⟨aG, 2, none⟩ = some (u283002)) (ds := [7]) (mB 8 0) (by kernel_rfl) rfl rfl ⟨bc_ aC 0, bc_ aC 1, bc_ aC 2⟩ (fun hHeld => ?_); refine with_tabW least_New.tab6 least_New.bits6 (fun HT_ HW_ => ?_); generalize wr.drew = cR at aE aA aC HB hHeld ⊢; refine pq_ 0 40 8 1 HT_ ?_
          refine pq_ 2 42 8 5 HT_ ?_
          refine tq_ 1 41 8 7 HT_ HW_ hHeld ?_
          refine one_ (i := 3) (N := some 43) (mB 8 15) rfl rfl (one_of HT_.out (by kernel_rfl)) (by decide) (fun K hK => ?_); refine Kd.R_make_step (Kd.int .i64) _ 3 (by rfl) (N := 43) rfl 57 _ _ rfl a2 rfl rfl Try.underlying57 (.int .i64 0) 8 info3 rfl (by decide) (by omega) 0 (ok := fun _ => True) (okp := fun _ => True) rfl (fun _ hk => hk) trivial (of_decide_eq_true (by first | (with_reducible assumption) | assumption)) (Nat.le_trans (Nat.mul_le_mul_right _ (of_decide_eq_true (by first | (with_reducible assumption) | assumption) : a2.toNat ≤ 35184372088832)) (by omega)) (Below.refl _ _) (Nat.le_refl _) ?_; intro cS cT ho23 hb hg_ hnew_; clear hg_ hnew_
          (first | rw [← bF.out] at ho23 | (simp only [Int.reduceToNat] at ho23; rw [← bF.out] at ho23))
          replace aE := mk_ (Kd.S_elder' (sk_ aE) (Kd.R_base ho23) hb); have aX := mk_ (Kd.R_lower ho23 (below_size (bl_ HB))); replace aA := bb_ aA hb; replace aC := bb_ aC hb; replace HB := bs_ HB hb; clear hb ho23; obtain ⟨bG, bH, eo25⟩ := Kd.R_slice aX.out
          (first | subst eo25 | (injection eo25 with f1_ f2_ f3_; have f4_ := f1_.symm; have f5_ := f3_.symm; clear f1_ f2_ f3_; subst f4_; subst f5_))
          refine hK.out _ _ ⟨bc_ aC 0, bc_ aC 1, bc_ aC 2⟩ (fun hHeld => ?_); clear hK K; refine norm_ (a' := ?_) ?_ ?_; rotate_left
          ·show Act.put _ (some 43) _ = _
           simp only [Act.put, sa_, sb_, sc_, i64_w, i32_w]; rfl
          refine one_ (i := 4) (N := some 44) (mB 8 31) rfl rfl (one_of HT_.out (by kernel_rfl)) (by decide) (fun K hK => ?_); refine value_ (w1 := ?_) (v := ?_) (by rfl) rfl ?_ ?_; rotate_left 2
          ·go_simp
           constructor
           ·rfl
           ·rfl
          refine hK.out _ _ ⟨(blk_cell (blk_alloc aC.out _) 0).trans rfl, (blk_cell (blk_alloc aC.out _) 1).trans rfl, (blk_cell (blk_alloc aC.out _) 2).trans rfl⟩ (fun hHeld => ?_); clear hK K; refine norm_ (a' := ?_) ?_ ?_; rotate_left
          ·show Act.put _ (some 44) _ = _
           simp only [Act.put, sa_, sb_, sc_, i64_w, i32_w]; rfl
          refine one_ (i := 5) (N := some 45) (mB 8 63) rfl rfl (one_of HT_.out (by kernel_rfl)) (by decide) (fun K hK => ?_); refine Kd.S_append_step (Kd.slice 3 (Kd.int .i64)) (w0 := w) w.heap.size (by rfl) (.tmp 41) (.tmp 44) 24 57 (.slice none 0 0) 24 rfl Try.underlying24 info57 rfl (by decide) (by omega) u283002 aH y283 [.slice bG y283.length bH] (fun _ => True) (fun k_ => some k_ = (.slice bG y283.length bH : Value).ownBlock) rfl rfl ?aP (fun k_ cE => ((Kd.R_mono (ok' := fun k_ => ((fun _ => True)) k_ ∧ some k_ ≠ (u283002 : Value).ownBlock) (Kd.R_apart' (aX.out) (Kd.S_typed aE.out) (by decide)) (fun k_ hk => ⟨trivial, hk.2⟩))).1 k_ cE.symm) ?aF ?aO ?aB ?aS ?aL ?_; (case aP => exact Kd.M_row (Kd.R_mono (Kd.R_tight rfl (Kd.R_mono (ok' := fun k_ => ((fun _ => True)) k_ ∧ some k_ ≠ (u283002 : Value).ownBlock) (Kd.R_apart' (aX.out) (Kd.S_typed aE.out) (by decide)) (fun k_ hk => ⟨trivial, hk.2⟩))) (fun _ h_ => h_))); (case aB => exact (bl_ HB)); (case aF => exact (fun _ _ => trivial)); (case aO => exact (sl_ (Kd.S_mono aE.out (fun k_ hk => ⟨trivial, fun e_ => hk.2 e_⟩)))); (case aS => exact (below_size (bl_ HB))); (case aL => have := cC.out; omega); intro cU cF ho hb hg hat; rw [← cD.out] at ho
          replace aA := mk_ (blk_grown (bk_ aA) hg (Kd.S_ne aE.out aA.out (by decide))); replace aC := mk_ (blk_grown (bk_ aC) hg (Kd.S_ne aE.out aC.out (by decide))); replace HB := mk_ (hb); have bI := mk_ (ho); clear aE aX; clear ho hb hg hat; obtain ⟨bJ, bK, eo26⟩ := Kd.S_slice bI.out
          (first | subst eo26 | (injection eo26 with f1_ f2_ f3_; have f4_ := f1_.symm; have f5_ := f3_.symm; clear f1_ f2_ f3_; subst f4_; subst f5_))
          refine hK.out _ _ ⟨bc_ aC 0, bc_ aC 1, bc_ aC 2⟩ (fun hHeld => ?_); clear hK K; refine norm_ (a' := ?_) ?_ ?_; rotate_left
          ·show Act.put _ (some 45) _ = _
           simp only [Act.put, sa_, sb_, sc_, i64_w, i32_w]; rfl
          refine pq_ 6 46 8 127 HT_ ?_
          refine last_ (i := 7) (N := none) (mB 8 255) rfl rfl (one_of HT_.out (by kernel_rfl)) (by decide) (fun K hK => ?_); have hs27 : cF.cell? ⟨aG, 2, none⟩ = some (u283002) := bc_ aC 2; have hfs27 := blk_frozen aC.out 2; have hns27_0 := aN.out; have hms27_0 := bE.out; refine skip_ (w1 := ?_) (by rfl) rfl ?_ ?_; rotate_left
          ·go_simp; rfl
          refine hK.out _ _ ?_; clear hK K; refine done_ (done_of HT_.out (by kernel_rfl)) ?_
          try go_wp2
          go_roundg k2
          case measure => have := HJ4.out; have := HK2.out; omega
          case rel => exact ⟨(wrap64 (aI + 1)), (y286), (.slice bJ y286.length bK), (by first | rfl | (simp; done) | (simp [*]; done)), H', ⟨by have := HJ4.out; have := HK2.out; omega⟩, ⟨by (with_reducible repeat (first | apply Kd.S_alloc | apply Kd.S_drewN | apply Kd.S_drew)); exact Kd.S_mono (Kd.S_far (p := ⟨aG, 2, none⟩) (Kd.S_types bI.out aC.out (by decide)) (fun _ hk => hk.2) (.slice bJ y286.length bK)) (fun _ hk => trivial)⟩, ⟨fb_⟩, ⟨by (with_reducible repeat (first | refine blk_drewN ?_ _ | refine blk_drew ?_ | refine blk_alloc ?_ _)); refine blk_put (cs := #[.int .u64 a0, .int .i64 a3, u283002]) ?_ 2 _ rfl; (with_reducible repeat (first | refine blk_drewN ?_ _ | refine blk_drew ?_ | refine blk_alloc ?_ _)); exact aC.out⟩, ⟨bl_ HB⟩⟩
         ·rw [if_neg aW] at H; exact absurd H (by simp)
        ·rw [if_neg aU] at H; exact absurd H (by simp)
       ·rw [if_neg aT] at H; exact absurd H (by simp)
      ·rw [if_neg aQ] at H; have cB : decide (aI < a1) = false := decide_eq_false aQ; clear aQ; simp only [Option.some.injEq, Prod.mk.injEq] at H; obtain ⟨rfl, rfl, rfl, rfl⟩ := H; have cV := bE.out; have cW := aN.out; obtain ⟨cX, cY, cZ⟩ := cz3_ aC; obtain ⟨dA, dB, dC⟩ := fz3_ aC; obtain ⟨dD, dE, dF⟩ := cz3_ aA; obtain ⟨dG, dH, dI⟩ := fz3_ aA; obtain ⟨bL, bM, eo31⟩ := Kd.S_slice aE.out; subst eo31
       go_wp2
       refine bodyPost_ret (results_ct rfl _ _ aD 26 #[.int .u64 a0, .int .i64 a3, .slice bL aH.length bM] (0, 0) _ rfl (by (with_reducible repeat (first | refine blk_drewN ?_ _ | refine blk_drew ?_ | refine blk_alloc ?_ _)); refine blk_put (cs := #[.int .u64 a0, .int .i64 a3, .slice none 0 0]) ?_ 2 _ rfl; (with_reducible repeat (first | refine blk_drewN ?_ _ | refine blk_drew ?_ | refine blk_alloc ?_ _)); refine blk_put (cs := #[.int .u64 a0, .int .i64 0, .slice none 0 0]) ?_ 1 _ rfl; (with_reducible repeat (first | refine blk_drewN ?_ _ | refine blk_drew ?_ | refine blk_alloc ?_ _)); refine blk_put (cs := #[.int .u64 0, .int .i64 0, .slice none 0 0]) ?_ 0 _ rfl; (with_reducible repeat (first | refine blk_drewN ?_ _ | refine blk_drew ?_ | refine blk_alloc ?_ _)); exact aA.out) Try.underlying26 rfl (by kernel_rfl)) rfl ?_; exact ⟨_, by first | rfl | (simp [errW_none, errW_some] <;> rfl) | (simp [*, errW_none, errW_some] <;> rfl), by (with_reducible repeat (first | apply Kd.S_alloc | apply Kd.S_drewN | apply Kd.S_drew)); exact Kd.S_mono (Kd.S_far (p := ⟨aD, 2, none⟩) (Kd.S_far (p := ⟨aD, 1, none⟩) (Kd.S_far (p := ⟨aD, 0, none⟩) (Kd.S_types aE.out aA.out (by decide)) (fun _ hk => hk.2) (.int .u64 a0)) (fun _ hk => hk.2) (.int .i64 a3)) (fun _ hk => hk.2) (.slice bL aH.length bM)) (fun _ hk => trivial), bl_ HB⟩

end Go.Proofs.Ytljmjjeghebdpaa.PElasticFew
