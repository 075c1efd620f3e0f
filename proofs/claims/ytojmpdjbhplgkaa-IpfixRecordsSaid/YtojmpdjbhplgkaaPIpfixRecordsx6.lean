/- The functions that a law uses, each as a plain function, with the proof that a call of the Go function comes to its answer. Condition of each: the arguments read as the data that it names, and the plain function has an answer. Written by a program of this session (standin.py). -/
import Derived.Test.YtojmpdjbhplgkaaPIpfixRecordsx0
import Derived.Test.YtojmpdjbhplgkaaShort
import Derived.Lib.SliceRun
import Derived.Test.YtojmpdjbhplgkaaPressMore
namespace Go.Proofs.Ytojmpdjbhplgkaa.PIpfixRecords
open Go.RowKit Go.Proofs.YtojmpdjbhplgkaaW.PrintWords Go.Proofs.YtojmpdjbhplgkaaW.PrintLast Go.Proofs.YtojmpdjbhplgkaaW.PrintMore Go.Proofs.Ytojmpdjbhplgkaa.Short Go.Proofs.Ytojmpdjbhplgkaa.Press Go.Proofs.Ytojmpdjbhplgkaa.PressMore
attribute [local go_sem] max2_int min2_int max_two min_two max_three min_three max_four min_four   -- for this text's walks alone
set_option linter.unusedVariables false
set_option linter.unusedSimpArgs false

/-! ### rillmeterlaw22_tref: function 15 -/
def rillmeterlaw22_tref.l0 : Nat → List (S82) → Int → Int → Int → List (S88) → Option (Int × (List (S88)))
  | 0, _, _, _, _, _ => none
  | k + 1, x10, x11, x12, x284000, x284001 => if x12 < x11 then (if 0 ≤ x12 then (if x12 < (x10.length : Int) then (if x284001.length < 5864062014805 then (rillmeterlaw22_tref.l0 k x10 x11 (wrap64 (x12 + 1)) x284000 (x284001 ++ [(⟨(rd_T82 x10 x12).f0, (rd_T82 x10 x12).f1, (rd_T82 x10 x12).f2⟩ : S88)])) else (none)) else (none)) else (none)) else (some (x284000, x284001))
def rillmeterlaw22_tref.f (k : Nat) (a0_0 : Int) (l0_1 : List (S82)) : Option (Int × (List (S88))) := rillmeterlaw22_tref.l0 k l0_1 (l0_1.length : Int) 0 a0_0 ([] : List (S88))
theorem rillmeterlaw22_tref.mono_l : ∀ k, (∀ y0 y1 y2 y3 y4, LeO (rillmeterlaw22_tref.l0 k y0 y1 y2 y3 y4) (rillmeterlaw22_tref.l0 (k + 1) y0 y1 y2 y3 y4))
  | 0 => fun _ _ _ _ _ r h => by simp [rillmeterlaw22_tref.l0] at h
  | k + 1 => by
    have ih0 := rillmeterlaw22_tref.mono_l k
    · intro y0 y1 y2 y3 y4
      unfold rillmeterlaw22_tref.l0
      repeat' first
      | (with_reducible exact ih0 _ _ _ _ _)
      | (with_reducible exact LeO.refl _)
      | (with_reducible exact LeO.none _)
      | (with_reducible refine LeO.ite ?_ ?_)
      | (with_reducible refine LeO.bind ?_ (fun _ => ?_))
      | exact ih0 _ _ _ _ _
      | exact LeO.none _
      | refine LeO.ite ?_ ?_
      | refine LeO.bind ?_ (fun _ => ?_)
theorem rillmeterlaw22_tref.mono : ∀ a0 a1 k, LeO (rillmeterlaw22_tref.f k a0 a1) (rillmeterlaw22_tref.f (k + 1) a0 a1) := by
  intro a0 a1 k
  have ih0 := rillmeterlaw22_tref.mono_l k
  unfold rillmeterlaw22_tref.f
  repeat' first
      | (with_reducible exact ih0 _ _ _ _ _)
      | (with_reducible exact LeO.refl _)
      | (with_reducible exact LeO.none _)
      | (with_reducible refine LeO.ite ?_ ?_)
      | (with_reducible refine LeO.bind ?_ (fun _ => ?_))
      | exact ih0 _ _ _ _ _
      | exact LeO.none _
      | refine LeO.ite ?_ ?_
      | refine LeO.bind ?_ (fun _ => ?_)
set_option maxHeartbeats 80000000 in
set_option maxRecDepth 100000 in
theorem rillmeterlaw22_tref.calls (k : Nat) (a0_0 : Int) (A0_1 : Option Addr) (c0_1 : Nat) (l0_1 : List (S82)) (r1 : Int) (r2 : List (S88)) (w : World) (hr0_1 : Kd.C k82 w A0_1 l0_1.length l0_1) (hc0_1 : l0_1.length ≤ c0_1) (h : rillmeterlaw22_tref.f k a0_0 l0_1 = some (r1, r2)) :
    Calls Try.prog 15 #[.agg #[.int .i64 a0_0, .slice A0_1 l0_1.length c0_1]] w fun e w' => ∃ v1_ : Value, e = .returned (.agg #[.int .i64 r1, v1_]) ∧ Kd.R k88 88 w' w.heap.size (fun _ => True) v1_ r2 ∧ Below w.heap.size w w' := by
 have hu37 := Try.underlying37; have hu46 := Try.underlying46; have hu82 := Try.underlying82; have bQ := mk_ hr0_1; have cL := mk_ hc0_1; clear hr0_1 hc0_1; have HB := mk_ (Below.refl w.heap.size w); have H : (rillmeterlaw22_tref.l0 k l0_1 (l0_1.length : Int) 0 a0_0 ([] : List (S88))) = some (r1, r2) := h; clear h; have H' := mk_ H; clear H
 go_enter Try.func15, Try.ntmps15
 go_wp2_with (first | ((with_reducible refine gate_dst (N := 1) rfl ?_); refine box_event ?hg (N := 1) ?hd (cs := #[.int .i64 a0_0, .slice A0_1 l0_1.length c0_1]) (t := 37) ?hr ?_; (case hd => rfl); (case hg => rfl); (case hr => first | (go_simp; done) | (go_simp; rfl)); intro aN hg w2 hbox hb; have n0_ := bs_ HB hb; have n1_ := mk_ (hbox); have n2_ := gx_ hg HB; have n3_ := gx_ hg HB; clear HB; have HB := n0_; have aC := n1_; have cM := n2_; have cN := n3_; clear n0_ n1_ n2_ n3_; clear hb hbox hg) | ((with_reducible refine gate_dst (N := 2) rfl ?_); refine box_event ?hg (N := 2) ?hd (cs := #[.int .i64 0, .slice none 0 0]) (t := 46) ?hr ?_; (case hd => rfl); (case hg => rfl); (case hr => first | (go_simp; done) | (go_simp; rfl)); intro aK hg w3 hbox hb; have n0_ := bb_ aC hb; have n1_ := bs_ HB hb; have n2_ := mk_ (hbox); have n3_ := gx_ hg HB; have n4_ := gx_ hg HB; have n5_ := nx_ hg aC; have n6_ := ny_ hg aC; clear aC; clear HB; have aC := n0_; have HB := n1_; have aE := n2_; have cO := n3_; have cP := n4_; have bI := n5_; have bJ := n6_; clear n0_ n1_ n2_ n3_ n4_ n5_ n6_; clear hb hbox hg; have cQ := bI.out; have cR := bJ.out; have bR : w3.cell? ⟨aN, 0, none⟩ = some (.int .i64 a0_0) := bc_ aC 0; have bS : w3.cell? ⟨aN, 1, none⟩ = some (.slice A0_1 l0_1.length c0_1) := bc_ aC 1; have bT := blk_frozen aC.out 0; have bU := blk_frozen aC.out 1) | ((with_reducible refine gate_dst (N := 3) rfl ?_); refine box_event ?hg (N := 3) ?hd (cs := #[.int .i64 0, .slice none 0 0]) (t := 46) ?hr ?_; (case hd => rfl); (case hg => rfl); (case hr => first | (go_simp; done) | (go_simp; rfl)); intro aG hg w6 hbox hb; have n0_ := bb_ aC hb; have n1_ := bb_ aE hb; have n2_ := bs_ HB hb; have n3_ := mk_ (hbox); have n4_ := gx_ hg HB; have n5_ := gx_ hg HB; have n6_ := nx_ hg aC; have n7_ := ny_ hg aC; have n8_ := nx_ hg aE; have n9_ := ny_ hg aE; clear aC; clear aE; clear HB; have aC := n0_; have aE := n1_; have HB := n2_; have aD := n3_; have cS := n4_; have cT := n5_; have aQ := n6_; have bB := n7_; have aR := n8_; have bC := n9_; clear n0_ n1_ n2_ n3_ n4_ n5_ n6_ n7_ n8_ n9_; clear hb hbox hg; have cU := bB.out; have cV := aQ.out; have cW := bC.out; have cX := aR.out; have bV : w6.cell? ⟨aG, 0, none⟩ = some (.int .i64 0) := bc_ aD 0; have bW : w6.cell? ⟨aG, 1, none⟩ = some (.slice none 0 0) := bc_ aD 1; have bX := blk_frozen aD.out 0; have bY := blk_frozen aD.out 1; have bZ : w6.cell? ⟨aN, 0, none⟩ = some (.int .i64 a0_0) := bc_ aC 0; have cA : w6.cell? ⟨aN, 1, none⟩ = some (.slice A0_1 l0_1.length c0_1) := bc_ aC 1; have cB := blk_frozen aC.out 0; have cC := blk_frozen aC.out 1))
 go_loopg [12] k (fun kq cD w' => ∃ (aA : Int) (aJ : List (S88)) (u284001 : Value), cD = .int .i64 aA ∧ Aside0 (rillmeterlaw22_tref.l0 kq l0_1 (l0_1.length : Int) aA a0_0 aJ = some (r1, r2)) ∧ Aside0 (kq ≤ k) ∧ Aside0 (Kd.R k88 88 w' w.heap.size (fun _ => True) u284001 aJ) ∧ Aside0 (w'.heap[aN]? = some (.cells #[.int .i64 a0_0, (.slice A0_1 l0_1.length c0_1)] 37 (0, 0))) ∧ Aside0 (w'.heap[aK]? = some (.cells #[.int .i64 0, (.slice none 0 0)] 46 (0, 0))) ∧ Aside0 (w'.heap[aG]? = some (.cells #[.int .i64 a0_0, u284001] 46 (0, 0))) ∧ Aside0 (Below w.heap.size w w'))
 case atStart => exact ⟨(0), (([] : List (S88))), (.slice none 0 0), (by first | rfl | (simp; done) | (simp [*]; done)), H', ⟨Nat.le_refl _⟩, ⟨by first | exact Kd.R_nil _ _ _ _ _ | exact Kd.N_nil _ _ _ _ _ | exact Kd.V_nil _ _ _ _ _ | exact Kd.Q_nil _ _ _ _ _ | exact Kd.S_nil _ _ _ _ _⟩, ⟨by (with_reducible repeat (first | refine blk_drewN ?_ _ | refine blk_drew ?_ | refine blk_alloc ?_ _)); refine blk_far ?_ aQ.out _; (with_reducible repeat (first | refine blk_drewN ?_ _ | refine blk_drew ?_ | refine blk_alloc ?_ _)); refine blk_far ?_ aQ.out _; (with_reducible repeat (first | refine blk_drewN ?_ _ | refine blk_drew ?_ | refine blk_alloc ?_ _)); exact aC.out⟩, ⟨by (with_reducible repeat (first | refine blk_drewN ?_ _ | refine blk_drew ?_ | refine blk_alloc ?_ _)); refine blk_far ?_ aR.out _; (with_reducible repeat (first | refine blk_drewN ?_ _ | refine blk_drew ?_ | refine blk_alloc ?_ _)); refine blk_far ?_ aR.out _; (with_reducible repeat (first | refine blk_drewN ?_ _ | refine blk_drew ?_ | refine blk_alloc ?_ _)); exact aE.out⟩, ⟨by (with_reducible repeat (first | refine blk_drewN ?_ _ | refine blk_drew ?_ | refine blk_alloc ?_ _)); refine blk_put (cs := #[.int .i64 a0_0, .slice none 0 0]) ?_ 1 _ rfl; (with_reducible repeat (first | refine blk_drewN ?_ _ | refine blk_drew ?_ | refine blk_alloc ?_ _)); refine blk_put (cs := #[.int .i64 0, .slice none 0 0]) ?_ 0 _ rfl; (with_reducible repeat (first | refine blk_drewN ?_ _ | refine blk_drew ?_ | refine blk_alloc ?_ _)); exact aD.out⟩, ⟨bl_ HB⟩⟩
 case round =>
  clear H'; (try clear c1); (try clear p2); (try clear c4); (try clear c7); (try clear c8); (try clear bZ); (try clear cA); (try clear bR); (try clear bS); (try clear bV); (try clear bW); (try clear cB); (try clear cC); (try clear bT); (try clear bU); (try clear bX); (try clear bY); obtain ⟨aA, aJ, u284001, rfl, HA, HK1, aH, aC, aE, aD, HB⟩ := hrel
  cases gk with
  | zero => exact absurd HA.out (by simp [rillmeterlaw22_tref.l0])
  | succ k1 =>
   have H := HA.out; clear HA; simp only [rillmeterlaw22_tref.l0] at H
   by_cases aT : aA < (l0_1.length : Int)
   ·rw [if_pos aT] at H; have cE : decide (aA < (l0_1.length : Int)) = true := decide_eq_true aT; clear aT
    by_cases aV : 0 ≤ aA
    ·rw [if_pos aV] at H; have cY : decide (0 ≤ aA) = true := decide_eq_true aV; clear aV
     by_cases aW : aA < (l0_1.length : Int)
     ·rw [if_pos aW] at H; have cZ : decide (aA < (l0_1.length : Int)) = true := decide_eq_true aW; clear aW
      by_cases aX : aJ.length < 5864062014805
      ·rw [if_pos aX] at H; have cF := mk_ aX; clear aX; obtain ⟨y286, hy286⟩ : ∃ y_ : List (S88), y_ = (aJ ++ [(⟨(rd_T82 l0_1 aA).f0, (rd_T82 l0_1 aA).f1, (rd_T82 l0_1 aA).f2⟩ : S88)]) := ⟨_, rfl⟩
       replace H : (rillmeterlaw22_tref.l0 k1 l0_1 (l0_1.length : Int) (wrap64 (aA + 1)) a0_0 y286) = some (r1, r2) := by first | (rw [hy286]; with_reducible exact H) | (have H2_ := (Option.bind_some _ _).symm.trans H; rw [hy286]; with_reducible exact H2_) | (have H2_ := (Option.bind_some _ _).symm.trans H; with_reducible exact H2_) | with_reducible exact H | (rw [hy286]; exact H) | exact H
       have cG := mk_ hy286; clear hy286; have H' := mk_ H; clear H; have bD : 0 ≤ (aA : Int) := of_decide_eq_true (by first | (with_reducible assumption) | assumption); have bE : aA < (l0_1.length : Int) := of_decide_eq_true (by first | (with_reducible assumption) | assumption); obtain ⟨cH, e284, bF, bG, bH⟩ := at_T82 bQ.out aA bD bE
       cases e284; (try replace bF := (HB.out.cell (World.block_lt_of_cell? w _ bF)).trans bF); (try replace bG := (HB.out.cell (World.block_lt_of_cell? w _ bG)).trans bG); (try replace bH := (HB.out.cell (World.block_lt_of_cell? w _ bH)).trans bH); replace bD := eq_true bD; replace bE := eq_true bE
       go_wp2_with (first | ((with_reducible refine gate_dst (N := 5) rfl ?_); refine box_event ?hg (N := 5) ?hd (cs := #[.int .i64 0, .int .i64 0, .int .i64 0]) (t := 82) ?hr ?_; (case hd => rfl); (case hg => rfl); (case hr => first | (go_simp; done) | (go_simp; rfl)); intro aM hg aU hbox hb; have n0_ := mk_ (Kd.R_below (by (with_reducible repeat (first | apply Kd.R_alloc | apply Kd.R_drewN | apply Kd.R_drew)); exact aH.out) hb); have n1_ := bb_ aC hb; have n2_ := bb_ aE hb; have n3_ := bb_ aD hb; have n4_ := bs_ HB hb; have n5_ := mk_ (hbox); have n6_ := gx_ hg HB; have n7_ := gx_ hg HB; have n8_ := nx_ hg aC; have n9_ := ny_ hg aC; have n10_ := nx_ hg aE; have n11_ := ny_ hg aE; have n12_ := nx_ hg aD; have n13_ := ny_ hg aD; clear aH; clear aC; clear aE; clear aD; clear HB; have aH := n0_; have aC := n1_; have aE := n2_; have aD := n3_; have HB := n4_; have aI := n5_; have dA := n6_; have dB := n7_; have aY := n8_; have cI := n9_; have aZ := n10_; have cJ := n11_; have bA := n12_; have cK := n13_; clear n0_ n1_ n2_ n3_ n4_ n5_ n6_ n7_ n8_ n9_ n10_ n11_ n12_ n13_; clear hb hbox hg; have dC := cI.out; have dD := aY.out; have dE := cJ.out; have dF := aZ.out; have dG := cK.out; have dH := bA.out; have dI : aU.cell? ⟨aM, 0, none⟩ = some (.int .i64 0) := bc_ aI 0; have dJ : aU.cell? ⟨aM, 1, none⟩ = some (.int .i64 0) := bc_ aI 1; have dK : aU.cell? ⟨aM, 2, none⟩ = some (.int .i64 0) := bc_ aI 2; have dL := blk_frozen aI.out 0; have dM := blk_frozen aI.out 1; have dN := blk_frozen aI.out 2; have dO := bB.out; have dP := aQ.out; have dQ := bC.out; have dR := aR.out; have dS : aU.cell? ⟨aG, 0, none⟩ = some (.int .i64 a0_0) := bc_ aD 0; have dT : aU.cell? ⟨aG, 1, none⟩ = some (u284001) := bc_ aD 1; have dU := blk_frozen aD.out 0; have dV := blk_frozen aD.out 1) | ((with_reducible refine gate_builtin (b := .append) (xs := #[.tmp 17, .tmp 19]) rfl ?_); at_builtin; refine Kd.R_append k88 (w0 := w) w.heap.size rfl (.tmp 17) (.tmp 19) 44 88 (.agg #[(.int .i64 0), (.int .i64 0), (.int .i64 0)]) 24 rfl Try.underlying44 info88 rfl (by decide) (by omega) u284001 aJ (⟨(rd_T82 l0_1 aA).f0, (rd_T82 l0_1 aA).f1, (rd_T82 l0_1 aA).f2⟩ : S88) [.int .i64 ((rd_T82 l0_1 aA).f0), .int .i64 ((rd_T82 l0_1 aA).f1), .int .i64 ((rd_T82 l0_1 aA).f2)] (fun _ => True) (fun _ => False) rfl (by first | (go_simp; done) | (go_simp; rfl)) ?aP (fun _ hk => hk.elim) ?aF ?aO ?aB ?aS ?aL ?_; (case aP => exact k88_mkM _ _ _ (⟨(rd_T82 l0_1 aA).f0, (rd_T82 l0_1 aA).f1, (rd_T82 l0_1 aA).f2⟩ : S88)); (case aB => exact (bl_ HB)); (case aF => exact (fun _ _ => trivial)); (case aO => exact (by (with_reducible repeat (first | apply Kd.R_alloc | apply Kd.R_drewN | apply Kd.R_drew)); exact Kd.R_mono (Kd.R_far (p := ⟨aM, 2, none⟩) (Kd.R_far (p := ⟨aM, 1, none⟩) (Kd.R_far (p := ⟨aM, 0, none⟩) (Kd.R_types aH.out aI.out (by decide)) (fun _ hk => hk.2) (.int .i64 ((rd_T82 l0_1 aA).f0))) (fun _ hk => hk.2) (.int .i64 ((rd_T82 l0_1 aA).f1))) (fun _ hk => hk.2) (.int .i64 ((rd_T82 l0_1 aA).f2))) (fun _ hk => trivial))); (case aS => exact (below_size (bl_ HB))); (case aL => have := cF.out; omega); intro dW bK ho hb hg hat; rw [← cG.out] at ho; have n0_ := mk_ (blk_grown (g := aN) (o := .cells #[.int .i64 a0_0, .slice (some cH) l0_1.length c0_1] 37 (0, 0)) (by (with_reducible repeat (first | refine blk_drewN ?_ _ | refine blk_drew ?_ | refine blk_alloc ?_ _)); refine blk_far ?_ aY.out _; (with_reducible repeat (first | refine blk_drewN ?_ _ | refine blk_drew ?_ | refine blk_alloc ?_ _)); refine blk_far ?_ aY.out _; (with_reducible repeat (first | refine blk_drewN ?_ _ | refine blk_drew ?_ | refine blk_alloc ?_ _)); refine blk_far ?_ aY.out _; (with_reducible repeat (first | refine blk_drewN ?_ _ | refine blk_drew ?_ | refine blk_alloc ?_ _)); exact aC.out) hg (Kd.R_ne aH.out aC.out (by decide))); have n1_ := mk_ (blk_grown (g := aK) (o := .cells #[.int .i64 0, .slice none 0 0] 46 (0, 0)) (by (with_reducible repeat (first | refine blk_drewN ?_ _ | refine blk_drew ?_ | refine blk_alloc ?_ _)); refine blk_far ?_ aZ.out _; (with_reducible repeat (first | refine blk_drewN ?_ _ | refine blk_drew ?_ | refine blk_alloc ?_ _)); refine blk_far ?_ aZ.out _; (with_reducible repeat (first | refine blk_drewN ?_ _ | refine blk_drew ?_ | refine blk_alloc ?_ _)); refine blk_far ?_ aZ.out _; (with_reducible repeat (first | refine blk_drewN ?_ _ | refine blk_drew ?_ | refine blk_alloc ?_ _)); exact aE.out) hg (Kd.R_ne aH.out aE.out (by decide))); have n2_ := mk_ (blk_grown (g := aG) (o := .cells #[.int .i64 a0_0, u284001] 46 (0, 0)) (by (with_reducible repeat (first | refine blk_drewN ?_ _ | refine blk_drew ?_ | refine blk_alloc ?_ _)); refine blk_far ?_ bA.out _; (with_reducible repeat (first | refine blk_drewN ?_ _ | refine blk_drew ?_ | refine blk_alloc ?_ _)); refine blk_far ?_ bA.out _; (with_reducible repeat (first | refine blk_drewN ?_ _ | refine blk_drew ?_ | refine blk_alloc ?_ _)); refine blk_far ?_ bA.out _; (with_reducible repeat (first | refine blk_drewN ?_ _ | refine blk_drew ?_ | refine blk_alloc ?_ _)); exact aD.out) hg (Kd.R_ne aH.out aD.out (by decide))); have n3_ := mk_ (blk_grown (g := aM) (o := .cells #[.int .i64 ((rd_T82 l0_1 aA).f0), .int .i64 ((rd_T82 l0_1 aA).f1), .int .i64 ((rd_T82 l0_1 aA).f2)] 82 (0, 0)) (by (with_reducible repeat (first | refine blk_drewN ?_ _ | refine blk_drew ?_ | refine blk_alloc ?_ _)); refine blk_put (cs := #[.int .i64 ((rd_T82 l0_1 aA).f0), .int .i64 ((rd_T82 l0_1 aA).f1), .int .i64 0]) ?_ 2 _ rfl; (with_reducible repeat (first | refine blk_drewN ?_ _ | refine blk_drew ?_ | refine blk_alloc ?_ _)); refine blk_put (cs := #[.int .i64 ((rd_T82 l0_1 aA).f0), .int .i64 0, .int .i64 0]) ?_ 1 _ rfl; (with_reducible repeat (first | refine blk_drewN ?_ _ | refine blk_drew ?_ | refine blk_alloc ?_ _)); refine blk_put (cs := #[.int .i64 0, .int .i64 0, .int .i64 0]) ?_ 0 _ rfl; (with_reducible repeat (first | refine blk_drewN ?_ _ | refine blk_drew ?_ | refine blk_alloc ?_ _)); exact aI.out) hg (Kd.R_ne aH.out aI.out (by decide))); have n4_ := mk_ (hb); have n5_ := mk_ (ho); clear aC; clear aE; clear aD; clear aI; clear HB; clear aH; have aC := n0_; have aE := n1_; have aD := n2_; have aI := n3_; have HB := n4_; have bL := n5_; clear n0_ n1_ n2_ n3_ n4_ n5_; clear ho hb hg hat; obtain ⟨bM, bN, eo24⟩ := Kd.R_slice bL.out; subst eo24; have dX : bK.cell? ⟨aG, 0, none⟩ = some (.int .i64 a0_0) := bc_ aD 0; have dY : bK.cell? ⟨aG, 1, none⟩ = some (u284001) := bc_ aD 1; have dZ := blk_frozen aD.out 0; have fA := blk_frozen aD.out 1))
       go_roundg k1
       case measure => have := HK1.out; omega
       case rel => exact ⟨(wrap64 (aA + 1)), (y286), (.slice bM y286.length bN), (by first | rfl | (simp; done) | (simp [*]; done)), H', ⟨by have := HK1.out; omega⟩, ⟨by (with_reducible repeat (first | apply Kd.R_alloc | apply Kd.R_drewN | apply Kd.R_drew)); exact Kd.R_mono (Kd.R_far (p := ⟨aG, 1, none⟩) (Kd.R_types bL.out aD.out (by decide)) (fun _ hk => hk.2) (.slice bM y286.length bN)) (fun _ hk => trivial)⟩, ⟨by (with_reducible repeat (first | refine blk_drewN ?_ _ | refine blk_drew ?_ | refine blk_alloc ?_ _)); refine blk_far ?_ aQ.out _; (with_reducible repeat (first | refine blk_drewN ?_ _ | refine blk_drew ?_ | refine blk_alloc ?_ _)); exact aC.out⟩, ⟨by (with_reducible repeat (first | refine blk_drewN ?_ _ | refine blk_drew ?_ | refine blk_alloc ?_ _)); refine blk_far ?_ aR.out _; (with_reducible repeat (first | refine blk_drewN ?_ _ | refine blk_drew ?_ | refine blk_alloc ?_ _)); exact aE.out⟩, ⟨by (with_reducible repeat (first | refine blk_drewN ?_ _ | refine blk_drew ?_ | refine blk_alloc ?_ _)); refine blk_put (cs := #[.int .i64 a0_0, u284001]) ?_ 1 _ rfl; (with_reducible repeat (first | refine blk_drewN ?_ _ | refine blk_drew ?_ | refine blk_alloc ?_ _)); exact aD.out⟩, ⟨bl_ HB⟩⟩
      ·rw [if_neg aX] at H; exact absurd H (by simp)
     ·rw [if_neg aW] at H; exact absurd H (by simp)
    ·rw [if_neg aV] at H; exact absurd H (by simp)
   ·rw [if_neg aT] at H; have cE : decide (aA < (l0_1.length : Int)) = false := decide_eq_false aT; clear aT; simp only [Option.some.injEq, Prod.mk.injEq] at H; obtain ⟨rfl, rfl⟩ := H; have fB := bB.out; have fC := aQ.out; have fD := bC.out; have fE := aR.out; have fF : wr.cell? ⟨aG, 0, none⟩ = some (.int .i64 a0_0) := bc_ aD 0; have fG : wr.cell? ⟨aG, 1, none⟩ = some (u284001) := bc_ aD 1; have fH := blk_frozen aD.out 0; have fI := blk_frozen aD.out 1; have fJ := bJ.out; have fK := bI.out; have fL : wr.cell? ⟨aK, 0, none⟩ = some (.int .i64 0) := bc_ aE 0; have fM : wr.cell? ⟨aK, 1, none⟩ = some (.slice none 0 0) := bc_ aE 1; have fN := blk_frozen aE.out 0; have fO := blk_frozen aE.out 1; obtain ⟨bO, bP, eo31⟩ := Kd.R_slice aH.out; subst eo31
    go_wp2
    refine bodyPost_ret (results_cell_row rfl _ _ aK 46 #[.int .i64 a0_0, .slice bO aJ.length bP] (0, 0) _ rfl (by (with_reducible repeat (first | refine blk_drewN ?_ _ | refine blk_drew ?_ | refine blk_alloc ?_ _)); refine blk_put (cs := #[.int .i64 a0_0, .slice none 0 0]) ?_ 1 _ rfl; (with_reducible repeat (first | refine blk_drewN ?_ _ | refine blk_drew ?_ | refine blk_alloc ?_ _)); refine blk_put (cs := #[.int .i64 0, .slice none 0 0]) ?_ 0 _ rfl; (with_reducible repeat (first | refine blk_drewN ?_ _ | refine blk_drew ?_ | refine blk_alloc ?_ _)); exact aE.out) Try.underlying46 rfl (by kernel_rfl)) rfl ?_; exact ⟨_, by first | rfl | (simp [errW_none, errW_some] <;> rfl) | (simp [*, errW_none, errW_some] <;> rfl), by (with_reducible repeat (first | apply Kd.R_alloc | apply Kd.R_drewN | apply Kd.R_drew)); exact Kd.R_mono (Kd.R_far (p := ⟨aK, 1, none⟩) (Kd.R_far (p := ⟨aK, 0, none⟩) (Kd.R_types aH.out aE.out (by decide)) (fun _ hk => hk.2) (.int .i64 a0_0)) (fun _ hk => hk.2) (.slice bO aJ.length bP)) (fun _ hk => trivial), bl_ HB⟩

/-! ### rillmeterref22_in: function 37 -/
def rillmeterref22_in.f (a0 : Int) (a1 : Int) (a2 : Int) : Option (Bool) := if a0 ≥ a1 then (some (decide (a0 ≤ a2))) else (some false)
set_option maxHeartbeats 80000000 in
set_option maxRecDepth 100000 in
theorem rillmeterref22_in.calls (a0 : Int) (a1 : Int) (a2 : Int) (r : Bool) (w : World) (h : rillmeterref22_in.f a0 a1 a2 = some r) :
    Calls Try.prog 37 #[.int .i64 a0, .int .i64 a1, .int .i64 a2] w fun e w' => e = .returned (.bool r) ∧ Drawn0 w w' := by
 have H : (if a0 ≥ a1 then (some (decide (a0 ≤ a2))) else (some false)) = some r := h; clear h
 by_cases c4 : a0 ≥ a1
 ·rw [if_pos c4] at H; have aA : decide (a1 ≤ a0) = true := decide_eq_true c4; clear c4; obtain rfl := Option.some.inj H
  go_enter Try.func37, Try.ntmps37
  go_wp2
  go_ret; exact ⟨by first | rfl | (simp; done) | (simp [*]; done), by repeat (first | exact Drawn0.refl _ | apply Drawn0.step)⟩
 ·rw [if_neg c4] at H; have aA : decide (a1 ≤ a0) = false := decide_eq_false c4; clear c4; obtain rfl := Option.some.inj H
  go_enter Try.func37, Try.ntmps37
  go_wp2
  go_ret; exact ⟨by first | rfl | (simp; done) | (simp [*]; done), by repeat (first | exact Drawn0.refl _ | apply Drawn0.step)⟩

/-! ### rillmeterref22_Sound: function 16 -/
def rillmeterref22_Sound.l0 : Nat → Int → Int → List (S88) → Option (Bool)
  | 0, _, _, _ => none
  | k + 1, x3, x290000, x290001 => if x3 < (x290001.length : Int) then (if 0 ≤ x3 then ((rillmeterref22_in.f ((rd_T88 x290001 x3).f0) 0 32767).bind fun t294 => (if t294 = true then ((rillmeterref22_in.f ((rd_T88 x290001 x3).f1) 0 65535).bind fun t295 => (if t295 = true then ((rillmeterref22_in.f ((rd_T88 x290001 x3).f2) 0 4294967295).bind fun t296 => (if t296 = true then (rillmeterref22_Sound.l0 k (wrap64 (x3 + 1)) x290000 x290001) else (some false))) else (some false))) else (some false))) else (none)) else ((rillmeterref22_in.f x290000 256 65535).bind fun t290 => (if t290 = true then ((rillmeterref22_in.f (x290001.length : Int) 1 64).bind fun t291 => (some t291)) else (some false)))
def rillmeterref22_Sound.f (k : Nat) (a0_0 : Int) (l0_1 : List (S88)) : Option (Bool) := rillmeterref22_Sound.l0 k 0 a0_0 l0_1
theorem rillmeterref22_Sound.mono_l : ∀ k, (∀ y0 y1 y2, LeO (rillmeterref22_Sound.l0 k y0 y1 y2) (rillmeterref22_Sound.l0 (k + 1) y0 y1 y2))
  | 0 => fun _ _ _ r h => by simp [rillmeterref22_Sound.l0] at h
  | k + 1 => by
    have ih0 := rillmeterref22_Sound.mono_l k
    · intro y0 y1 y2
      unfold rillmeterref22_Sound.l0
      repeat' first
      | (with_reducible exact ih0 _ _ _)
      | (with_reducible exact LeO.refl _)
      | (with_reducible exact LeO.none _)
      | (with_reducible refine LeO.ite ?_ ?_)
      | (with_reducible refine LeO.bind ?_ (fun _ => ?_))
      | exact ih0 _ _ _
      | exact LeO.none _
      | refine LeO.ite ?_ ?_
      | refine LeO.bind ?_ (fun _ => ?_)
theorem rillmeterref22_Sound.mono : ∀ a0 a1 k, LeO (rillmeterref22_Sound.f k a0 a1) (rillmeterref22_Sound.f (k + 1) a0 a1) := by
  intro a0 a1 k
  have ih0 := rillmeterref22_Sound.mono_l k
  unfold rillmeterref22_Sound.f
  repeat' first
      | (with_reducible exact ih0 _ _ _)
      | (with_reducible exact LeO.refl _)
      | (with_reducible exact LeO.none _)
      | (with_reducible refine LeO.ite ?_ ?_)
      | (with_reducible refine LeO.bind ?_ (fun _ => ?_))
      | exact ih0 _ _ _
      | exact LeO.none _
      | refine LeO.ite ?_ ?_
      | refine LeO.bind ?_ (fun _ => ?_)
set_option maxHeartbeats 80000000 in
set_option maxRecDepth 100000 in
theorem rillmeterref22_Sound.calls (k : Nat) (a0_0 : Int) (A0_1 : Option Addr) (c0_1 : Nat) (l0_1 : List (S88)) (r : Bool) (w : World) (hr0_1 : Kd.C k88 w A0_1 l0_1.length l0_1) (hc0_1 : l0_1.length ≤ c0_1) (h : rillmeterref22_Sound.f k a0_0 l0_1 = some r) :
    Calls Try.prog 16 #[.agg #[.int .i64 a0_0, .slice A0_1 l0_1.length c0_1]] w fun e w' => e = .returned (.bool r) ∧ Below w.heap.size w w' := by
 have hu46 := Try.underlying46; have hu88 := Try.underlying88; have aV := mk_ hr0_1; have bP := mk_ hc0_1; clear hr0_1 hc0_1; have HB := mk_ (Below.refl w.heap.size w); have H : (rillmeterref22_Sound.l0 k 0 a0_0 l0_1) = some r := h; clear h; have H' := mk_ H; clear H
 go_enter Try.func16, Try.ntmps16
 go_wp2_with (first | ((with_reducible refine gate_dst (N := 1) rfl ?_); (try (refine gate_guard (by rfl) ?_; dsimp only)); refine box_event ?hg (N := 1) ?hd (cs := #[.int .i64 a0_0, .slice A0_1 l0_1.length c0_1]) (t := 46) ?hr ?_; (case hd => rfl); (case hg => rfl); (case hr => first | (go_simp; done) | (go_simp; rfl)); intro aM hg w2 hbox hb; have n0_ := bs_ HB hb; have n1_ := mk_ (hbox); have n2_ := gx_ hg HB; have n3_ := gx_ hg HB; clear HB; have HB := n0_; have aA := n1_; have bQ := n2_; have bR := n3_; clear n0_ n1_ n2_ n3_; clear hb hbox hg))
 go_loopg [3] k (fun kq v3 w' => ∃ (aC : Int), v3 = .int .i64 aC ∧ Aside0 (rillmeterref22_Sound.l0 kq aC a0_0 l0_1 = some r) ∧ Aside0 (kq ≤ k) ∧ Aside0 (w'.heap[aM]? = some (.cells #[.int .i64 a0_0, (.slice A0_1 l0_1.length c0_1)] 46 (0, 0))) ∧ Aside0 (Below w.heap.size w w'))
 case atStart => exact ⟨(0), (by first | rfl | (simp; done) | (simp [*]; done)), H', ⟨Nat.le_refl _⟩, ⟨bk_ aA⟩, ⟨bl_ HB⟩⟩
 case round =>
  clear H'; (try clear c1); (try clear p2); obtain ⟨aC, rfl, HA, HK1, aA, HB⟩ := hrel
  cases gk with
  | zero => exact absurd HA.out (by simp [rillmeterref22_Sound.l0])
  | succ k1 =>
   have H := HA.out; clear HA; simp only [rillmeterref22_Sound.l0] at H
   by_cases c3 : aC < (l0_1.length : Int)
   ·rw [if_pos c3] at H; have bN : decide (aC < (l0_1.length : Int)) = true := decide_eq_true c3; clear c3
    by_cases c4 : 0 ≤ aC
    ·rw [if_pos c4] at H; have bS : decide (0 ≤ aC) = true := decide_eq_true c4; clear c4; replace H := Option.bind_eq_some_iff.mp H; obtain ⟨bF, bG, H⟩ := H; replace H : (if bF = true then ((rillmeterref22_in.f ((rd_T88 l0_1 aC).f1) 0 65535).bind fun aT => (if aT = true then ((rillmeterref22_in.f ((rd_T88 l0_1 aC).f2) 0 4294967295).bind fun aN => (if aN = true then (rillmeterref22_Sound.l0 k1 (wrap64 (aC + 1)) a0_0 l0_1) else (some false))) else (some false))) else (some false)) = some r := H; have A5 := mk_ bG; clear bG
     by_cases c6 : bF = true
     ·subst c6
      have H1 : ((rillmeterref22_in.f ((rd_T88 l0_1 aC).f1) 0 65535).bind fun aT => (if aT = true then ((rillmeterref22_in.f ((rd_T88 l0_1 aC).f2) 0 4294967295).bind fun aN => (if aN = true then (rillmeterref22_Sound.l0 k1 (wrap64 (aC + 1)) a0_0 l0_1) else (some false))) else (some false))) = some r := by rw [if_pos rfl] at H; exact H
      clear H; have H := H1; clear H1; replace H := Option.bind_eq_some_iff.mp H; obtain ⟨aT, bH, H⟩ := H; replace H : (if aT = true then ((rillmeterref22_in.f ((rd_T88 l0_1 aC).f2) 0 4294967295).bind fun aN => (if aN = true then (rillmeterref22_Sound.l0 k1 (wrap64 (aC + 1)) a0_0 l0_1) else (some false))) else (some false)) = some r := H; have A7 := mk_ bH; clear bH
      by_cases c8 : aT = true
      ·subst c8
       have H1 : ((rillmeterref22_in.f ((rd_T88 l0_1 aC).f2) 0 4294967295).bind fun aN => (if aN = true then (rillmeterref22_Sound.l0 k1 (wrap64 (aC + 1)) a0_0 l0_1) else (some false))) = some r := by rw [if_pos rfl] at H; exact H
       clear H; have H := H1; clear H1; replace H := Option.bind_eq_some_iff.mp H; obtain ⟨aN, bI, H⟩ := H; replace H : (if aN = true then (rillmeterref22_Sound.l0 k1 (wrap64 (aC + 1)) a0_0 l0_1) else (some false)) = some r := H; have A9 := mk_ bI; clear bI
       by_cases aW : aN = true
       ·subst aW
        have H1 : (rillmeterref22_Sound.l0 k1 (wrap64 (aC + 1)) a0_0 l0_1) = some r := by rw [if_pos rfl] at H; exact H
        clear H; have H := H1; clear H1; have H' := mk_ H; clear H; have bT : wr.cell? ⟨aM, 0, none⟩ = some (.int .i64 a0_0) := bc_ aA 0; have bU : wr.cell? ⟨aM, 1, none⟩ = some (.slice A0_1 l0_1.length c0_1) := bc_ aA 1; have bV := blk_frozen aA.out 0; have bW := blk_frozen aA.out 1; have aE : 0 ≤ (aC : Int) := of_decide_eq_true (by first | (with_reducible assumption) | assumption); have aG : aC < (l0_1.length : Int) := of_decide_eq_true (by first | (with_reducible assumption) | assumption); obtain ⟨aY, e292, aH, aI, aJ⟩ := at_T88 aV.out aC aE aG
        cases e292; (try replace aH := (HB.out.cell (World.block_lt_of_cell? w _ aH)).trans aH); (try replace aI := (HB.out.cell (World.block_lt_of_cell? w _ aI)).trans aI); (try replace aJ := (HB.out.cell (World.block_lt_of_cell? w _ aJ)).trans aJ); replace aE := eq_true aE; replace aG := eq_true aG
        go_wp2_with (first | ((with_reducible refine gate_dst (N := 4) rfl ?_); (try (refine gate_guard (by rfl) ?_; dsimp only)); refine box_event ?hg (N := 4) ?hd (cs := #[.int .i64 0, .int .i64 0, .int .i64 0]) (t := 88) ?hr ?_; (case hd => rfl); (case hg => rfl); (case hr => first | (go_simp; done) | (go_simp; rfl)); intro aK hg aZ hbox hb; have n0_ := bb_ aA hb; have n1_ := bs_ HB hb; have n2_ := mk_ (hbox); have n3_ := gx_ hg HB; have n4_ := gx_ hg HB; have n5_ := nx_ hg aA; have n6_ := ny_ hg aA; clear aA; clear HB; have aA := n0_; have HB := n1_; have aD := n2_; have bA := n3_; have bB := n4_; have aQ := n5_; have aR := n6_; clear n0_ n1_ n2_ n3_ n4_ n5_ n6_; clear hb hbox hg; have bX := aR.out; have bY := aQ.out; have bZ : aZ.cell? ⟨aK, 0, none⟩ = some (.int .i64 0) := bc_ aD 0; have cA : aZ.cell? ⟨aK, 1, none⟩ = some (.int .i64 0) := bc_ aD 1; have cB : aZ.cell? ⟨aK, 2, none⟩ = some (.int .i64 0) := bc_ aD 2; have cC := blk_frozen aD.out 0; have cD := blk_frozen aD.out 1; have cE := blk_frozen aD.out 2) | ((with_reducible refine gate_callee (f := 37) rfl ?_); refine goesL_ (some 19) rfl rfl Try.func37 (by kernel_rfl) rfl #[.int .i64 ((rd_T88 l0_1 aC).f0), .int .i64 0, .int .i64 32767] rfl (by (try simp only [List.map_toArray, List.map_cons, List.map_nil]); first | done | rfl | (simp only [List.length_drop, List.length_take]; rfl)) ?_; (with_reducible refine (rillmeterref22_in.calls ((rd_T88 l0_1 aC).f0) 0 32767 true _ A5.out).mono ?_); rintro e w' ⟨rfl, ⟨nd, rfl⟩⟩; refine ⟨_, rfl, ?_⟩) | (go_at_call 37; (with_reducible refine (rillmeterref22_in.calls ((rd_T88 l0_1 aC).f1) 0 65535 true _ A7.out).mono ?_); rintro e w' ⟨rfl, ⟨nd, rfl⟩⟩) | (go_at_call 37; (with_reducible refine (rillmeterref22_in.calls ((rd_T88 l0_1 aC).f2) 0 4294967295 true _ A9.out).mono ?_); rintro e w' ⟨rfl, ⟨nd, rfl⟩⟩))
        go_roundg k1
        case measure => have := HK1.out; omega
        case rel => exact ⟨(wrap64 (aC + 1)), (by first | rfl | (simp; done) | (simp [*]; done)), H', ⟨by have := HK1.out; omega⟩, ⟨by (with_reducible repeat (first | refine blk_drewN ?_ _ | refine blk_drew ?_ | refine blk_alloc ?_ _)); refine blk_far ?_ aQ.out _; (with_reducible repeat (first | refine blk_drewN ?_ _ | refine blk_drew ?_ | refine blk_alloc ?_ _)); refine blk_far ?_ aQ.out _; (with_reducible repeat (first | refine blk_drewN ?_ _ | refine blk_drew ?_ | refine blk_alloc ?_ _)); refine blk_far ?_ aQ.out _; (with_reducible repeat (first | refine blk_drewN ?_ _ | refine blk_drew ?_ | refine blk_alloc ?_ _)); exact aA.out⟩, ⟨bl_ HB⟩⟩
       ·replace aW := Bool.eq_false_iff.mpr aW; subst aW
        have H1 : (some false) = some r := by rw [if_neg (show ¬ (false = true) by decide)] at H; exact H
        clear H; have H := H1; clear H1; obtain rfl := Option.some.inj H; have cF : wr.cell? ⟨aM, 0, none⟩ = some (.int .i64 a0_0) := bc_ aA 0; have cG : wr.cell? ⟨aM, 1, none⟩ = some (.slice A0_1 l0_1.length c0_1) := bc_ aA 1; have cH := blk_frozen aA.out 0; have cI := blk_frozen aA.out 1; have aE : 0 ≤ (aC : Int) := of_decide_eq_true (by first | (with_reducible assumption) | assumption); have aG : aC < (l0_1.length : Int) := of_decide_eq_true (by first | (with_reducible assumption) | assumption); obtain ⟨aY, e292, aH, aI, aJ⟩ := at_T88 aV.out aC aE aG
        cases e292; (try replace aH := (HB.out.cell (World.block_lt_of_cell? w _ aH)).trans aH); (try replace aI := (HB.out.cell (World.block_lt_of_cell? w _ aI)).trans aI); (try replace aJ := (HB.out.cell (World.block_lt_of_cell? w _ aJ)).trans aJ); replace aE := eq_true aE; replace aG := eq_true aG
        go_wp2_with (first | ((with_reducible refine gate_dst (N := 4) rfl ?_); (try (refine gate_guard (by rfl) ?_; dsimp only)); refine box_event ?hg (N := 4) ?hd (cs := #[.int .i64 0, .int .i64 0, .int .i64 0]) (t := 88) ?hr ?_; (case hd => rfl); (case hg => rfl); (case hr => first | (go_simp; done) | (go_simp; rfl)); intro aK hg bC hbox hb; have n0_ := bb_ aA hb; have n1_ := bs_ HB hb; have n2_ := mk_ (hbox); have n3_ := gx_ hg HB; have n4_ := gx_ hg HB; have n5_ := nx_ hg aA; have n6_ := ny_ hg aA; clear aA; clear HB; have aA := n0_; have HB := n1_; have aD := n2_; have bA := n3_; have bB := n4_; have aQ := n5_; have aR := n6_; clear n0_ n1_ n2_ n3_ n4_ n5_ n6_; clear hb hbox hg; have cJ := aR.out; have cK := aQ.out; have cL : bC.cell? ⟨aK, 0, none⟩ = some (.int .i64 0) := bc_ aD 0; have cM : bC.cell? ⟨aK, 1, none⟩ = some (.int .i64 0) := bc_ aD 1; have cN : bC.cell? ⟨aK, 2, none⟩ = some (.int .i64 0) := bc_ aD 2; have cO := blk_frozen aD.out 0; have cP := blk_frozen aD.out 1; have cQ := blk_frozen aD.out 2) | ((with_reducible refine gate_callee (f := 37) rfl ?_); refine goesL_ (some 19) rfl rfl Try.func37 (by kernel_rfl) rfl #[.int .i64 ((rd_T88 l0_1 aC).f0), .int .i64 0, .int .i64 32767] rfl (by (try simp only [List.map_toArray, List.map_cons, List.map_nil]); first | done | rfl | (simp only [List.length_drop, List.length_take]; rfl)) ?_; (with_reducible refine (rillmeterref22_in.calls ((rd_T88 l0_1 aC).f0) 0 32767 true _ A5.out).mono ?_); rintro e w' ⟨rfl, ⟨nd, rfl⟩⟩; refine ⟨_, rfl, ?_⟩) | (go_at_call 37; (with_reducible refine (rillmeterref22_in.calls ((rd_T88 l0_1 aC).f1) 0 65535 true _ A7.out).mono ?_); rintro e w' ⟨rfl, ⟨nd, rfl⟩⟩) | (go_at_call 37; (with_reducible refine (rillmeterref22_in.calls ((rd_T88 l0_1 aC).f2) 0 4294967295 false _ A9.out).mono ?_); rintro e w' ⟨rfl, ⟨nd, rfl⟩⟩))
        go_ret; exact ⟨by first | rfl | (simp [errW_none, errW_some] <;> rfl) | (simp [*, errW_none, errW_some] <;> rfl), bl_ HB⟩
      ·replace c8 := Bool.eq_false_iff.mpr c8; subst c8
       have H1 : (some false) = some r := by rw [if_neg (show ¬ (false = true) by decide)] at H; exact H
       clear H; have H := H1; clear H1; obtain rfl := Option.some.inj H; have cR : wr.cell? ⟨aM, 0, none⟩ = some (.int .i64 a0_0) := bc_ aA 0; have cS : wr.cell? ⟨aM, 1, none⟩ = some (.slice A0_1 l0_1.length c0_1) := bc_ aA 1; have cT := blk_frozen aA.out 0; have cU := blk_frozen aA.out 1; have aE : 0 ≤ (aC : Int) := of_decide_eq_true (by first | (with_reducible assumption) | assumption); have aG : aC < (l0_1.length : Int) := of_decide_eq_true (by first | (with_reducible assumption) | assumption); obtain ⟨aY, e292, aH, aI, aJ⟩ := at_T88 aV.out aC aE aG
       cases e292; (try replace aH := (HB.out.cell (World.block_lt_of_cell? w _ aH)).trans aH); (try replace aI := (HB.out.cell (World.block_lt_of_cell? w _ aI)).trans aI); (try replace aJ := (HB.out.cell (World.block_lt_of_cell? w _ aJ)).trans aJ); replace aE := eq_true aE; replace aG := eq_true aG
       go_wp2_with (first | ((with_reducible refine gate_dst (N := 4) rfl ?_); (try (refine gate_guard (by rfl) ?_; dsimp only)); refine box_event ?hg (N := 4) ?hd (cs := #[.int .i64 0, .int .i64 0, .int .i64 0]) (t := 88) ?hr ?_; (case hd => rfl); (case hg => rfl); (case hr => first | (go_simp; done) | (go_simp; rfl)); intro aK hg bD hbox hb; have n0_ := bb_ aA hb; have n1_ := bs_ HB hb; have n2_ := mk_ (hbox); have n3_ := gx_ hg HB; have n4_ := gx_ hg HB; have n5_ := nx_ hg aA; have n6_ := ny_ hg aA; clear aA; clear HB; have aA := n0_; have HB := n1_; have aD := n2_; have bA := n3_; have bB := n4_; have aQ := n5_; have aR := n6_; clear n0_ n1_ n2_ n3_ n4_ n5_ n6_; clear hb hbox hg; have cV := aR.out; have cW := aQ.out; have cX : bD.cell? ⟨aK, 0, none⟩ = some (.int .i64 0) := bc_ aD 0; have cY : bD.cell? ⟨aK, 1, none⟩ = some (.int .i64 0) := bc_ aD 1; have cZ : bD.cell? ⟨aK, 2, none⟩ = some (.int .i64 0) := bc_ aD 2; have dA := blk_frozen aD.out 0; have dB := blk_frozen aD.out 1; have dC := blk_frozen aD.out 2) | ((with_reducible refine gate_callee (f := 37) rfl ?_); refine goesL_ (some 19) rfl rfl Try.func37 (by kernel_rfl) rfl #[.int .i64 ((rd_T88 l0_1 aC).f0), .int .i64 0, .int .i64 32767] rfl (by (try simp only [List.map_toArray, List.map_cons, List.map_nil]); first | done | rfl | (simp only [List.length_drop, List.length_take]; rfl)) ?_; (with_reducible refine (rillmeterref22_in.calls ((rd_T88 l0_1 aC).f0) 0 32767 true _ A5.out).mono ?_); rintro e w' ⟨rfl, ⟨nd, rfl⟩⟩; refine ⟨_, rfl, ?_⟩) | (go_at_call 37; (with_reducible refine (rillmeterref22_in.calls ((rd_T88 l0_1 aC).f1) 0 65535 false _ A7.out).mono ?_); rintro e w' ⟨rfl, ⟨nd, rfl⟩⟩))
       go_ret; exact ⟨by first | rfl | (simp [errW_none, errW_some] <;> rfl) | (simp [*, errW_none, errW_some] <;> rfl), bl_ HB⟩
     ·replace c6 := Bool.eq_false_iff.mpr c6; subst c6
      have H1 : (some false) = some r := by rw [if_neg (show ¬ (false = true) by decide)] at H; exact H
      clear H; have H := H1; clear H1; obtain rfl := Option.some.inj H; have dD : wr.cell? ⟨aM, 0, none⟩ = some (.int .i64 a0_0) := bc_ aA 0; have dE : wr.cell? ⟨aM, 1, none⟩ = some (.slice A0_1 l0_1.length c0_1) := bc_ aA 1; have dF := blk_frozen aA.out 0; have dG := blk_frozen aA.out 1; have aE : 0 ≤ (aC : Int) := of_decide_eq_true (by first | (with_reducible assumption) | assumption); have aG : aC < (l0_1.length : Int) := of_decide_eq_true (by first | (with_reducible assumption) | assumption); obtain ⟨aY, e292, aH, aI, aJ⟩ := at_T88 aV.out aC aE aG
      cases e292; (try replace aH := (HB.out.cell (World.block_lt_of_cell? w _ aH)).trans aH); (try replace aI := (HB.out.cell (World.block_lt_of_cell? w _ aI)).trans aI); (try replace aJ := (HB.out.cell (World.block_lt_of_cell? w _ aJ)).trans aJ); replace aE := eq_true aE; replace aG := eq_true aG
      go_wp2_with (first | ((with_reducible refine gate_dst (N := 4) rfl ?_); (try (refine gate_guard (by rfl) ?_; dsimp only)); refine box_event ?hg (N := 4) ?hd (cs := #[.int .i64 0, .int .i64 0, .int .i64 0]) (t := 88) ?hr ?_; (case hd => rfl); (case hg => rfl); (case hr => first | (go_simp; done) | (go_simp; rfl)); intro aK hg bE hbox hb; have n0_ := bb_ aA hb; have n1_ := bs_ HB hb; have n2_ := mk_ (hbox); have n3_ := gx_ hg HB; have n4_ := gx_ hg HB; have n5_ := nx_ hg aA; have n6_ := ny_ hg aA; clear aA; clear HB; have aA := n0_; have HB := n1_; have aD := n2_; have bA := n3_; have bB := n4_; have aQ := n5_; have aR := n6_; clear n0_ n1_ n2_ n3_ n4_ n5_ n6_; clear hb hbox hg; have dH := aR.out; have dI := aQ.out; have dJ : bE.cell? ⟨aK, 0, none⟩ = some (.int .i64 0) := bc_ aD 0; have dK : bE.cell? ⟨aK, 1, none⟩ = some (.int .i64 0) := bc_ aD 1; have dL : bE.cell? ⟨aK, 2, none⟩ = some (.int .i64 0) := bc_ aD 2; have dM := blk_frozen aD.out 0; have dN := blk_frozen aD.out 1; have dO := blk_frozen aD.out 2) | ((with_reducible refine gate_callee (f := 37) rfl ?_); refine goesL_ (some 19) rfl rfl Try.func37 (by kernel_rfl) rfl #[.int .i64 ((rd_T88 l0_1 aC).f0), .int .i64 0, .int .i64 32767] rfl (by (try simp only [List.map_toArray, List.map_cons, List.map_nil]); first | done | rfl | (simp only [List.length_drop, List.length_take]; rfl)) ?_; (with_reducible refine (rillmeterref22_in.calls ((rd_T88 l0_1 aC).f0) 0 32767 false _ A5.out).mono ?_); rintro e w' ⟨rfl, ⟨nd, rfl⟩⟩; refine ⟨_, rfl, ?_⟩))
      go_ret; exact ⟨by first | rfl | (simp [errW_none, errW_some] <;> rfl) | (simp [*, errW_none, errW_some] <;> rfl), bl_ HB⟩
    ·rw [if_neg c4] at H; exact absurd H (by simp)
   ·rw [if_neg c3] at H; have bN : decide (aC < (l0_1.length : Int)) = false := decide_eq_false c3; clear c3; replace H := Option.bind_eq_some_iff.mp H; obtain ⟨bJ, bK, H⟩ := H; replace H : (if bJ = true then ((rillmeterref22_in.f (l0_1.length : Int) 1 64).bind fun aU => (some aU)) else (some false)) = some r := H; have bL := mk_ bK; clear bK
    by_cases aX : bJ = true
    ·subst aX
     have H1 : ((rillmeterref22_in.f (l0_1.length : Int) 1 64).bind fun aU => (some aU)) = some r := by rw [if_pos rfl] at H; exact H
     clear H; have H := H1; clear H1; replace H := Option.bind_eq_some_iff.mp H; obtain ⟨aU, bM, H⟩ := H; replace H : (some aU) = some r := H; have bO := mk_ bM; clear bM; obtain rfl := Option.some.inj H; have dP : wr.cell? ⟨aM, 0, none⟩ = some (.int .i64 a0_0) := bc_ aA 0; have dQ : wr.cell? ⟨aM, 1, none⟩ = some (.slice A0_1 l0_1.length c0_1) := bc_ aA 1; have dR := blk_frozen aA.out 0; have dS := blk_frozen aA.out 1
     go_wp2_with (first | ((with_reducible refine gate_callee (f := 37) rfl ?_); refine goesL_ (some 35) rfl rfl Try.func37 (by kernel_rfl) rfl #[.int .i64 a0_0, .int .i64 256, .int .i64 65535] rfl (by (try simp only [List.map_toArray, List.map_cons, List.map_nil]); first | done | rfl | (simp only [List.length_drop, List.length_take]; rfl)) ?_; (with_reducible refine (rillmeterref22_in.calls a0_0 256 65535 true _ bL.out).mono ?_); rintro e w' ⟨rfl, ⟨nd, rfl⟩⟩; refine ⟨_, rfl, ?_⟩) | (go_at_call 37; (with_reducible refine (rillmeterref22_in.calls (l0_1.length : Int) 1 64 aU _ bO.out).mono ?_); rintro e w' ⟨rfl, ⟨nd, rfl⟩⟩))
     go_ret; exact ⟨by first | rfl | (simp [errW_none, errW_some] <;> rfl) | (simp [*, errW_none, errW_some] <;> rfl), bl_ HB⟩
    ·replace aX := Bool.eq_false_iff.mpr aX; subst aX
     have H1 : (some false) = some r := by rw [if_neg (show ¬ (false = true) by decide)] at H; exact H
     clear H; have H := H1; clear H1; obtain rfl := Option.some.inj H; have dT : wr.cell? ⟨aM, 0, none⟩ = some (.int .i64 a0_0) := bc_ aA 0; have dU : wr.cell? ⟨aM, 1, none⟩ = some (.slice A0_1 l0_1.length c0_1) := bc_ aA 1; have dV := blk_frozen aA.out 0; have dW := blk_frozen aA.out 1
     go_wp2_with (first | ((with_reducible refine gate_callee (f := 37) rfl ?_); refine goesL_ (some 35) rfl rfl Try.func37 (by kernel_rfl) rfl #[.int .i64 a0_0, .int .i64 256, .int .i64 65535] rfl (by (try simp only [List.map_toArray, List.map_cons, List.map_nil]); first | done | rfl | (simp only [List.length_drop, List.length_take]; rfl)) ?_; (with_reducible refine (rillmeterref22_in.calls a0_0 256 65535 false _ bL.out).mono ?_); rintro e w' ⟨rfl, ⟨nd, rfl⟩⟩; refine ⟨_, rfl, ?_⟩))
     go_ret; exact ⟨by first | rfl | (simp [errW_none, errW_some] <;> rfl) | (simp [*, errW_none, errW_some] <;> rfl), bl_ HB⟩

/-! ### rillmeterref04_power: function 59 -/
def rillmeterref04_power.l0 : Nat → Int → Int → Int → Option (Int)
  | 0, _, _, _ => none
  | k + 1, x0, x3, x4 => if x4 < x0 then (rillmeterref04_power.l0 k x0 (wrap64 (x3 * 256)) (wrap64 (x4 + 1))) else (some x3)
def rillmeterref04_power.f (k : Nat) (a0 : Int) : Option (Int) := rillmeterref04_power.l0 k a0 1 0
theorem rillmeterref04_power.mono_l : ∀ k, (∀ y0 y1 y2, LeO (rillmeterref04_power.l0 k y0 y1 y2) (rillmeterref04_power.l0 (k + 1) y0 y1 y2))
  | 0 => fun _ _ _ r h => by simp [rillmeterref04_power.l0] at h
  | k + 1 => by
    have ih0 := rillmeterref04_power.mono_l k
    · intro y0 y1 y2
      unfold rillmeterref04_power.l0
      repeat' first
      | (with_reducible exact ih0 _ _ _)
      | (with_reducible exact LeO.refl _)
      | (with_reducible exact LeO.none _)
      | (with_reducible refine LeO.ite ?_ ?_)
      | (with_reducible refine LeO.bind ?_ (fun _ => ?_))
      | exact ih0 _ _ _
      | exact LeO.none _
      | refine LeO.ite ?_ ?_
      | refine LeO.bind ?_ (fun _ => ?_)
theorem rillmeterref04_power.mono : ∀ a0 k, LeO (rillmeterref04_power.f k a0) (rillmeterref04_power.f (k + 1) a0) := by
  intro a0 k
  have ih0 := rillmeterref04_power.mono_l k
  unfold rillmeterref04_power.f
  repeat' first
      | (with_reducible exact ih0 _ _ _)
      | (with_reducible exact LeO.refl _)
      | (with_reducible exact LeO.none _)
      | (with_reducible refine LeO.ite ?_ ?_)
      | (with_reducible refine LeO.bind ?_ (fun _ => ?_))
      | exact ih0 _ _ _
      | exact LeO.none _
      | refine LeO.ite ?_ ?_
      | refine LeO.bind ?_ (fun _ => ?_)
set_option maxHeartbeats 80000000 in
set_option maxRecDepth 100000 in
theorem rillmeterref04_power.calls (k : Nat) (a0 : Int) (r : Int) (w : World) (h : rillmeterref04_power.f k a0 = some r) :
    Calls Try.prog 59 #[.int .i64 a0] w fun e w' => e = .returned (.int .i64 r) ∧ Drawn0 w w' := by
 have H : (rillmeterref04_power.l0 k a0 1 0) = some r := h; clear h; have H' := mk_ H; clear H
 go_enter Try.func59, Try.ntmps59
 go_wp2
 go_loopg [3, 4] k (fun kq v3 v4 w' => ∃ (aC : Int) (aA : Int), v3 = .int .i64 aC ∧ v4 = .int .i64 aA ∧ Aside0 (rillmeterref04_power.l0 kq a0 aC aA = some r) ∧ Aside0 (kq ≤ k) ∧ Drawn0 w w')
 case atStart => exact ⟨(1), (0), (by first | rfl | (simp; done) | (simp [*]; done)), (by first | rfl | (simp; done) | (simp [*]; done)), H', ⟨Nat.le_refl _⟩, by repeat (first | exact Drawn0.refl _ | apply Drawn0.step)⟩
 case round =>
  clear H'; obtain ⟨aC, aA, rfl, rfl, HA, HK1, ⟨m1, rfl⟩⟩ := hrel
  cases gk with
  | zero => exact absurd HA.out (by simp [rillmeterref04_power.l0])
  | succ k1 =>
   have H := HA.out; clear HA; simp only [rillmeterref04_power.l0] at H
   by_cases c2 : aA < a0
   ·rw [if_pos c2] at H; have aD : decide (aA < a0) = true := decide_eq_true c2; clear c2; have H' := mk_ H; clear H
    go_wp2
    go_roundg k1
    case measure => have := HK1.out; omega
    case rel => exact ⟨(wrap64 (aC * 256)), (wrap64 (aA + 1)), (by first | rfl | (simp; done) | (simp [*]; done)), (by first | rfl | (simp; done) | (simp [*]; done)), H', ⟨by have := HK1.out; omega⟩, by repeat (first | exact Drawn0.refl _ | apply Drawn0.step)⟩
   ·rw [if_neg c2] at H; have aD : decide (aA < a0) = false := decide_eq_false c2; clear c2; obtain rfl := Option.some.inj H
    go_wp2
    go_ret; exact ⟨by first | rfl | (simp; done) | (simp [*]; done), by repeat (first | exact Drawn0.refl _ | apply Drawn0.step)⟩

/-! ### rillmeterref04_Put: function 52 -/
mutual
def rillmeterref04_Put.j0 : Nat → Int → Int → Bool → Option (ByteArray × Bool)
  | 0, _, _, _ => none
  | k + 1, x0, x1, x23 => if x23 = true then (some ((⟨#[]⟩ : ByteArray), false)) else (rillmeterref04_Put.l0 k x0 x1 (⟨#[]⟩ : ByteArray) 0)
def rillmeterref04_Put.l0 : Nat → Int → Int → ByteArray → Int → Option (ByteArray × Bool)
  | 0, _, _, _, _ => none
  | k + 1, x0, x1, x6, x7 => if x7 < x1 then ((some (([(Int.tmod x0 256) % 256] : List Int) : List Int)).bind fun y298 => (if (strOfNums y298).size + x6.size ≤ 9223372036854775807 then (rillmeterref04_Put.l0 k (wrap64 (Int.tdiv x0 256)) x1 ((strOfNums y298) ++ x6) (wrap64 (x7 + 1))) else (none))) else (some (x6, true))
end
def rillmeterref04_Put.f (k : Nat) (a0 : Int) (a1 : Int) : Option (ByteArray × Bool) := if a1 < 1 then (rillmeterref04_Put.j0 k a0 a1 true) else (if a1 > 7 then (rillmeterref04_Put.j0 k a0 a1 true) else (if a0 < 0 then (rillmeterref04_Put.j0 k a0 a1 true) else ((rillmeterref04_power.f k a1).bind fun t297 => (rillmeterref04_Put.j0 k a0 a1 (decide (a0 ≥ t297))))))
theorem rillmeterref04_Put.mono_l : ∀ k, (∀ y0 y1 y2, LeO (rillmeterref04_Put.j0 k y0 y1 y2) (rillmeterref04_Put.j0 (k + 1) y0 y1 y2)) ∧ (∀ y0 y1 y2 y3, LeO (rillmeterref04_Put.l0 k y0 y1 y2 y3) (rillmeterref04_Put.l0 (k + 1) y0 y1 y2 y3))
  | 0 => ⟨fun _ _ _ r h => by simp [rillmeterref04_Put.j0] at h, fun _ _ _ _ r h => by simp [rillmeterref04_Put.l0] at h⟩
  | k + 1 => by
    obtain ⟨ih0, ih1⟩ := rillmeterref04_Put.mono_l k
    refine ⟨?_, ?_⟩
    · intro y0 y1 y2
      unfold rillmeterref04_Put.j0
      repeat' first
      | (with_reducible exact ih0 _ _ _)
      | (with_reducible exact ih1 _ _ _ _)
      | (with_reducible exact rillmeterref04_power.mono _ _)
      | (with_reducible exact LeO.refl _)
      | (with_reducible exact LeO.none _)
      | (with_reducible refine LeO.ite ?_ ?_)
      | (with_reducible refine LeO.bind ?_ (fun _ => ?_))
      | exact ih0 _ _ _
      | exact ih1 _ _ _ _
      | exact rillmeterref04_power.mono _ _
      | exact LeO.none _
      | refine LeO.ite ?_ ?_
      | refine LeO.bind ?_ (fun _ => ?_)
    · intro y0 y1 y2 y3
      unfold rillmeterref04_Put.l0
      repeat' first
      | (with_reducible exact ih0 _ _ _)
      | (with_reducible exact ih1 _ _ _ _)
      | (with_reducible exact rillmeterref04_power.mono _ _)
      | (with_reducible exact LeO.refl _)
      | (with_reducible exact LeO.none _)
      | (with_reducible refine LeO.ite ?_ ?_)
      | (with_reducible refine LeO.bind ?_ (fun _ => ?_))
      | exact ih0 _ _ _
      | exact ih1 _ _ _ _
      | exact rillmeterref04_power.mono _ _
      | exact LeO.none _
      | refine LeO.ite ?_ ?_
      | refine LeO.bind ?_ (fun _ => ?_)
theorem rillmeterref04_Put.mono : ∀ a0 a1 k, LeO (rillmeterref04_Put.f k a0 a1) (rillmeterref04_Put.f (k + 1) a0 a1) := by
  intro a0 a1 k
  obtain ⟨ih0, ih1⟩ := rillmeterref04_Put.mono_l k
  unfold rillmeterref04_Put.f
  repeat' first
      | (with_reducible exact ih0 _ _ _)
      | (with_reducible exact ih1 _ _ _ _)
      | (with_reducible exact rillmeterref04_power.mono _ _)
      | (with_reducible exact LeO.refl _)
      | (with_reducible exact LeO.none _)
      | (with_reducible refine LeO.ite ?_ ?_)
      | (with_reducible refine LeO.bind ?_ (fun _ => ?_))
      | exact ih0 _ _ _
      | exact ih1 _ _ _ _
      | exact rillmeterref04_power.mono _ _
      | exact LeO.none _
      | refine LeO.ite ?_ ?_
      | refine LeO.bind ?_ (fun _ => ?_)
set_option maxHeartbeats 80000000 in
set_option maxRecDepth 100000 in
theorem rillmeterref04_Put.calls (k : Nat) (a0 : Int) (a1 : Int) (r1 : ByteArray) (r2 : Bool) (w : World) (h : rillmeterref04_Put.f k a0 a1 = some (r1, r2)) :
    Calls Try.prog 52 #[.int .i64 a0, .int .i64 a1] w fun e w' => e = .returned (.tuple #[.string r1, .bool r2]) ∧ Below w.heap.size w w' := by
 have HB := mk_ (Below.refl w.heap.size w); have H : (if a1 < 1 then (rillmeterref04_Put.j0 k a0 a1 true) else (if a1 > 7 then (rillmeterref04_Put.j0 k a0 a1 true) else (if a0 < 0 then (rillmeterref04_Put.j0 k a0 a1 true) else ((rillmeterref04_power.f k a1).bind fun aG => (rillmeterref04_Put.j0 k a0 a1 (decide (a0 ≥ aG))))))) = some (r1, r2) := h; clear h; have HC3 := mk_ H; clear H
 go_enter Try.func52, Try.ntmps52
 go_upto_region 1 with (fail)
 go_cut [23] (fun aR wc => ∃ (kq : Nat) (aI : Bool), aR = .bool aI ∧ Aside0 (rillmeterref04_Put.j0 kq a0 a1 aI = some (r1, r2)) ∧ Aside0 (kq ≤ k) ∧ Aside0 (Below w.heap.size w wc))
 case first =>
  have H := HC3.out; clear HC3
  by_cases c4 : a1 < 1
  ·rw [if_pos c4] at H; have aE : decide (a1 < 1) = true := decide_eq_true c4; clear c4
   (first | rw [aE] | (simp only [i64_w, i32_w]; rw [aE]) | skip)
   have H' := mk_ H; clear H
   go_wp2
   go_meet
   case rel => exact ⟨_, (true), (by first | rfl | (simp; done) | (simp [*]; done)), H', ⟨by first | omega | exact Nat.le_refl _⟩, ⟨bl_ HB⟩⟩
  ·rw [if_neg c4] at H; have aE : decide (a1 < 1) = false := decide_eq_false c4; clear c4
   (first | rw [aE] | (simp only [i64_w, i32_w]; rw [aE]) | skip)
   by_cases c5 : a1 > 7
   ·rw [if_pos c5] at H; have aJ : decide (7 < a1) = true := decide_eq_true c5; clear c5; have H' := mk_ H; clear H
    go_wp2
    go_meet
    case rel => exact ⟨_, (true), (by first | rfl | (simp; done) | (simp [*]; done)), H', ⟨by first | omega | exact Nat.le_refl _⟩, ⟨bl_ HB⟩⟩
   ·rw [if_neg c5] at H; have aJ : decide (7 < a1) = false := decide_eq_false c5; clear c5
    by_cases c6 : a0 < 0
    ·rw [if_pos c6] at H; have aK : decide (a0 < 0) = true := decide_eq_true c6; clear c6; have H' := mk_ H; clear H
     go_wp2
     go_meet
     case rel => exact ⟨_, (true), (by first | rfl | (simp; done) | (simp [*]; done)), H', ⟨by first | omega | exact Nat.le_refl _⟩, ⟨bl_ HB⟩⟩
    ·rw [if_neg c6] at H; have aK : decide (a0 < 0) = false := decide_eq_false c6; clear c6; replace H := Option.bind_eq_some_iff.mp H; obtain ⟨aG, aN, H⟩ := H; replace H : (rillmeterref04_Put.j0 k a0 a1 (decide (a0 ≥ aG))) = some (r1, r2) := H; have A7 := mk_ aN; clear aN; have H' := mk_ H; clear H
     go_wp2_with (first | (go_at_call 59; (with_reducible refine (rillmeterref04_power.calls k a1 aG _ A7.out).mono ?_); rintro e w' ⟨rfl, ⟨nd, rfl⟩⟩))
     go_meet
     case rel => exact ⟨_, (decide (a0 ≥ aG)), (by first | rfl | (simp; done) | (simp [*]; done)), H', ⟨by first | omega | exact Nat.le_refl _⟩, ⟨bl_ HB⟩⟩
 case rest =>
  clear HC3; (try clear p2); (try clear c4); (try clear aE); (try clear c5); (try clear aJ); (try clear c6); (try clear aK); obtain ⟨kq, aI, rfl, HA, HJ2, HB⟩ := hcut
  cases kq with
  | zero => exact absurd HA.out (by simp [rillmeterref04_Put.j0])
  | succ aM =>
   have H := HA.out; clear HA; simp only [rillmeterref04_Put.j0] at H
   by_cases c8 : aI = true
   ·subst c8
    have H1 : (some ((⟨#[]⟩ : ByteArray), false)) = some (r1, r2) := by rw [if_pos rfl] at H; exact H
    clear H; have H := H1; clear H1; simp only [Option.some.injEq, Prod.mk.injEq] at H; obtain ⟨rfl, rfl⟩ := H
    go_wp2
    go_ret2
    exact ⟨by first | rfl | (simp [errW_none, errW_some] <;> rfl) | (simp [*, errW_none, errW_some] <;> rfl), bl_ HB⟩
   ·replace c8 := Bool.eq_false_iff.mpr c8; subst c8
    have H1 : (rillmeterref04_Put.l0 aM a0 a1 (⟨#[]⟩ : ByteArray) 0) = some (r1, r2) := by rw [if_neg (show ¬ (false = true) by decide)] at H; exact H
    clear H; have H := H1; clear H1; have H' := mk_ H; clear H
    go_wp2
    go_loopg [0, 6, 7] aM (fun kq v0 v6 v7 w' => ∃ (aA : Int) (aC : ByteArray) (aD : Int), v0 = .int .i64 aA ∧ v6 = .string aC ∧ v7 = .int .i64 aD ∧ Aside0 (rillmeterref04_Put.l0 kq aA a1 aC aD = some (r1, r2)) ∧ Aside0 (kq ≤ aM) ∧ Aside0 (Below w.heap.size w w'))
    case atStart => exact ⟨(a0), ((⟨#[]⟩ : ByteArray)), (0), (by first | rfl | (simp; done) | (simp [*]; done)), (by first | rfl | (simp; done) | (simp [*]; done)), (by first | rfl | (simp; done) | (simp [*]; done)), H', ⟨Nat.le_refl _⟩, ⟨bl_ HB⟩⟩
    case round =>
     clear H'; (try clear p2); (try clear c4); (try clear aE); (try clear c5); (try clear aJ); (try clear c6); (try clear aK); (try clear c8); (try clear p2); obtain ⟨aA, aC, aD, rfl, rfl, rfl, HA, HK2, HB⟩ := hrel
     cases gk with
     | zero => exact absurd HA.out (by simp [rillmeterref04_Put.l0])
     | succ k2 =>
      have H := HA.out; clear HA; simp only [rillmeterref04_Put.l0] at H
      by_cases c9 : aD < a1
      ·rw [if_pos c9] at H; have aT : decide (aD < a1) = true := decide_eq_true c9; clear c9; obtain ⟨y298, hy298⟩ : ∃ y_ : List Int, y_ = (([(Int.tmod aA 256) % 256] : List Int)) := ⟨_, rfl⟩
       replace H : (if (strOfNums y298).size + aC.size ≤ 9223372036854775807 then (rillmeterref04_Put.l0 k2 (wrap64 (Int.tdiv aA 256)) a1 ((strOfNums y298) ++ aC) (wrap64 (aD + 1))) else (none)) = some (r1, r2) := by first | (rw [hy298]; with_reducible exact H) | (have H2_ := (Option.bind_some _ _).symm.trans H; rw [hy298]; with_reducible exact H2_) | (have H2_ := (Option.bind_some _ _).symm.trans H; with_reducible exact H2_) | with_reducible exact H | (rw [hy298]; exact H) | exact H
       have aQ := mk_ hy298; clear hy298
       by_cases aH : (strOfNums y298).size + aC.size ≤ 9223372036854775807
       ·rw [if_pos aH] at H; have aV := eq_true aH; have aW : decide ((strOfNums y298).size + aC.size ≤ 9223372036854775807) = true := decide_eq_true aH
        try have aX : (9223372036854775807 < (strOfNums y298).size + aC.size) = False := eq_false (Nat.not_lt.2 aH)
        have H' := mk_ H; clear H
        go_wp2_with (first | ((with_reducible refine gate_dst (N := 32) rfl ?_); refine Kd.R_lit (Kd.int .u8) _ 5 ?hg (N := 32) ?hd (xs := ([(Int.tmod aA 256) % 256] : List Int)) (inner := [.int .u8 ((Int.tmod aA 256) % 256)]) (ok := fun _ => True) (okp := fun _ => True) ?hr ?hp (fun _ hk => hk) trivial (Below.refl _ _) (Nat.le_refl _) (by simp) ?_; (case hd => rfl); (case hg => rfl); (case hr => first | (go_simp; done) | (go_simp; rfl)); (case hp => exact (Reps.one (show Kd.M (Kd.int .u8) _ _ _ ((Int.tmod aA 256) % 256) [.int .u8 ((Int.tmod aA 256) % 256)] from rfl) (Reps.none _ _))); intro aY aZ ho12 hb hg_ hnew_; clear hg_ hnew_; (first | rw [← aQ.out] at ho12 | (simp only [Int.reduceToNat] at ho12; rw [← aQ.out] at ho12)); have n0_ := mk_ (Kd.R_lower ho12 (below_size (bl_ HB))); have n1_ := bs_ HB hb; clear HB; have aU := n0_; have HB := n1_; clear n0_ n1_; clear hb ho12; have hcv13 := own_string (P := Try.prog) Try.underlying26 Try.underlying5 Try.underlying9 (Kd.own_of_R aU.out)))
        go_roundg k2
        case measure => have := HJ2.out; have := HK2.out; omega
        case rel => exact ⟨(wrap64 (Int.tdiv aA 256)), ((strOfNums y298) ++ aC), (wrap64 (aD + 1)), (by first | rfl | (simp; done) | (simp [*]; done)), (by first | rfl | (simp; done) | (simp [*]; done)), (by first | rfl | (simp; done) | (simp [*]; done)), H', ⟨by have := HJ2.out; have := HK2.out; omega⟩, ⟨bl_ HB⟩⟩
       ·rw [if_neg aH] at H; exact absurd H (by simp)
      ·rw [if_neg c9] at H; have aT : decide (aD < a1) = false := decide_eq_false c9; clear c9; simp only [Option.some.injEq, Prod.mk.injEq] at H; obtain ⟨rfl, rfl⟩ := H
       go_wp2
       go_ret2
       exact ⟨by first | rfl | (simp [errW_none, errW_some] <;> rfl) | (simp [*, errW_none, errW_some] <;> rfl), bl_ HB⟩

/-! ### rillmeterref22_num: function 38 -/
def rillmeterref22_num.f (k : Nat) (a0 : Int) (a1 : Int) : Option (ByteArray) := (rillmeterref04_Put.f k a0 a1).bind fun bt301 => (some bt301.1)
theorem rillmeterref22_num.mono : ∀ a0 a1 k, LeO (rillmeterref22_num.f k a0 a1) (rillmeterref22_num.f (k + 1) a0 a1) := by
  intro a0 a1 k
  unfold rillmeterref22_num.f
  repeat' first
      | (with_reducible exact rillmeterref04_Put.mono _ _ _)
      | (with_reducible exact LeO.refl _)
      | (with_reducible exact LeO.none _)
      | (with_reducible refine LeO.ite ?_ ?_)
      | (with_reducible refine LeO.bind ?_ (fun _ => ?_))
      | exact rillmeterref04_Put.mono _ _ _
      | exact LeO.none _
      | refine LeO.ite ?_ ?_
      | refine LeO.bind ?_ (fun _ => ?_)
set_option maxHeartbeats 80000000 in
set_option maxRecDepth 100000 in
theorem rillmeterref22_num.calls (k : Nat) (a0 : Int) (a1 : Int) (r : ByteArray) (w : World) (h : rillmeterref22_num.f k a0 a1 = some r) :
    Calls Try.prog 38 #[.int .i64 a0, .int .i64 a1] w fun e w' => e = .returned (.string r) ∧ Below w.heap.size w w' := by
 have HB := mk_ (Below.refl w.heap.size w); have H : ((rillmeterref04_Put.f k a0 a1).bind fun bt301 => (some bt301.1)) = some r := h; clear h; replace H := Option.bind_eq_some_iff.mp H; obtain ⟨⟨aA, aD⟩, aC, H⟩ := H; replace H : (some aA) = some r := H; have A3 := mk_ aC; clear aC; obtain rfl := Option.some.inj H
 go_enter Try.func38, Try.ntmps38
 go_wp2_with (first | ((with_reducible refine gate_callee (f := 52) rfl ?_); refine goesL_ (some 10) rfl rfl Try.func52 (by kernel_rfl) rfl #[.int .i64 a0, .int .i64 a1] rfl (by (try simp only [List.map_toArray, List.map_cons, List.map_nil]); first | done | rfl | (simp only [List.length_drop, List.length_take]; rfl)) ?_; (with_reducible refine (rillmeterref04_Put.calls k a0 a1 aA aD _ A3.out).mono ?_); rintro e w4 ⟨rfl, hb⟩; refine ⟨_, rfl, ?_⟩; have n0_ := bs_ HB hb; clear HB; have HB := n0_; clear n0_; (try clear hb); (try clear hb2); (try clear hk); (try clear hi)))
 go_ret; exact ⟨by first | rfl | (simp [errW_none, errW_some] <;> rfl) | (simp [*, errW_none, errW_some] <;> rfl), bl_ HB⟩

end Go.Proofs.Ytojmpdjbhplgkaa.PIpfixRecords
