/- The functions that a law uses, each as a plain function, with the proof that a call of the Go function comes to its answer. Condition of each: the arguments read as the data that it names, and the plain function has an answer. Written by a program of this session (standin.py). -/
import Derived.Test.YtojmpdjbhplgkaaPIpfixTakesx0
import Derived.Test.YtojmpdjbhplgkaaShort
import Derived.Lib.SliceRun
import Derived.Test.YtojmpdjbhplgkaaPressMore
namespace Go.Proofs.Ytojmpdjbhplgkaa.PIpfixTakes
open Go.RowKit Go.Proofs.YtojmpdjbhplgkaaW.PrintWords Go.Proofs.YtojmpdjbhplgkaaW.PrintLast Go.Proofs.YtojmpdjbhplgkaaW.PrintMore Go.Proofs.Ytojmpdjbhplgkaa.Short Go.Proofs.Ytojmpdjbhplgkaa.Press Go.Proofs.Ytojmpdjbhplgkaa.PressMore
attribute [local go_sem] max2_int min2_int max_two min_two max_three min_three max_four min_four   -- for this text's walks alone
set_option linter.unusedVariables false
set_option linter.unusedSimpArgs false

/-! ### rillmeterref22_in: function 37 -/
def rillmeterref22_in.f (a0 : Int) (a1 : Int) (a2 : Int) : Option (Bool) := if a0 ≥ a1 then (some (decide (a0 ≤ a2))) else (some false)
set_option maxHeartbeats 80000000 in
set_option maxRecDepth 100000 in
theorem rillmeterref22_in.calls (a0 : Int) (a1 : Int) (a2 : Int) (r : Bool) (w : World) (h : rillmeterref22_in.f a0 a1 a2 = some r) :
    Calls Try.prog 37 #[.int .i64 a0, .int .i64 a1, .int .i64 a2] w fun e w' => e = .returned (.bool r) ∧ Drawn0 w w' := by
 have H : (if a0 ≥ a1 then (some (decide (a0 ≤ a2))) else (some false)) = some r := h; clear h
 by_cases c4 : a0 ≥ a1
 ·rw [if_pos c4] at H; have aA : decide (a1 ≤ a0) = true := decide_eq_true c4; clear c4; obtain rfl := Option.some.inj H
  go_enter Try.func37, Try.ntmps37
  go_wp2
  go_ret; exact ⟨by first | rfl | (simp; done) | (simp [*]; done), by repeat (first | exact Drawn0.refl _ | apply Drawn0.step)⟩
 ·rw [if_neg c4] at H; have aA : decide (a1 ≤ a0) = false := decide_eq_false c4; clear c4; obtain rfl := Option.some.inj H
  go_enter Try.func37, Try.ntmps37
  go_wp2
  go_ret; exact ⟨by first | rfl | (simp; done) | (simp [*]; done), by repeat (first | exact Drawn0.refl _ | apply Drawn0.step)⟩

/-! ### rillmeterref22_Sound: function 16 -/
def rillmeterref22_Sound.l0 : Nat → Int → Int → List (S88) → Option (Bool)
  | 0, _, _, _ => none
  | k + 1, x3, x363000, x363001 => if x3 < (x363001.length : Int) then (if 0 ≤ x3 then ((rillmeterref22_in.f ((rd_T88 x363001 x3).f0) 0 32767).bind fun t367 => (if t367 = true then ((rillmeterref22_in.f ((rd_T88 x363001 x3).f1) 0 65535).bind fun t368 => (if t368 = true then ((rillmeterref22_in.f ((rd_T88 x363001 x3).f2) 0 4294967295).bind fun t369 => (if t369 = true then (rillmeterref22_Sound.l0 k (wrap64 (x3 + 1)) x363000 x363001) else (some false))) else (some false))) else (some false))) else (none)) else ((rillmeterref22_in.f x363000 256 65535).bind fun t363 => (if t363 = true then ((rillmeterref22_in.f (x363001.length : Int) 1 64).bind fun t364 => (some t364)) else (some false)))
def rillmeterref22_Sound.f (k : Nat) (a0_0 : Int) (l0_1 : List (S88)) : Option (Bool) := rillmeterref22_Sound.l0 k 0 a0_0 l0_1
theorem rillmeterref22_Sound.mono_l : ∀ k, (∀ y0 y1 y2, LeO (rillmeterref22_Sound.l0 k y0 y1 y2) (rillmeterref22_Sound.l0 (k + 1) y0 y1 y2))
  | 0 => fun _ _ _ r h => by simp [rillmeterref22_Sound.l0] at h
  | k + 1 => by
    have ih0 := rillmeterref22_Sound.mono_l k
    · intro y0 y1 y2
      unfold rillmeterref22_Sound.l0
      repeat' first
      | (with_reducible exact ih0 _ _ _)
      | (with_reducible exact LeO.refl _)
      | (with_reducible exact LeO.none _)
      | (with_reducible refine LeO.ite ?_ ?_)
      | (with_reducible refine LeO.bind ?_ (fun _ => ?_))
      | exact ih0 _ _ _
      | exact LeO.none _
      | refine LeO.ite ?_ ?_
      | refine LeO.bind ?_ (fun _ => ?_)
theorem rillmeterref22_Sound.mono : ∀ a0 a1 k, LeO (rillmeterref22_Sound.f k a0 a1) (rillmeterref22_Sound.f (k + 1) a0 a1) := by
  intro a0 a1 k
  have ih0 := rillmeterref22_Sound.mono_l k
  unfold rillmeterref22_Sound.f
  repeat' first
      | (with_reducible exact ih0 _ _ _)
      | (with_reducible exact LeO.refl _)
      | (with_reducible exact LeO.none _)
      | (with_reducible refine LeO.ite ?_ ?_)
      | (with_reducible refine LeO.bind ?_ (fun _ => ?_))
      | exact ih0 _ _ _
      | exact LeO.none _
      | refine LeO.ite ?_ ?_
      | refine LeO.bind ?_ (fun _ => ?_)
set_option maxHeartbeats 80000000 in
set_option maxRecDepth 100000 in
theorem rillmeterref22_Sound.calls (k : Nat) (a0_0 : Int) (A0_1 : Option Addr) (c0_1 : Nat) (l0_1 : List (S88)) (r : Bool) (w : World) (hr0_1 : Kd.C k88 w A0_1 l0_1.length l0_1) (hc0_1 : l0_1.length ≤ c0_1) (h : rillmeterref22_Sound.f k a0_0 l0_1 = some r) :
    Calls Try.prog 16 #[.agg #[.int .i64 a0_0, .slice A0_1 l0_1.length c0_1]] w fun e w' => e = .returned (.bool r) ∧ Below w.heap.size w w' := by
 have hu46 := Try.underlying46; have hu88 := Try.underlying88; have aP := mk_ hr0_1; have bJ := mk_ hc0_1; clear hr0_1 hc0_1; have HB := mk_ (Below.refl w.heap.size w); have H : (rillmeterref22_Sound.l0 k 0 a0_0 l0_1) = some r := h; clear h; have H' := mk_ H; clear H
 go_enter Try.func16, Try.ntmps16
 go_wp2_with (first | ((with_reducible refine gate_dst (N := 1) rfl ?_); (try (refine gate_guard (by rfl) ?_; dsimp only)); refine box_event ?hg (N := 1) ?hd (cs := #[.int .i64 a0_0, .slice A0_1 l0_1.length c0_1]) (t := 46) ?hr ?_; (case hd => rfl); (case hg => rfl); (case hr => first | (go_simp; done) | (go_simp; rfl)); intro aJ hg w2 hbox hb; have n0_ := bs_ HB hb; have n1_ := mk_ (hbox); have n2_ := gx_ hg HB; have n3_ := gx_ hg HB; clear HB; have HB := n0_; have aA := n1_; have bK := n2_; have bL := n3_; clear n0_ n1_ n2_ n3_; clear hb hbox hg))
 go_loopg [3] k (fun kq v3 w' => ∃ (aB : Int), v3 = .int .i64 aB ∧ Aside0 (rillmeterref22_Sound.l0 kq aB a0_0 l0_1 = some r) ∧ Aside0 (kq ≤ k) ∧ Aside0 (w'.heap[aJ]? = some (.cells #[.int .i64 a0_0, (.slice A0_1 l0_1.length c0_1)] 46 (0, 0))) ∧ Aside0 (Below w.heap.size w w'))
 case atStart => exact ⟨(0), (by first | rfl | (simp; done) | (simp [*]; done)), H', ⟨Nat.le_refl _⟩, ⟨bk_ aA⟩, ⟨bl_ HB⟩⟩
 case round =>
  clear H'; (try clear c1); (try clear p2); obtain ⟨aB, rfl, HA, HK1, aA, HB⟩ := hrel
  cases gk with
  | zero => exact absurd HA.out (by simp [rillmeterref22_Sound.l0])
  | succ k1 =>
   have H := HA.out; clear HA; simp only [rillmeterref22_Sound.l0] at H
   by_cases c3 : aB < (l0_1.length : Int)
   ·rw [if_pos c3] at H; have bH : decide (aB < (l0_1.length : Int)) = true := decide_eq_true c3; clear c3
    by_cases c4 : 0 ≤ aB
    ·rw [if_pos c4] at H; have bM : decide (0 ≤ aB) = true := decide_eq_true c4; clear c4; replace H := Option.bind_eq_some_iff.mp H; obtain ⟨aZ, bA, H⟩ := H; replace H : (if aZ = true then ((rillmeterref22_in.f ((rd_T88 l0_1 aB).f1) 0 65535).bind fun aN => (if aN = true then ((rillmeterref22_in.f ((rd_T88 l0_1 aB).f2) 0 4294967295).bind fun aK => (if aK = true then (rillmeterref22_Sound.l0 k1 (wrap64 (aB + 1)) a0_0 l0_1) else (some false))) else (some false))) else (some false)) = some r := H; have A5 := mk_ bA; clear bA
     by_cases c6 : aZ = true
     ·subst c6
      have H1 : ((rillmeterref22_in.f ((rd_T88 l0_1 aB).f1) 0 65535).bind fun aN => (if aN = true then ((rillmeterref22_in.f ((rd_T88 l0_1 aB).f2) 0 4294967295).bind fun aK => (if aK = true then (rillmeterref22_Sound.l0 k1 (wrap64 (aB + 1)) a0_0 l0_1) else (some false))) else (some false))) = some r := by rw [if_pos rfl] at H; exact H
      clear H; have H := H1; clear H1; replace H := Option.bind_eq_some_iff.mp H; obtain ⟨aN, bB, H⟩ := H; replace H : (if aN = true then ((rillmeterref22_in.f ((rd_T88 l0_1 aB).f2) 0 4294967295).bind fun aK => (if aK = true then (rillmeterref22_Sound.l0 k1 (wrap64 (aB + 1)) a0_0 l0_1) else (some false))) else (some false)) = some r := H; have A7 := mk_ bB; clear bB
      by_cases c8 : aN = true
      ·subst c8
       have H1 : ((rillmeterref22_in.f ((rd_T88 l0_1 aB).f2) 0 4294967295).bind fun aK => (if aK = true then (rillmeterref22_Sound.l0 k1 (wrap64 (aB + 1)) a0_0 l0_1) else (some false))) = some r := by rw [if_pos rfl] at H; exact H
       clear H; have H := H1; clear H1; replace H := Option.bind_eq_some_iff.mp H; obtain ⟨aK, bC, H⟩ := H; replace H : (if aK = true then (rillmeterref22_Sound.l0 k1 (wrap64 (aB + 1)) a0_0 l0_1) else (some false)) = some r := H; have A9 := mk_ bC; clear bC
       by_cases aQ : aK = true
       ·subst aQ
        have H1 : (rillmeterref22_Sound.l0 k1 (wrap64 (aB + 1)) a0_0 l0_1) = some r := by rw [if_pos rfl] at H; exact H
        clear H; have H := H1; clear H1; have H' := mk_ H; clear H; have bN : wr.cell? ⟨aJ, 0, none⟩ = some (.int .i64 a0_0) := bc_ aA 0; have bO : wr.cell? ⟨aJ, 1, none⟩ = some (.slice A0_1 l0_1.length c0_1) := bc_ aA 1; have bP := blk_frozen aA.out 0; have bQ := blk_frozen aA.out 1; have aD : 0 ≤ (aB : Int) := of_decide_eq_true (by first | (with_reducible assumption) | assumption); have aE : aB < (l0_1.length : Int) := of_decide_eq_true (by first | (with_reducible assumption) | assumption); obtain ⟨aS, e365, aF, aG, aH⟩ := at_T88 aP.out aB aD aE
        cases e365; (try replace aF := (HB.out.cell (World.block_lt_of_cell? w _ aF)).trans aF); (try replace aG := (HB.out.cell (World.block_lt_of_cell? w _ aG)).trans aG); (try replace aH := (HB.out.cell (World.block_lt_of_cell? w _ aH)).trans aH); replace aD := eq_true aD; replace aE := eq_true aE
        go_wp2_with (first | ((with_reducible refine gate_dst (N := 4) rfl ?_); (try (refine gate_guard (by rfl) ?_; dsimp only)); refine box_event ?hg (N := 4) ?hd (cs := #[.int .i64 0, .int .i64 0, .int .i64 0]) (t := 88) ?hr ?_; (case hd => rfl); (case hg => rfl); (case hr => first | (go_simp; done) | (go_simp; rfl)); intro aI hg aT hbox hb; have n0_ := bb_ aA hb; have n1_ := bs_ HB hb; have n2_ := mk_ (hbox); have n3_ := gx_ hg HB; have n4_ := gx_ hg HB; have n5_ := nx_ hg aA; have n6_ := ny_ hg aA; clear aA; clear HB; have aA := n0_; have HB := n1_; have aC := n2_; have aU := n3_; have aV := n4_; have aL := n5_; have aM := n6_; clear n0_ n1_ n2_ n3_ n4_ n5_ n6_; clear hb hbox hg; have bR := aM.out; have bS := aL.out; have bT : aT.cell? ⟨aI, 0, none⟩ = some (.int .i64 0) := bc_ aC 0; have bU : aT.cell? ⟨aI, 1, none⟩ = some (.int .i64 0) := bc_ aC 1; have bV : aT.cell? ⟨aI, 2, none⟩ = some (.int .i64 0) := bc_ aC 2; have bW := blk_frozen aC.out 0; have bX := blk_frozen aC.out 1; have bY := blk_frozen aC.out 2) | ((with_reducible refine gate_callee (f := 37) rfl ?_); refine goesL_ (some 19) rfl rfl Try.func37 (by kernel_rfl) rfl #[.int .i64 ((rd_T88 l0_1 aB).f0), .int .i64 0, .int .i64 32767] rfl (by (try simp only [List.map_toArray, List.map_cons, List.map_nil]); first | done | rfl | (simp only [List.length_drop, List.length_take]; rfl)) ?_; (with_reducible refine (rillmeterref22_in.calls ((rd_T88 l0_1 aB).f0) 0 32767 true _ A5.out).mono ?_); rintro e w' ⟨rfl, ⟨nd, rfl⟩⟩; refine ⟨_, rfl, ?_⟩) | (go_at_call 37; (with_reducible refine (rillmeterref22_in.calls ((rd_T88 l0_1 aB).f1) 0 65535 true _ A7.out).mono ?_); rintro e w' ⟨rfl, ⟨nd, rfl⟩⟩) | (go_at_call 37; (with_reducible refine (rillmeterref22_in.calls ((rd_T88 l0_1 aB).f2) 0 4294967295 true _ A9.out).mono ?_); rintro e w' ⟨rfl, ⟨nd, rfl⟩⟩))
        go_roundg k1
        case measure => have := HK1.out; omega
        case rel => exact ⟨(wrap64 (aB + 1)), (by first | rfl | (simp; done) | (simp [*]; done)), H', ⟨by have := HK1.out; omega⟩, ⟨by (with_reducible repeat (first | refine blk_drewN ?_ _ | refine blk_drew ?_ | refine blk_alloc ?_ _)); refine blk_far ?_ aL.out _; (with_reducible repeat (first | refine blk_drewN ?_ _ | refine blk_drew ?_ | refine blk_alloc ?_ _)); refine blk_far ?_ aL.out _; (with_reducible repeat (first | refine blk_drewN ?_ _ | refine blk_drew ?_ | refine blk_alloc ?_ _)); refine blk_far ?_ aL.out _; (with_reducible repeat (first | refine blk_drewN ?_ _ | refine blk_drew ?_ | refine blk_alloc ?_ _)); exact aA.out⟩, ⟨bl_ HB⟩⟩
       ·replace aQ := Bool.eq_false_iff.mpr aQ; subst aQ
        have H1 : (some false) = some r := by rw [if_neg (show ¬ (false = true) by decide)] at H; exact H
        clear H; have H := H1; clear H1; obtain rfl := Option.some.inj H; have bZ : wr.cell? ⟨aJ, 0, none⟩ = some (.int .i64 a0_0) := bc_ aA 0; have cA : wr.cell? ⟨aJ, 1, none⟩ = some (.slice A0_1 l0_1.length c0_1) := bc_ aA 1; have cB := blk_frozen aA.out 0; have cC := blk_frozen aA.out 1; have aD : 0 ≤ (aB : Int) := of_decide_eq_true (by first | (with_reducible assumption) | assumption); have aE : aB < (l0_1.length : Int) := of_decide_eq_true (by first | (with_reducible assumption) | assumption); obtain ⟨aS, e365, aF, aG, aH⟩ := at_T88 aP.out aB aD aE
        cases e365; (try replace aF := (HB.out.cell (World.block_lt_of_cell? w _ aF)).trans aF); (try replace aG := (HB.out.cell (World.block_lt_of_cell? w _ aG)).trans aG); (try replace aH := (HB.out.cell (World.block_lt_of_cell? w _ aH)).trans aH); replace aD := eq_true aD; replace aE := eq_true aE
        go_wp2_with (first | ((with_reducible refine gate_dst (N := 4) rfl ?_); (try (refine gate_guard (by rfl) ?_; dsimp only)); refine box_event ?hg (N := 4) ?hd (cs := #[.int .i64 0, .int .i64 0, .int .i64 0]) (t := 88) ?hr ?_; (case hd => rfl); (case hg => rfl); (case hr => first | (go_simp; done) | (go_simp; rfl)); intro aI hg aW hbox hb; have n0_ := bb_ aA hb; have n1_ := bs_ HB hb; have n2_ := mk_ (hbox); have n3_ := gx_ hg HB; have n4_ := gx_ hg HB; have n5_ := nx_ hg aA; have n6_ := ny_ hg aA; clear aA; clear HB; have aA := n0_; have HB := n1_; have aC := n2_; have aU := n3_; have aV := n4_; have aL := n5_; have aM := n6_; clear n0_ n1_ n2_ n3_ n4_ n5_ n6_; clear hb hbox hg; have cD := aM.out; have cE := aL.out; have cF : aW.cell? ⟨aI, 0, none⟩ = some (.int .i64 0) := bc_ aC 0; have cG : aW.cell? ⟨aI, 1, none⟩ = some (.int .i64 0) := bc_ aC 1; have cH : aW.cell? ⟨aI, 2, none⟩ = some (.int .i64 0) := bc_ aC 2; have cI := blk_frozen aC.out 0; have cJ := blk_frozen aC.out 1; have cK := blk_frozen aC.out 2) | ((with_reducible refine gate_callee (f := 37) rfl ?_); refine goesL_ (some 19) rfl rfl Try.func37 (by kernel_rfl) rfl #[.int .i64 ((rd_T88 l0_1 aB).f0), .int .i64 0, .int .i64 32767] rfl (by (try simp only [List.map_toArray, List.map_cons, List.map_nil]); first | done | rfl | (simp only [List.length_drop, List.length_take]; rfl)) ?_; (with_reducible refine (rillmeterref22_in.calls ((rd_T88 l0_1 aB).f0) 0 32767 true _ A5.out).mono ?_); rintro e w' ⟨rfl, ⟨nd, rfl⟩⟩; refine ⟨_, rfl, ?_⟩) | (go_at_call 37; (with_reducible refine (rillmeterref22_in.calls ((rd_T88 l0_1 aB).f1) 0 65535 true _ A7.out).mono ?_); rintro e w' ⟨rfl, ⟨nd, rfl⟩⟩) | (go_at_call 37; (with_reducible refine (rillmeterref22_in.calls ((rd_T88 l0_1 aB).f2) 0 4294967295 false _ A9.out).mono ?_); rintro e w' ⟨rfl, ⟨nd, rfl⟩⟩))
        go_ret; exact ⟨by first | rfl | (simp [errW_none, errW_some] <;> rfl) | (simp [*, errW_none, errW_some] <;> rfl), bl_ HB⟩
      ·replace c8 := Bool.eq_false_iff.mpr c8; subst c8
       have H1 : (some false) = some r := by rw [if_neg (show ¬ (false = true) by decide)] at H; exact H
       clear H; have H := H1; clear H1; obtain rfl := Option.some.inj H; have cL : wr.cell? ⟨aJ, 0, none⟩ = some (.int .i64 a0_0) := bc_ aA 0; have cM : wr.cell? ⟨aJ, 1, none⟩ = some (.slice A0_1 l0_1.length c0_1) := bc_ aA 1; have cN := blk_frozen aA.out 0; have cO := blk_frozen aA.out 1; have aD : 0 ≤ (aB : Int) := of_decide_eq_true (by first | (with_reducible assumption) | assumption); have aE : aB < (l0_1.length : Int) := of_decide_eq_true (by first | (with_reducible assumption) | assumption); obtain ⟨aS, e365, aF, aG, aH⟩ := at_T88 aP.out aB aD aE
       cases e365; (try replace aF := (HB.out.cell (World.block_lt_of_cell? w _ aF)).trans aF); (try replace aG := (HB.out.cell (World.block_lt_of_cell? w _ aG)).trans aG); (try replace aH := (HB.out.cell (World.block_lt_of_cell? w _ aH)).trans aH); replace aD := eq_true aD; replace aE := eq_true aE
       go_wp2_with (first | ((with_reducible refine gate_dst (N := 4) rfl ?_); (try (refine gate_guard (by rfl) ?_; dsimp only)); refine box_event ?hg (N := 4) ?hd (cs := #[.int .i64 0, .int .i64 0, .int .i64 0]) (t := 88) ?hr ?_; (case hd => rfl); (case hg => rfl); (case hr => first | (go_simp; done) | (go_simp; rfl)); intro aI hg aX hbox hb; have n0_ := bb_ aA hb; have n1_ := bs_ HB hb; have n2_ := mk_ (hbox); have n3_ := gx_ hg HB; have n4_ := gx_ hg HB; have n5_ := nx_ hg aA; have n6_ := ny_ hg aA; clear aA; clear HB; have aA := n0_; have HB := n1_; have aC := n2_; have aU := n3_; have aV := n4_; have aL := n5_; have aM := n6_; clear n0_ n1_ n2_ n3_ n4_ n5_ n6_; clear hb hbox hg; have cP := aM.out; have cQ := aL.out; have cR : aX.cell? ⟨aI, 0, none⟩ = some (.int .i64 0) := bc_ aC 0; have cS : aX.cell? ⟨aI, 1, none⟩ = some (.int .i64 0) := bc_ aC 1; have cT : aX.cell? ⟨aI, 2, none⟩ = some (.int .i64 0) := bc_ aC 2; have cU := blk_frozen aC.out 0; have cV := blk_frozen aC.out 1; have cW := blk_frozen aC.out 2) | ((with_reducible refine gate_callee (f := 37) rfl ?_); refine goesL_ (some 19) rfl rfl Try.func37 (by kernel_rfl) rfl #[.int .i64 ((rd_T88 l0_1 aB).f0), .int .i64 0, .int .i64 32767] rfl (by (try simp only [List.map_toArray, List.map_cons, List.map_nil]); first | done | rfl | (simp only [List.length_drop, List.length_take]; rfl)) ?_; (with_reducible refine (rillmeterref22_in.calls ((rd_T88 l0_1 aB).f0) 0 32767 true _ A5.out).mono ?_); rintro e w' ⟨rfl, ⟨nd, rfl⟩⟩; refine ⟨_, rfl, ?_⟩) | (go_at_call 37; (with_reducible refine (rillmeterref22_in.calls ((rd_T88 l0_1 aB).f1) 0 65535 false _ A7.out).mono ?_); rintro e w' ⟨rfl, ⟨nd, rfl⟩⟩))
       go_ret; exact ⟨by first | rfl | (simp [errW_none, errW_some] <;> rfl) | (simp [*, errW_none, errW_some] <;> rfl), bl_ HB⟩
     ·replace c6 := Bool.eq_false_iff.mpr c6; subst c6
      have H1 : (some false) = some r := by rw [if_neg (show ¬ (false = true) by decide)] at H; exact H
      clear H; have H := H1; clear H1; obtain rfl := Option.some.inj H; have cX : wr.cell? ⟨aJ, 0, none⟩ = some (.int .i64 a0_0) := bc_ aA 0; have cY : wr.cell? ⟨aJ, 1, none⟩ = some (.slice A0_1 l0_1.length c0_1) := bc_ aA 1; have cZ := blk_frozen aA.out 0; have dA := blk_frozen aA.out 1; have aD : 0 ≤ (aB : Int) := of_decide_eq_true (by first | (with_reducible assumption) | assumption); have aE : aB < (l0_1.length : Int) := of_decide_eq_true (by first | (with_reducible assumption) | assumption); obtain ⟨aS, e365, aF, aG, aH⟩ := at_T88 aP.out aB aD aE
      cases e365; (try replace aF := (HB.out.cell (World.block_lt_of_cell? w _ aF)).trans aF); (try replace aG := (HB.out.cell (World.block_lt_of_cell? w _ aG)).trans aG); (try replace aH := (HB.out.cell (World.block_lt_of_cell? w _ aH)).trans aH); replace aD := eq_true aD; replace aE := eq_true aE
      go_wp2_with (first | ((with_reducible refine gate_dst (N := 4) rfl ?_); (try (refine gate_guard (by rfl) ?_; dsimp only)); refine box_event ?hg (N := 4) ?hd (cs := #[.int .i64 0, .int .i64 0, .int .i64 0]) (t := 88) ?hr ?_; (case hd => rfl); (case hg => rfl); (case hr => first | (go_simp; done) | (go_simp; rfl)); intro aI hg aY hbox hb; have n0_ := bb_ aA hb; have n1_ := bs_ HB hb; have n2_ := mk_ (hbox); have n3_ := gx_ hg HB; have n4_ := gx_ hg HB; have n5_ := nx_ hg aA; have n6_ := ny_ hg aA; clear aA; clear HB; have aA := n0_; have HB := n1_; have aC := n2_; have aU := n3_; have aV := n4_; have aL := n5_; have aM := n6_; clear n0_ n1_ n2_ n3_ n4_ n5_ n6_; clear hb hbox hg; have dB := aM.out; have dC := aL.out; have dD : aY.cell? ⟨aI, 0, none⟩ = some (.int .i64 0) := bc_ aC 0; have dE : aY.cell? ⟨aI, 1, none⟩ = some (.int .i64 0) := bc_ aC 1; have dF : aY.cell? ⟨aI, 2, none⟩ = some (.int .i64 0) := bc_ aC 2; have dG := blk_frozen aC.out 0; have dH := blk_frozen aC.out 1; have dI := blk_frozen aC.out 2) | ((with_reducible refine gate_callee (f := 37) rfl ?_); refine goesL_ (some 19) rfl rfl Try.func37 (by kernel_rfl) rfl #[.int .i64 ((rd_T88 l0_1 aB).f0), .int .i64 0, .int .i64 32767] rfl (by (try simp only [List.map_toArray, List.map_cons, List.map_nil]); first | done | rfl | (simp only [List.length_drop, List.length_take]; rfl)) ?_; (with_reducible refine (rillmeterref22_in.calls ((rd_T88 l0_1 aB).f0) 0 32767 false _ A5.out).mono ?_); rintro e w' ⟨rfl, ⟨nd, rfl⟩⟩; refine ⟨_, rfl, ?_⟩))
      go_ret; exact ⟨by first | rfl | (simp [errW_none, errW_some] <;> rfl) | (simp [*, errW_none, errW_some] <;> rfl), bl_ HB⟩
    ·rw [if_neg c4] at H; exact absurd H (by simp)
   ·rw [if_neg c3] at H; have bH : decide (aB < (l0_1.length : Int)) = false := decide_eq_false c3; clear c3; replace H := Option.bind_eq_some_iff.mp H; obtain ⟨bD, bE, H⟩ := H; replace H : (if bD = true then ((rillmeterref22_in.f (l0_1.length : Int) 1 64).bind fun aO => (some aO)) else (some false)) = some r := H; have bF := mk_ bE; clear bE
    by_cases aR : bD = true
    ·subst aR
     have H1 : ((rillmeterref22_in.f (l0_1.length : Int) 1 64).bind fun aO => (some aO)) = some r := by rw [if_pos rfl] at H; exact H
     clear H; have H := H1; clear H1; replace H := Option.bind_eq_some_iff.mp H; obtain ⟨aO, bG, H⟩ := H; replace H : (some aO) = some r := H; have bI := mk_ bG; clear bG; obtain rfl := Option.some.inj H; have dJ : wr.cell? ⟨aJ, 0, none⟩ = some (.int .i64 a0_0) := bc_ aA 0; have dK : wr.cell? ⟨aJ, 1, none⟩ = some (.slice A0_1 l0_1.length c0_1) := bc_ aA 1; have dL := blk_frozen aA.out 0; have dM := blk_frozen aA.out 1
     go_wp2_with (first | ((with_reducible refine gate_callee (f := 37) rfl ?_); refine goesL_ (some 35) rfl rfl Try.func37 (by kernel_rfl) rfl #[.int .i64 a0_0, .int .i64 256, .int .i64 65535] rfl (by (try simp only [List.map_toArray, List.map_cons, List.map_nil]); first | done | rfl | (simp only [List.length_drop, List.length_take]; rfl)) ?_; (with_reducible refine (rillmeterref22_in.calls a0_0 256 65535 true _ bF.out).mono ?_); rintro e w' ⟨rfl, ⟨nd, rfl⟩⟩; refine ⟨_, rfl, ?_⟩) | (go_at_call 37; (with_reducible refine (rillmeterref22_in.calls (l0_1.length : Int) 1 64 aO _ bI.out).mono ?_); rintro e w' ⟨rfl, ⟨nd, rfl⟩⟩))
     go_ret; exact ⟨by first | rfl | (simp [errW_none, errW_some] <;> rfl) | (simp [*, errW_none, errW_some] <;> rfl), bl_ HB⟩
    ·replace aR := Bool.eq_false_iff.mpr aR; subst aR
     have H1 : (some false) = some r := by rw [if_neg (show ¬ (false = true) by decide)] at H; exact H
     clear H; have H := H1; clear H1; obtain rfl := Option.some.inj H; have dN : wr.cell? ⟨aJ, 0, none⟩ = some (.int .i64 a0_0) := bc_ aA 0; have dO : wr.cell? ⟨aJ, 1, none⟩ = some (.slice A0_1 l0_1.length c0_1) := bc_ aA 1; have dP := blk_frozen aA.out 0; have dQ := blk_frozen aA.out 1
     go_wp2_with (first | ((with_reducible refine gate_callee (f := 37) rfl ?_); refine goesL_ (some 35) rfl rfl Try.func37 (by kernel_rfl) rfl #[.int .i64 a0_0, .int .i64 256, .int .i64 65535] rfl (by (try simp only [List.map_toArray, List.map_cons, List.map_nil]); first | done | rfl | (simp only [List.length_drop, List.length_take]; rfl)) ?_; (with_reducible refine (rillmeterref22_in.calls a0_0 256 65535 false _ bF.out).mono ?_); rintro e w' ⟨rfl, ⟨nd, rfl⟩⟩; refine ⟨_, rfl, ?_⟩))
     go_ret; exact ⟨by first | rfl | (simp [errW_none, errW_some] <;> rfl) | (simp [*, errW_none, errW_some] <;> rfl), bl_ HB⟩

end Go.Proofs.Ytojmpdjbhplgkaa.PIpfixTakes
