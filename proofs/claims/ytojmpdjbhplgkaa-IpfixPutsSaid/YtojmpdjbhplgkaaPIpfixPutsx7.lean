/- The functions that a law uses, each as a plain function, with the proof that a call of the Go function comes to its answer. Condition of each: the arguments read as the data that it names, and the plain function has an answer. Written by a program of this session (standin.py). -/
import Derived.Test.YtojmpdjbhplgkaaPIpfixPutsx0
import Derived.Test.YtojmpdjbhplgkaaShort
import Derived.Lib.SliceRun
import Derived.Test.YtojmpdjbhplgkaaPressMore
namespace Go.Proofs.Ytojmpdjbhplgkaa.PIpfixPuts
open Go.RowKit Go.Proofs.YtojmpdjbhplgkaaW.PrintWords Go.Proofs.YtojmpdjbhplgkaaW.PrintLast Go.Proofs.YtojmpdjbhplgkaaW.PrintMore Go.Proofs.Ytojmpdjbhplgkaa.Short Go.Proofs.Ytojmpdjbhplgkaa.Press Go.Proofs.Ytojmpdjbhplgkaa.PressMore
attribute [local go_sem] max2_int min2_int max_two min_two max_three min_three max_four min_four   -- for this text's walks alone
set_option linter.unusedVariables false
set_option linter.unusedSimpArgs false

/-! ### rillmeterref22_Small: function 21 -/
mutual
def rillmeterref22_Small.l0 : Nat → Int → Int → Int → Int → List (S93) → Option (Bool)
  | 0, _, _, _, _, _ => none
  | k + 1, x3, x264000, x264001, x264002, x264003 => if x3 < (x264003.length : Int) then (if 0 ≤ x3 then (if (((rd_T93 x264003 x3).f2).size : Int) > 4096 then (rillmeterref22_Small.j1 k x3 true x264000 x264001 x264002 x264003) else (rillmeterref22_Small.j1 k x3 (decide ((((rd_T93 x264003 x3).f1).length : Int) > 10)) x264000 x264001 x264002 x264003)) else (none)) else (some true)
def rillmeterref22_Small.j1 : Nat → Int → Bool → Int → Int → Int → List (S93) → Option (Bool)
  | 0, _, _, _, _, _, _ => none
  | k + 1, x3, x34, x264000, x264001, x264002, x264003 => if x34 = true then (some false) else (if 0 ≤ x3 then (if x3 < (x264003.length : Int) then (rillmeterref22_Small.l1 k x3 ((rd_T93 x264003 x3).f1) (((rd_T93 x264003 x3).f1).length : Int) 0 x264000 x264001 x264002 x264003) else (none)) else (none))
def rillmeterref22_Small.l1 : Nat → Int → List (S46) → Int → Int → Int → Int → Int → List (S93) → Option (Bool)
  | 0, _, _, _, _, _, _, _, _ => none
  | k + 1, x3, x40, x41, x42, x264000, x264001, x264002, x264003 => if x42 < x41 then (if 0 ≤ x42 then (if x42 < (x40.length : Int) then (if (((rd_T46 x40 x42).f1).length : Int) > 80 then (some false) else (rillmeterref22_Small.l1 k x3 x40 x41 (wrap64 (x42 + 1)) x264000 x264001 x264002 x264003)) else (none)) else (none)) else (rillmeterref22_Small.l0 k (wrap64 (x3 + 1)) x264000 x264001 x264002 x264003)
end
def rillmeterref22_Small.f (k : Nat) (a0_0 : Int) (a0_1 : Int) (a0_2 : Int) (l0_3 : List (S93)) : Option (Bool) := if (l0_3.length : Int) > 10 then (some false) else (rillmeterref22_Small.l0 k 0 a0_0 a0_1 a0_2 l0_3)
theorem rillmeterref22_Small.mono_l : ∀ k, (∀ y0 y1 y2 y3 y4, LeO (rillmeterref22_Small.l0 k y0 y1 y2 y3 y4) (rillmeterref22_Small.l0 (k + 1) y0 y1 y2 y3 y4)) ∧ (∀ y0 y1 y2 y3 y4 y5, LeO (rillmeterref22_Small.j1 k y0 y1 y2 y3 y4 y5) (rillmeterref22_Small.j1 (k + 1) y0 y1 y2 y3 y4 y5)) ∧ (∀ y0 y1 y2 y3 y4 y5 y6 y7, LeO (rillmeterref22_Small.l1 k y0 y1 y2 y3 y4 y5 y6 y7) (rillmeterref22_Small.l1 (k + 1) y0 y1 y2 y3 y4 y5 y6 y7))
  | 0 => ⟨fun _ _ _ _ _ r h => by simp [rillmeterref22_Small.l0] at h, fun _ _ _ _ _ _ r h => by simp [rillmeterref22_Small.j1] at h, fun _ _ _ _ _ _ _ _ r h => by simp [rillmeterref22_Small.l1] at h⟩
  | k + 1 => by
    obtain ⟨ih0, ih1, ih2⟩ := rillmeterref22_Small.mono_l k
    refine ⟨?_, ?_, ?_⟩
    · intro y0 y1 y2 y3 y4
      unfold rillmeterref22_Small.l0
      repeat' first
      | (with_reducible exact ih0 _ _ _ _ _)
      | (with_reducible exact ih1 _ _ _ _ _ _)
      | (with_reducible exact ih2 _ _ _ _ _ _ _ _)
      | (with_reducible exact LeO.refl _)
      | (with_reducible exact LeO.none _)
      | (with_reducible refine LeO.ite ?_ ?_)
      | (with_reducible refine LeO.bind ?_ (fun _ => ?_))
      | exact ih0 _ _ _ _ _
      | exact ih1 _ _ _ _ _ _
      | exact ih2 _ _ _ _ _ _ _ _
      | exact LeO.none _
      | refine LeO.ite ?_ ?_
      | refine LeO.bind ?_ (fun _ => ?_)
    · intro y0 y1 y2 y3 y4 y5
      unfold rillmeterref22_Small.j1
      repeat' first
      | (with_reducible exact ih0 _ _ _ _ _)
      | (with_reducible exact ih1 _ _ _ _ _ _)
      | (with_reducible exact ih2 _ _ _ _ _ _ _ _)
      | (with_reducible exact LeO.refl _)
      | (with_reducible exact LeO.none _)
      | (with_reducible refine LeO.ite ?_ ?_)
      | (with_reducible refine LeO.bind ?_ (fun _ => ?_))
      | exact ih0 _ _ _ _ _
      | exact ih1 _ _ _ _ _ _
      | exact ih2 _ _ _ _ _ _ _ _
      | exact LeO.none _
      | refine LeO.ite ?_ ?_
      | refine LeO.bind ?_ (fun _ => ?_)
    · intro y0 y1 y2 y3 y4 y5 y6 y7
      unfold rillmeterref22_Small.l1
      repeat' first
      | (with_reducible exact ih0 _ _ _ _ _)
      | (with_reducible exact ih1 _ _ _ _ _ _)
      | (with_reducible exact ih2 _ _ _ _ _ _ _ _)
      | (with_reducible exact LeO.refl _)
      | (with_reducible exact LeO.none _)
      | (with_reducible refine LeO.ite ?_ ?_)
      | (with_reducible refine LeO.bind ?_ (fun _ => ?_))
      | exact ih0 _ _ _ _ _
      | exact ih1 _ _ _ _ _ _
      | exact ih2 _ _ _ _ _ _ _ _
      | exact LeO.none _
      | refine LeO.ite ?_ ?_
      | refine LeO.bind ?_ (fun _ => ?_)
theorem rillmeterref22_Small.mono : ∀ a0 a1 a2 a3 k, LeO (rillmeterref22_Small.f k a0 a1 a2 a3) (rillmeterref22_Small.f (k + 1) a0 a1 a2 a3) := by
  intro a0 a1 a2 a3 k
  obtain ⟨ih0, ih1, ih2⟩ := rillmeterref22_Small.mono_l k
  unfold rillmeterref22_Small.f
  repeat' first
      | (with_reducible exact ih0 _ _ _ _ _)
      | (with_reducible exact ih1 _ _ _ _ _ _)
      | (with_reducible exact ih2 _ _ _ _ _ _ _ _)
      | (with_reducible exact LeO.refl _)
      | (with_reducible exact LeO.none _)
      | (with_reducible refine LeO.ite ?_ ?_)
      | (with_reducible refine LeO.bind ?_ (fun _ => ?_))
      | exact ih0 _ _ _ _ _
      | exact ih1 _ _ _ _ _ _
      | exact ih2 _ _ _ _ _ _ _ _
      | exact LeO.none _
      | refine LeO.ite ?_ ?_
      | refine LeO.bind ?_ (fun _ => ?_)
set_option maxHeartbeats 80000000 in
set_option maxRecDepth 100000 in
theorem rillmeterref22_Small.calls (k : Nat) (a0_0 : Int) (a0_1 : Int) (a0_2 : Int) (A0_3 : Option Addr) (c0_3 : Nat) (l0_3 : List (S93)) (r : Bool) (w : World) (hr0_3 : Kd.C k93 w A0_3 l0_3.length l0_3) (hc0_3 : l0_3.length ≤ c0_3) (h : rillmeterref22_Small.f k a0_0 a0_1 a0_2 l0_3 = some r) :
    Calls Try.prog 21 #[.agg #[.int .i64 a0_0, .int .i64 a0_1, .int .i64 a0_2, .slice A0_3 l0_3.length c0_3]] w fun e w' => e = .returned (.bool r) ∧ Below w.heap.size w w' := by
 have hu58 := Try.underlying58; have hu46 := Try.underlying46; have bE := mk_ hr0_3; have fP := mk_ hc0_3; clear hr0_3 hc0_3; have HB := mk_ (Below.refl w.heap.size w); have H : (if (l0_3.length : Int) > 10 then (some false) else (rillmeterref22_Small.l0 k 0 a0_0 a0_1 a0_2 l0_3)) = some r := h; clear h
 by_cases c2 : (l0_3.length : Int) > 10
 ·rw [if_pos c2] at H; have bF : decide (10 < (l0_3.length : Int)) = true := decide_eq_true c2; have bG : decide (10 < l0_3.length) = true := decide_eq_true (by omega); clear c2; obtain rfl := Option.some.inj H
  go_enter Try.func21, Try.ntmps21
  go_wp2_with (first | ((with_reducible refine gate_dst (N := 1) rfl ?_); (try (refine gate_guard (by rfl) ?_; dsimp only)); refine box_event ?hg (N := 1) ?hd (cs := #[.int .i64 a0_0, .int .i64 a0_1, .int .i64 a0_2, .slice A0_3 l0_3.length c0_3]) (t := 58) ?hr ?_; (case hd => rfl); (case hg => rfl); (case hr => first | (go_simp; done) | (go_simp; rfl)); intro aC hg w3 hbox hb; have n0_ := bs_ HB hb; have n1_ := mk_ (hbox); have n2_ := gx_ hg HB; have n3_ := gx_ hg HB; clear HB; have HB := n0_; have aA := n1_; have dP := n2_; have dQ := n3_; clear n0_ n1_ n2_ n3_; clear hb hbox hg; have bQ : w3.cell? ⟨aC, 0, none⟩ = some (.int .i64 a0_0) := bc_ aA 0; have bR : w3.cell? ⟨aC, 1, none⟩ = some (.int .i64 a0_1) := bc_ aA 1; have bS : w3.cell? ⟨aC, 2, none⟩ = some (.int .i64 a0_2) := bc_ aA 2; have bT : w3.cell? ⟨aC, 3, none⟩ = some (.slice A0_3 l0_3.length c0_3) := bc_ aA 3; have bU := blk_frozen aA.out 0; have bV := blk_frozen aA.out 1; have bW := blk_frozen aA.out 2; have bX := blk_frozen aA.out 3))
  go_ret; exact ⟨by first | rfl | (simp [errW_none, errW_some] <;> rfl) | (simp [*, errW_none, errW_some] <;> rfl), bl_ HB⟩
 ·rw [if_neg c2] at H; have bF : decide (10 < (l0_3.length : Int)) = false := decide_eq_false c2; have bG : decide (10 < l0_3.length) = false := decide_eq_false (by omega); clear c2; have H' := mk_ H; clear H
  go_enter Try.func21, Try.ntmps21
  go_wp2_with (first | ((with_reducible refine gate_dst (N := 1) rfl ?_); (try (refine gate_guard (by rfl) ?_; dsimp only)); refine box_event ?hg (N := 1) ?hd (cs := #[.int .i64 a0_0, .int .i64 a0_1, .int .i64 a0_2, .slice A0_3 l0_3.length c0_3]) (t := 58) ?hr ?_; (case hd => rfl); (case hg => rfl); (case hr => first | (go_simp; done) | (go_simp; rfl)); intro aC hg w5 hbox hb; have n0_ := bs_ HB hb; have n1_ := mk_ (hbox); have n2_ := gx_ hg HB; have n3_ := gx_ hg HB; clear HB; have HB := n0_; have aA := n1_; have dP := n2_; have dQ := n3_; clear n0_ n1_ n2_ n3_; clear hb hbox hg; have bY : w5.cell? ⟨aC, 0, none⟩ = some (.int .i64 a0_0) := bc_ aA 0; have bZ : w5.cell? ⟨aC, 1, none⟩ = some (.int .i64 a0_1) := bc_ aA 1; have cA : w5.cell? ⟨aC, 2, none⟩ = some (.int .i64 a0_2) := bc_ aA 2; have cB : w5.cell? ⟨aC, 3, none⟩ = some (.slice A0_3 l0_3.length c0_3) := bc_ aA 3; have cC := blk_frozen aA.out 0; have cD := blk_frozen aA.out 1; have cE := blk_frozen aA.out 2; have cF := blk_frozen aA.out 3))
  go_loopg [3] k (fun kq v3 w' => ∃ (aB : Int), v3 = .int .i64 aB ∧ Aside0 (rillmeterref22_Small.l0 kq aB a0_0 a0_1 a0_2 l0_3 = some r) ∧ Aside0 (kq ≤ k) ∧ Aside0 (w'.heap[aC]? = some (.cells #[.int .i64 a0_0, .int .i64 a0_1, .int .i64 a0_2, (.slice A0_3 l0_3.length c0_3)] 58 (0, 0))) ∧ Aside0 (Below w.heap.size w w'))
  case atStart => exact ⟨(0), (by first | rfl | (simp; done) | (simp [*]; done)), H', ⟨Nat.le_refl _⟩, ⟨bk_ aA⟩, ⟨bl_ HB⟩⟩
  case round =>
   clear H'; (try clear c2); (try clear bF); (try clear bG); (try clear p2); (try clear bQ); (try clear bR); (try clear bS); (try clear bT); (try clear bY); (try clear bZ); (try clear cA); (try clear cB); (try clear bU); (try clear bV); (try clear bW); (try clear bX); (try clear cC); (try clear cD); (try clear cE); (try clear cF); obtain ⟨aB, rfl, HA, HK1, aA, HB⟩ := hrel
   cases gk with
   | zero => exact absurd HA.out (by simp [rillmeterref22_Small.l0])
   | succ k1 =>
    have H := HA.out; clear HA; simp only [rillmeterref22_Small.l0] at H
    by_cases c7 : aB < (l0_3.length : Int)
    ·rw [if_pos c7] at H; have cG : decide (aB < (l0_3.length : Int)) = true := decide_eq_true c7; clear c7; have HC8 := mk_ H; clear H; have cL : wr.cell? ⟨aC, 0, none⟩ = some (.int .i64 a0_0) := bc_ aA 0; have cM : wr.cell? ⟨aC, 1, none⟩ = some (.int .i64 a0_1) := bc_ aA 1; have cN : wr.cell? ⟨aC, 2, none⟩ = some (.int .i64 a0_2) := bc_ aA 2; have cO : wr.cell? ⟨aC, 3, none⟩ = some (.slice A0_3 l0_3.length c0_3) := bc_ aA 3; have cP := blk_frozen aA.out 0; have cQ := blk_frozen aA.out 1; have cR := blk_frozen aA.out 2; have cS := blk_frozen aA.out 3
     go_upto_region 6 with (fail)
     go_cut [34] (fun dR wc => ∃ (kq : Nat) (bH : Bool), dR = .bool bH ∧ Aside0 (rillmeterref22_Small.j1 kq aB bH a0_0 a0_1 a0_2 l0_3 = some r) ∧ Aside0 (kq ≤ k1) ∧ Aside0 (wc.heap[aC]? = some (.cells #[.int .i64 a0_0, .int .i64 a0_1, .int .i64 a0_2, (.slice A0_3 l0_3.length c0_3)] 58 (0, 0))) ∧ Aside0 (Below w.heap.size w wc))
     case first =>
      have H := HC8.out; clear HC8
      by_cases aP : 0 ≤ aB
      ·rw [if_pos aP] at H; have bI : decide (0 ≤ aB) = true := decide_eq_true aP; clear aP
       (first | rw [bI] | (simp only [i64_w, i32_w]; rw [bI]) | skip)
       by_cases aK : (((rd_T93 l0_3 aB).f2).size : Int) > 4096
       ·rw [if_pos aK] at H; have cH : decide (4096 < (((rd_T93 l0_3 aB).f2).size : Int)) = true := decide_eq_true aK; have cI : decide (4096 < ((rd_T93 l0_3 aB).f2).size) = true := decide_eq_true (by omega); clear aK; have H' := mk_ H; clear H; have cT : wr.cell? ⟨aC, 0, none⟩ = some (.int .i64 a0_0) := bc_ aA 0; have cU : wr.cell? ⟨aC, 1, none⟩ = some (.int .i64 a0_1) := bc_ aA 1; have cV : wr.cell? ⟨aC, 2, none⟩ = some (.int .i64 a0_2) := bc_ aA 2; have cW : wr.cell? ⟨aC, 3, none⟩ = some (.slice A0_3 l0_3.length c0_3) := bc_ aA 3; have cX := blk_frozen aA.out 0; have cY := blk_frozen aA.out 1; have cZ := blk_frozen aA.out 2; have dA := blk_frozen aA.out 3; have aF : 0 ≤ (aB : Int) := of_decide_eq_true (by first | (with_reducible assumption) | assumption); have aG : aB < (l0_3.length : Int) := of_decide_eq_true (by first | (with_reducible assumption) | assumption); obtain ⟨dB, A264_1, c264_1, e264, aH, aE, aI, aT, hi264_1⟩ := at_T93 bE.out aB aF aG
        cases e264; (try replace aH := bt_ HB aH); (try replace aE := bt_ HB aE); (try replace aI := bt_ HB aI); have dS := mk_ hi264_1; have dT := mk_ aT; clear hi264_1 aT; replace aF := eq_true aF; replace aG := eq_true aG
        go_wp2
        go_meet
        case rel => exact ⟨_, (true), (by first | rfl | (simp; done) | (simp [*]; done)), H', ⟨by have := HK1.out; first | omega | exact Nat.le_refl _⟩, ⟨bk_ aA⟩, ⟨bl_ HB⟩⟩
       ·rw [if_neg aK] at H; have cH : decide (4096 < (((rd_T93 l0_3 aB).f2).size : Int)) = false := decide_eq_false aK; have cI : decide (4096 < ((rd_T93 l0_3 aB).f2).size) = false := decide_eq_false (by omega); clear aK; have H' := mk_ H; clear H; have dC : wr.cell? ⟨aC, 0, none⟩ = some (.int .i64 a0_0) := bc_ aA 0; have dD : wr.cell? ⟨aC, 1, none⟩ = some (.int .i64 a0_1) := bc_ aA 1; have dE : wr.cell? ⟨aC, 2, none⟩ = some (.int .i64 a0_2) := bc_ aA 2; have dF : wr.cell? ⟨aC, 3, none⟩ = some (.slice A0_3 l0_3.length c0_3) := bc_ aA 3; have dG := blk_frozen aA.out 0; have dH := blk_frozen aA.out 1; have dI := blk_frozen aA.out 2; have dJ := blk_frozen aA.out 3; have aF : 0 ≤ (aB : Int) := of_decide_eq_true (by first | (with_reducible assumption) | assumption); have aG : aB < (l0_3.length : Int) := of_decide_eq_true (by first | (with_reducible assumption) | assumption); obtain ⟨dB, A264_1, c264_1, e264, aH, aE, aI, aT, hi264_1⟩ := at_T93 bE.out aB aF aG
        cases e264; (try replace aH := bt_ HB aH); (try replace aE := bt_ HB aE); (try replace aI := bt_ HB aI); have dS := mk_ hi264_1; have dT := mk_ aT; clear hi264_1 aT; replace aF := eq_true aF; replace aG := eq_true aG; have aU : 0 ≤ (aB : Int) := of_decide_eq_true (by first | (with_reducible assumption) | assumption); have aV : aB < (l0_3.length : Int) := of_decide_eq_true (by first | (with_reducible assumption) | assumption); obtain ⟨dU, A265_1, c265_1, e265, aW, aQ, aX, dK, hi265_1⟩ := at_T93 bE.out aB aU aV; obtain rfl : dB = dU := (by injection e265); (try replace aW := bt_ HB aW); (try replace aQ := bt_ HB aQ); (try replace aX := bt_ HB aX); have fQ := mk_ hi265_1; have fR := mk_ dK; clear hi265_1 dK; replace aU := eq_true aU; replace aV := eq_true aV; have ea_ := Option.some.inj (aE.symm.trans aQ)
        injection ea_ with ea_ en_ ec_
        subst ea_; subst ec_; clear en_
        go_wp2
        go_meet
        case rel => exact ⟨_, (decide ((((rd_T93 l0_3 aB).f1).length : Int) > 10)), (by first | rfl | (simp; done) | (simp [*]; done)), H', ⟨by have := HK1.out; first | omega | exact Nat.le_refl _⟩, ⟨bk_ aA⟩, ⟨bl_ HB⟩⟩
      ·rw [if_neg aP] at H; exact absurd H (by simp)
     case rest =>
      clear HC8; (try clear c1); (try clear c2); (try clear bF); (try clear bG); (try clear p2); (try clear q2); (try clear hx2); (try clear c7); (try clear cG); (try clear aP); (try clear bI); (try clear aK); (try clear cH); (try clear cI); (try clear cT); (try clear cU); (try clear cV); (try clear cW); (try clear dC); (try clear dD); (try clear dE); (try clear dF); (try clear bQ); (try clear bR); (try clear bS); (try clear bT); (try clear bY); (try clear bZ); (try clear cA); (try clear cB); (try clear cL); (try clear cM); (try clear cN); (try clear cO); (try clear cX); (try clear cY); (try clear cZ); (try clear dA); (try clear dG); (try clear dH); (try clear dI); (try clear dJ); (try clear bU); (try clear bV); (try clear bW); (try clear bX); (try clear cC); (try clear cD); (try clear cE); (try clear cF); (try clear cP); (try clear cQ); (try clear cR); (try clear cS); (try clear aH); (try clear aE); (try clear aI); (try clear aW); (try clear aQ); (try clear aX); (try clear p2); (try clear aF); (try clear aU); (try clear aG); (try clear aV); obtain ⟨kq, bH, rfl, HA, HJ7, aA, HB⟩ := hcut
      cases kq with
      | zero => exact absurd HA.out (by simp [rillmeterref22_Small.j1])
      | succ cJ =>
       have H := HA.out; clear HA; simp only [rillmeterref22_Small.j1] at H
       by_cases aY : bH = true
       ·subst aY
        have H1 : (some false) = some r := by rw [if_pos rfl] at H; exact H
        clear H; have H := H1; clear H1; obtain rfl := Option.some.inj H
        go_wp2
        go_ret; exact ⟨by first | rfl | (simp [errW_none, errW_some] <;> rfl) | (simp [*, errW_none, errW_some] <;> rfl), bl_ HB⟩
       ·replace aY := Bool.eq_false_iff.mpr aY; subst aY
        have H1 : (if 0 ≤ aB then (if aB < (l0_3.length : Int) then (rillmeterref22_Small.l1 cJ aB ((rd_T93 l0_3 aB).f1) (((rd_T93 l0_3 aB).f1).length : Int) 0 a0_0 a0_1 a0_2 l0_3) else (none)) else (none)) = some r := by rw [if_neg (show ¬ (false = true) by decide)] at H; exact H
        clear H; have H := H1; clear H1
        by_cases aZ : 0 ≤ aB
        ·rw [if_pos aZ] at H; have dV : decide (0 ≤ aB) = true := decide_eq_true aZ; clear aZ
         by_cases bA : aB < (l0_3.length : Int)
         ·rw [if_pos bA] at H; have dW : decide (aB < (l0_3.length : Int)) = true := decide_eq_true bA; clear bA; have H' := mk_ H; clear H; have dX : wc.cell? ⟨aC, 0, none⟩ = some (.int .i64 a0_0) := bc_ aA 0; have dY : wc.cell? ⟨aC, 1, none⟩ = some (.int .i64 a0_1) := bc_ aA 1; have dZ : wc.cell? ⟨aC, 2, none⟩ = some (.int .i64 a0_2) := bc_ aA 2; have fA : wc.cell? ⟨aC, 3, none⟩ = some (.slice A0_3 l0_3.length c0_3) := bc_ aA 3; have fB := blk_frozen aA.out 0; have fC := blk_frozen aA.out 1; have fD := blk_frozen aA.out 2; have fE := blk_frozen aA.out 3; have bJ : 0 ≤ (aB : Int) := of_decide_eq_true (by first | (with_reducible assumption) | assumption); have bK : aB < (l0_3.length : Int) := of_decide_eq_true (by first | (with_reducible assumption) | assumption); obtain ⟨fF, A266_1, c266_1, e266, bL, bM, bN, dL, hi266_1⟩ := at_T93 bE.out aB bJ bK
          cases e266; (try replace bL := bt_ HB bL); (try replace bM := bt_ HB bM); (try replace bN := bt_ HB bN); have dM := mk_ hi266_1; have fS := mk_ dL; clear hi266_1 dL; replace bJ := eq_true bJ; replace bK := eq_true bK
          go_wp2
          go_loopg [42] cJ (fun kq fG w' => ∃ (aD : Int), fG = .int .i64 aD ∧ Aside0 (rillmeterref22_Small.l1 kq aB ((rd_T93 l0_3 aB).f1) (((rd_T93 l0_3 aB).f1).length : Int) aD a0_0 a0_1 a0_2 l0_3 = some r) ∧ Aside0 (kq ≤ cJ) ∧ Aside0 (w'.heap[aC]? = some (.cells #[.int .i64 a0_0, .int .i64 a0_1, .int .i64 a0_2, (.slice (some fF) l0_3.length c0_3)] 58 (0, 0))) ∧ Aside0 (Below w.heap.size w w'))
          case atStart => exact ⟨(0), (by first | rfl | (simp; done) | (simp [*]; done)), H', ⟨Nat.le_refl _⟩, ⟨bk_ aA⟩, ⟨bl_ HB⟩⟩
          case round =>
           clear H'; (try clear c1); (try clear c2); (try clear bF); (try clear bG); (try clear p2); (try clear q2); (try clear hx2); (try clear c7); (try clear cG); (try clear aP); (try clear bI); (try clear aK); (try clear cH); (try clear cI); (try clear aY); (try clear aZ); (try clear dV); (try clear bA); (try clear dW); (try clear cT); (try clear cU); (try clear cV); (try clear cW); (try clear dC); (try clear dD); (try clear dE); (try clear dF); (try clear dX); (try clear dY); (try clear dZ); (try clear fA); (try clear bQ); (try clear bR); (try clear bS); (try clear bT); (try clear bY); (try clear bZ); (try clear cA); (try clear cB); (try clear cL); (try clear cM); (try clear cN); (try clear cO); (try clear cX); (try clear cY); (try clear cZ); (try clear dA); (try clear dG); (try clear dH); (try clear dI); (try clear dJ); (try clear fB); (try clear fC); (try clear fD); (try clear fE); (try clear bU); (try clear bV); (try clear bW); (try clear bX); (try clear cC); (try clear cD); (try clear cE); (try clear cF); (try clear cP); (try clear cQ); (try clear cR); (try clear cS); (try clear aH); (try clear aE); (try clear aI); (try clear aW); (try clear aQ); (try clear aX); (try clear bL)
           (try clear bM); (try clear bN); (try clear p2); (try clear aF); (try clear aU); (try clear bJ); (try clear q2); (try clear aG); (try clear aV); (try clear bK); obtain ⟨aD, rfl, HA, HK3, aA, HB⟩ := hrel
           cases gk with
           | zero => exact absurd HA.out (by simp [rillmeterref22_Small.l1])
           | succ k3 =>
            have H := HA.out; clear HA; simp only [rillmeterref22_Small.l1] at H
            by_cases aR : aD < (((rd_T93 l0_3 aB).f1).length : Int)
            ·rw [if_pos aR] at H; have fH : decide (aD < (((rd_T93 l0_3 aB).f1).length : Int)) = true := decide_eq_true aR; clear aR
             by_cases bO : 0 ≤ aD
             ·rw [if_pos bO] at H; have fT : decide (0 ≤ aD) = true := decide_eq_true bO; clear bO
              by_cases bP : aD < (((rd_T93 l0_3 aB).f1).length : Int)
              ·rw [if_pos bP] at H; have fU : decide (aD < (((rd_T93 l0_3 aB).f1).length : Int)) = true := decide_eq_true bP; clear bP
               by_cases aS : (((rd_T46 ((rd_T93 l0_3 aB).f1) aD).f1).length : Int) > 80
               ·rw [if_pos aS] at H; have fI : decide (80 < (((rd_T46 ((rd_T93 l0_3 aB).f1) aD).f1).length : Int)) = true := decide_eq_true aS; have fJ : decide (80 < ((rd_T46 ((rd_T93 l0_3 aB).f1) aD).f1).length) = true := decide_eq_true (by omega); clear aS; obtain rfl := Option.some.inj H; have aL : 0 ≤ (aD : Int) := of_decide_eq_true (by first | (with_reducible assumption) | assumption); have aM : aD < (((rd_T93 l0_3 aB).f1).length : Int) := of_decide_eq_true (by first | (with_reducible assumption) | assumption); obtain ⟨fK, A267_1, c267_1, e267, aN, aO, bB, hi267_1⟩ := at_T46 dM.out aD aL aM
                cases e267; (try replace aN := bt_ HB aN); (try replace aO := bt_ HB aO); have fL := mk_ hi267_1; have fM := mk_ bB; clear hi267_1 bB; replace aL := eq_true aL; replace aM := eq_true aM
                go_wp2_with (first | ((with_reducible refine gate_dst (N := 5) rfl ?_); (try (refine gate_guard (by rfl) ?_; dsimp only)); refine box_event ?hg (N := 5) ?hd (cs := #[.int .i64 0, .slice none 0 0]) (t := 46) ?hr ?_; (case hd => rfl); (case hg => rfl); (case hr => first | (go_simp; done) | (go_simp; rfl)); intro bC hg dN hbox hb; have n0_ := bb_ aA hb; have n1_ := bs_ HB hb; have n2_ := mk_ (hbox); have n3_ := gx_ hg HB; have n4_ := gx_ hg HB; have n5_ := nx_ hg aA; have n6_ := ny_ hg aA; clear aA; clear HB; have aA := n0_; have HB := n1_; have aJ := n2_; have fN := n3_; have fO := n4_; have bD := n5_; have cK := n6_; clear n0_ n1_ n2_ n3_ n4_ n5_ n6_; clear hb hbox hg; have fV := cK.out; have fW := bD.out; have fX : dN.cell? ⟨bC, 0, none⟩ = some (.int .i64 0) := bc_ aJ 0; have fY : dN.cell? ⟨bC, 1, none⟩ = some (.slice none 0 0) := bc_ aJ 1; have fZ := blk_frozen aJ.out 0; have gA := blk_frozen aJ.out 1))
                go_ret; exact ⟨by first | rfl | (simp [errW_none, errW_some] <;> rfl) | (simp [*, errW_none, errW_some] <;> rfl), bl_ HB⟩
               ·rw [if_neg aS] at H; have fI : decide (80 < (((rd_T46 ((rd_T93 l0_3 aB).f1) aD).f1).length : Int)) = false := decide_eq_false aS; have fJ : decide (80 < ((rd_T46 ((rd_T93 l0_3 aB).f1) aD).f1).length) = false := decide_eq_false (by omega); clear aS; have H' := mk_ H; clear H; have aL : 0 ≤ (aD : Int) := of_decide_eq_true (by first | (with_reducible assumption) | assumption); have aM : aD < (((rd_T93 l0_3 aB).f1).length : Int) := of_decide_eq_true (by first | (with_reducible assumption) | assumption); obtain ⟨fK, A267_1, c267_1, e267, aN, aO, bB, hi267_1⟩ := at_T46 dM.out aD aL aM
                cases e267; (try replace aN := bt_ HB aN); (try replace aO := bt_ HB aO); have fL := mk_ hi267_1; have fM := mk_ bB; clear hi267_1 bB; replace aL := eq_true aL; replace aM := eq_true aM
                go_wp2_with (first | ((with_reducible refine gate_dst (N := 5) rfl ?_); (try (refine gate_guard (by rfl) ?_; dsimp only)); refine box_event ?hg (N := 5) ?hd (cs := #[.int .i64 0, .slice none 0 0]) (t := 46) ?hr ?_; (case hd => rfl); (case hg => rfl); (case hr => first | (go_simp; done) | (go_simp; rfl)); intro bC hg dO hbox hb; have n0_ := bb_ aA hb; have n1_ := bs_ HB hb; have n2_ := mk_ (hbox); have n3_ := gx_ hg HB; have n4_ := gx_ hg HB; have n5_ := nx_ hg aA; have n6_ := ny_ hg aA; clear aA; clear HB; have aA := n0_; have HB := n1_; have aJ := n2_; have fN := n3_; have fO := n4_; have bD := n5_; have cK := n6_; clear n0_ n1_ n2_ n3_ n4_ n5_ n6_; clear hb hbox hg; have gB := cK.out; have gC := bD.out; have gD : dO.cell? ⟨bC, 0, none⟩ = some (.int .i64 0) := bc_ aJ 0; have gE : dO.cell? ⟨bC, 1, none⟩ = some (.slice none 0 0) := bc_ aJ 1; have gF := blk_frozen aJ.out 0; have gG := blk_frozen aJ.out 1))
                go_roundg k3
                case measure => have := HK1.out; have := HJ7.out; have := HK3.out; omega
                case rel => exact ⟨(wrap64 (aD + 1)), (by first | rfl | (simp; done) | (simp [*]; done)), H', ⟨by have := HK1.out; have := HJ7.out; have := HK3.out; omega⟩, ⟨fb_⟩, ⟨bl_ HB⟩⟩
              ·rw [if_neg bP] at H; exact absurd H (by simp)
             ·rw [if_neg bO] at H; exact absurd H (by simp)
            ·rw [if_neg aR] at H; have fH : decide (aD < (((rd_T93 l0_3 aB).f1).length : Int)) = false := decide_eq_false aR; clear aR; have H' := mk_ H; clear H
             go_wp2
             go_roundg k3
             case measure => have := HK1.out; have := HJ7.out; have := HK3.out; omega
             case rel => exact ⟨(wrap64 (aB + 1)), (by first | rfl | (simp; done) | (simp [*]; done)), H', ⟨by have := HK1.out; have := HJ7.out; have := HK3.out; omega⟩, ⟨bk_ aA⟩, ⟨bl_ HB⟩⟩
         ·rw [if_neg bA] at H; exact absurd H (by simp)
        ·rw [if_neg aZ] at H; exact absurd H (by simp)
    ·rw [if_neg c7] at H; have cG : decide (aB < (l0_3.length : Int)) = false := decide_eq_false c7; clear c7; obtain rfl := Option.some.inj H; have gH : wr.cell? ⟨aC, 0, none⟩ = some (.int .i64 a0_0) := bc_ aA 0; have gI : wr.cell? ⟨aC, 1, none⟩ = some (.int .i64 a0_1) := bc_ aA 1; have gJ : wr.cell? ⟨aC, 2, none⟩ = some (.int .i64 a0_2) := bc_ aA 2; have gK : wr.cell? ⟨aC, 3, none⟩ = some (.slice A0_3 l0_3.length c0_3) := bc_ aA 3; have gL := blk_frozen aA.out 0; have gM := blk_frozen aA.out 1; have gN := blk_frozen aA.out 2; have gO := blk_frozen aA.out 3
     go_wp2
     go_ret; exact ⟨by first | rfl | (simp [errW_none, errW_some] <;> rfl) | (simp [*, errW_none, errW_some] <;> rfl), bl_ HB⟩

/-! ### rillmeterref22_in: function 37 -/
def rillmeterref22_in.f (a0 : Int) (a1 : Int) (a2 : Int) : Option (Bool) := if a0 ≥ a1 then (some (decide (a0 ≤ a2))) else (some false)
set_option maxHeartbeats 80000000 in
set_option maxRecDepth 100000 in
theorem rillmeterref22_in.calls (a0 : Int) (a1 : Int) (a2 : Int) (r : Bool) (w : World) (h : rillmeterref22_in.f a0 a1 a2 = some r) :
    Calls Try.prog 37 #[.int .i64 a0, .int .i64 a1, .int .i64 a2] w fun e w' => e = .returned (.bool r) ∧ Drawn0 w w' := by
 have H : (if a0 ≥ a1 then (some (decide (a0 ≤ a2))) else (some false)) = some r := h; clear h
 by_cases c4 : a0 ≥ a1
 ·rw [if_pos c4] at H; have aA : decide (a1 ≤ a0) = true := decide_eq_true c4; clear c4; obtain rfl := Option.some.inj H
  go_enter Try.func37, Try.ntmps37
  go_wp2
  go_ret; exact ⟨by first | rfl | (simp; done) | (simp [*]; done), by repeat (first | exact Drawn0.refl _ | apply Drawn0.step)⟩
 ·rw [if_neg c4] at H; have aA : decide (a1 ≤ a0) = false := decide_eq_false c4; clear c4; obtain rfl := Option.some.inj H
  go_enter Try.func37, Try.ntmps37
  go_wp2
  go_ret; exact ⟨by first | rfl | (simp; done) | (simp [*]; done), by repeat (first | exact Drawn0.refl _ | apply Drawn0.step)⟩

/-! ### rillmeterref22_Sound: function 16 -/
def rillmeterref22_Sound.l0 : Nat → Int → Int → List (S88) → Option (Bool)
  | 0, _, _, _ => none
  | k + 1, x3, x270000, x270001 => if x3 < (x270001.length : Int) then (if 0 ≤ x3 then ((rillmeterref22_in.f ((rd_T88 x270001 x3).f0) 0 32767).bind fun t274 => (if t274 = true then ((rillmeterref22_in.f ((rd_T88 x270001 x3).f1) 0 65535).bind fun t275 => (if t275 = true then ((rillmeterref22_in.f ((rd_T88 x270001 x3).f2) 0 4294967295).bind fun t276 => (if t276 = true then (rillmeterref22_Sound.l0 k (wrap64 (x3 + 1)) x270000 x270001) else (some false))) else (some false))) else (some false))) else (none)) else ((rillmeterref22_in.f x270000 256 65535).bind fun t270 => (if t270 = true then ((rillmeterref22_in.f (x270001.length : Int) 1 64).bind fun t271 => (some t271)) else (some false)))
def rillmeterref22_Sound.f (k : Nat) (a0_0 : Int) (l0_1 : List (S88)) : Option (Bool) := rillmeterref22_Sound.l0 k 0 a0_0 l0_1
theorem rillmeterref22_Sound.mono_l : ∀ k, (∀ y0 y1 y2, LeO (rillmeterref22_Sound.l0 k y0 y1 y2) (rillmeterref22_Sound.l0 (k + 1) y0 y1 y2))
  | 0 => fun _ _ _ r h => by simp [rillmeterref22_Sound.l0] at h
  | k + 1 => by
    have ih0 := rillmeterref22_Sound.mono_l k
    · intro y0 y1 y2
      unfold rillmeterref22_Sound.l0
      repeat' first
      | (with_reducible exact ih0 _ _ _)
      | (with_reducible exact LeO.refl _)
      | (with_reducible exact LeO.none _)
      | (with_reducible refine LeO.ite ?_ ?_)
      | (with_reducible refine LeO.bind ?_ (fun _ => ?_))
      | exact ih0 _ _ _
      | exact LeO.none _
      | refine LeO.ite ?_ ?_
      | refine LeO.bind ?_ (fun _ => ?_)
theorem rillmeterref22_Sound.mono : ∀ a0 a1 k, LeO (rillmeterref22_Sound.f k a0 a1) (rillmeterref22_Sound.f (k + 1) a0 a1) := by
  intro a0 a1 k
  have ih0 := rillmeterref22_Sound.mono_l k
  unfold rillmeterref22_Sound.f
  repeat' first
      | (with_reducible exact ih0 _ _ _)
      | (with_reducible exact LeO.refl _)
      | (with_reducible exact LeO.none _)
      | (with_reducible refine LeO.ite ?_ ?_)
      | (with_reducible refine LeO.bind ?_ (fun _ => ?_))
      | exact ih0 _ _ _
      | exact LeO.none _
      | refine LeO.ite ?_ ?_
      | refine LeO.bind ?_ (fun _ => ?_)
set_option maxHeartbeats 80000000 in
set_option maxRecDepth 100000 in
theorem rillmeterref22_Sound.calls (k : Nat) (a0_0 : Int) (A0_1 : Option Addr) (c0_1 : Nat) (l0_1 : List (S88)) (r : Bool) (w : World) (hr0_1 : Kd.C k88 w A0_1 l0_1.length l0_1) (hc0_1 : l0_1.length ≤ c0_1) (h : rillmeterref22_Sound.f k a0_0 l0_1 = some r) :
    Calls Try.prog 16 #[.agg #[.int .i64 a0_0, .slice A0_1 l0_1.length c0_1]] w fun e w' => e = .returned (.bool r) ∧ Below w.heap.size w w' := by
 have hu46 := Try.underlying46; have hu88 := Try.underlying88; have aP := mk_ hr0_1; have bJ := mk_ hc0_1; clear hr0_1 hc0_1; have HB := mk_ (Below.refl w.heap.size w); have H : (rillmeterref22_Sound.l0 k 0 a0_0 l0_1) = some r := h; clear h; have H' := mk_ H; clear H
 go_enter Try.func16, Try.ntmps16
 go_wp2_with (first | ((with_reducible refine gate_dst (N := 1) rfl ?_); (try (refine gate_guard (by rfl) ?_; dsimp only)); refine box_event ?hg (N := 1) ?hd (cs := #[.int .i64 a0_0, .slice A0_1 l0_1.length c0_1]) (t := 46) ?hr ?_; (case hd => rfl); (case hg => rfl); (case hr => first | (go_simp; done) | (go_simp; rfl)); intro aJ hg w2 hbox hb; have n0_ := bs_ HB hb; have n1_ := mk_ (hbox); have n2_ := gx_ hg HB; have n3_ := gx_ hg HB; clear HB; have HB := n0_; have aA := n1_; have bK := n2_; have bL := n3_; clear n0_ n1_ n2_ n3_; clear hb hbox hg))
 go_loopg [3] k (fun kq v3 w' => ∃ (aB : Int), v3 = .int .i64 aB ∧ Aside0 (rillmeterref22_Sound.l0 kq aB a0_0 l0_1 = some r) ∧ Aside0 (kq ≤ k) ∧ Aside0 (w'.heap[aJ]? = some (.cells #[.int .i64 a0_0, (.slice A0_1 l0_1.length c0_1)] 46 (0, 0))) ∧ Aside0 (Below w.heap.size w w'))
 case atStart => exact ⟨(0), (by first | rfl | (simp; done) | (simp [*]; done)), H', ⟨Nat.le_refl _⟩, ⟨bk_ aA⟩, ⟨bl_ HB⟩⟩
 case round =>
  clear H'; (try clear c1); (try clear p2); obtain ⟨aB, rfl, HA, HK1, aA, HB⟩ := hrel
  cases gk with
  | zero => exact absurd HA.out (by simp [rillmeterref22_Sound.l0])
  | succ k1 =>
   have H := HA.out; clear HA; simp only [rillmeterref22_Sound.l0] at H
   by_cases c3 : aB < (l0_1.length : Int)
   ·rw [if_pos c3] at H; have bH : decide (aB < (l0_1.length : Int)) = true := decide_eq_true c3; clear c3
    by_cases c4 : 0 ≤ aB
    ·rw [if_pos c4] at H; have bM : decide (0 ≤ aB) = true := decide_eq_true c4; clear c4; replace H := Option.bind_eq_some_iff.mp H; obtain ⟨aZ, bA, H⟩ := H; replace H : (if aZ = true then ((rillmeterref22_in.f ((rd_T88 l0_1 aB).f1) 0 65535).bind fun aN => (if aN = true then ((rillmeterref22_in.f ((rd_T88 l0_1 aB).f2) 0 4294967295).bind fun aK => (if aK = true then (rillmeterref22_Sound.l0 k1 (wrap64 (aB + 1)) a0_0 l0_1) else (some false))) else (some false))) else (some false)) = some r := H; have A5 := mk_ bA; clear bA
     by_cases c6 : aZ = true
     ·subst c6
      have H1 : ((rillmeterref22_in.f ((rd_T88 l0_1 aB).f1) 0 65535).bind fun aN => (if aN = true then ((rillmeterref22_in.f ((rd_T88 l0_1 aB).f2) 0 4294967295).bind fun aK => (if aK = true then (rillmeterref22_Sound.l0 k1 (wrap64 (aB + 1)) a0_0 l0_1) else (some false))) else (some false))) = some r := by rw [if_pos rfl] at H; exact H
      clear H; have H := H1; clear H1; replace H := Option.bind_eq_some_iff.mp H; obtain ⟨aN, bB, H⟩ := H; replace H : (if aN = true then ((rillmeterref22_in.f ((rd_T88 l0_1 aB).f2) 0 4294967295).bind fun aK => (if aK = true then (rillmeterref22_Sound.l0 k1 (wrap64 (aB + 1)) a0_0 l0_1) else (some false))) else (some false)) = some r := H; have A7 := mk_ bB; clear bB
      by_cases c8 : aN = true
      ·subst c8
       have H1 : ((rillmeterref22_in.f ((rd_T88 l0_1 aB).f2) 0 4294967295).bind fun aK => (if aK = true then (rillmeterref22_Sound.l0 k1 (wrap64 (aB + 1)) a0_0 l0_1) else (some false))) = some r := by rw [if_pos rfl] at H; exact H
       clear H; have H := H1; clear H1; replace H := Option.bind_eq_some_iff.mp H; obtain ⟨aK, bC, H⟩ := H; replace H : (if aK = true then (rillmeterref22_Sound.l0 k1 (wrap64 (aB + 1)) a0_0 l0_1) else (some false)) = some r := H; have A9 := mk_ bC; clear bC
       by_cases aQ : aK = true
       ·subst aQ
        have H1 : (rillmeterref22_Sound.l0 k1 (wrap64 (aB + 1)) a0_0 l0_1) = some r := by rw [if_pos rfl] at H; exact H
        clear H; have H := H1; clear H1; have H' := mk_ H; clear H; have bN : wr.cell? ⟨aJ, 0, none⟩ = some (.int .i64 a0_0) := bc_ aA 0; have bO : wr.cell? ⟨aJ, 1, none⟩ = some (.slice A0_1 l0_1.length c0_1) := bc_ aA 1; have bP := blk_frozen aA.out 0; have bQ := blk_frozen aA.out 1; have aD : 0 ≤ (aB : Int) := of_decide_eq_true (by first | (with_reducible assumption) | assumption); have aE : aB < (l0_1.length : Int) := of_decide_eq_true (by first | (with_reducible assumption) | assumption); obtain ⟨aS, e272, aF, aG, aH⟩ := at_T88 aP.out aB aD aE
        cases e272; (try replace aF := bt_ HB aF); (try replace aG := bt_ HB aG); (try replace aH := bt_ HB aH); replace aD := eq_true aD; replace aE := eq_true aE
        go_wp2_with (first | ((with_reducible refine gate_dst (N := 4) rfl ?_); (try (refine gate_guard (by rfl) ?_; dsimp only)); refine box_event ?hg (N := 4) ?hd (cs := #[.int .i64 0, .int .i64 0, .int .i64 0]) (t := 88) ?hr ?_; (case hd => rfl); (case hg => rfl); (case hr => first | (go_simp; done) | (go_simp; rfl)); intro aI hg aT hbox hb; have n0_ := bb_ aA hb; have n1_ := bs_ HB hb; have n2_ := mk_ (hbox); have n3_ := gx_ hg HB; have n4_ := gx_ hg HB; have n5_ := nx_ hg aA; have n6_ := ny_ hg aA; clear aA; clear HB; have aA := n0_; have HB := n1_; have aC := n2_; have aU := n3_; have aV := n4_; have aL := n5_; have aM := n6_; clear n0_ n1_ n2_ n3_ n4_ n5_ n6_; clear hb hbox hg; have bR := aM.out; have bS := aL.out; have bT : aT.cell? ⟨aI, 0, none⟩ = some (.int .i64 0) := bc_ aC 0; have bU : aT.cell? ⟨aI, 1, none⟩ = some (.int .i64 0) := bc_ aC 1; have bV : aT.cell? ⟨aI, 2, none⟩ = some (.int .i64 0) := bc_ aC 2; have bW := blk_frozen aC.out 0; have bX := blk_frozen aC.out 1; have bY := blk_frozen aC.out 2) | ((with_reducible refine gate_callee (f := 37) rfl ?_); refine goesL_ (some 19) rfl rfl Try.func37 (by kernel_rfl) rfl #[.int .i64 ((rd_T88 l0_1 aB).f0), .int .i64 0, .int .i64 32767] rfl (by (try simp only [List.map_toArray, List.map_cons, List.map_nil]); first | done | rfl | (simp only [List.length_drop, List.length_take]; rfl)) ?_; (with_reducible refine (rillmeterref22_in.calls ((rd_T88 l0_1 aB).f0) 0 32767 true _ A5.out).mono ?_); rintro e w' ⟨rfl, ⟨nd, rfl⟩⟩; refine ⟨_, rfl, ?_⟩) | (go_at_call 37; (with_reducible refine (rillmeterref22_in.calls ((rd_T88 l0_1 aB).f1) 0 65535 true _ A7.out).mono ?_); rintro e w' ⟨rfl, ⟨nd, rfl⟩⟩) | (go_at_call 37; (with_reducible refine (rillmeterref22_in.calls ((rd_T88 l0_1 aB).f2) 0 4294967295 true _ A9.out).mono ?_); rintro e w' ⟨rfl, ⟨nd, rfl⟩⟩))
        go_roundg k1
        case measure => have := HK1.out; omega
        case rel => exact ⟨(wrap64 (aB + 1)), (by first | rfl | (simp; done) | (simp [*]; done)), H', ⟨by have := HK1.out; omega⟩, ⟨fb_⟩, ⟨bl_ HB⟩⟩
       ·replace aQ := Bool.eq_false_iff.mpr aQ; subst aQ
        have H1 : (some false) = some r := by rw [if_neg (show ¬ (false = true) by decide)] at H; exact H
        clear H; have H := H1; clear H1; obtain rfl := Option.some.inj H; have bZ : wr.cell? ⟨aJ, 0, none⟩ = some (.int .i64 a0_0) := bc_ aA 0; have cA : wr.cell? ⟨aJ, 1, none⟩ = some (.slice A0_1 l0_1.length c0_1) := bc_ aA 1; have cB := blk_frozen aA.out 0; have cC := blk_frozen aA.out 1; have aD : 0 ≤ (aB : Int) := of_decide_eq_true (by first | (with_reducible assumption) | assumption); have aE : aB < (l0_1.length : Int) := of_decide_eq_true (by first | (with_reducible assumption) | assumption); obtain ⟨aS, e272, aF, aG, aH⟩ := at_T88 aP.out aB aD aE
        cases e272; (try replace aF := bt_ HB aF); (try replace aG := bt_ HB aG); (try replace aH := bt_ HB aH); replace aD := eq_true aD; replace aE := eq_true aE
        go_wp2_with (first | ((with_reducible refine gate_dst (N := 4) rfl ?_); (try (refine gate_guard (by rfl) ?_; dsimp only)); refine box_event ?hg (N := 4) ?hd (cs := #[.int .i64 0, .int .i64 0, .int .i64 0]) (t := 88) ?hr ?_; (case hd => rfl); (case hg => rfl); (case hr => first | (go_simp; done) | (go_simp; rfl)); intro aI hg aW hbox hb; have n0_ := bb_ aA hb; have n1_ := bs_ HB hb; have n2_ := mk_ (hbox); have n3_ := gx_ hg HB; have n4_ := gx_ hg HB; have n5_ := nx_ hg aA; have n6_ := ny_ hg aA; clear aA; clear HB; have aA := n0_; have HB := n1_; have aC := n2_; have aU := n3_; have aV := n4_; have aL := n5_; have aM := n6_; clear n0_ n1_ n2_ n3_ n4_ n5_ n6_; clear hb hbox hg; have cD := aM.out; have cE := aL.out; have cF : aW.cell? ⟨aI, 0, none⟩ = some (.int .i64 0) := bc_ aC 0; have cG : aW.cell? ⟨aI, 1, none⟩ = some (.int .i64 0) := bc_ aC 1; have cH : aW.cell? ⟨aI, 2, none⟩ = some (.int .i64 0) := bc_ aC 2; have cI := blk_frozen aC.out 0; have cJ := blk_frozen aC.out 1; have cK := blk_frozen aC.out 2) | ((with_reducible refine gate_callee (f := 37) rfl ?_); refine goesL_ (some 19) rfl rfl Try.func37 (by kernel_rfl) rfl #[.int .i64 ((rd_T88 l0_1 aB).f0), .int .i64 0, .int .i64 32767] rfl (by (try simp only [List.map_toArray, List.map_cons, List.map_nil]); first | done | rfl | (simp only [List.length_drop, List.length_take]; rfl)) ?_; (with_reducible refine (rillmeterref22_in.calls ((rd_T88 l0_1 aB).f0) 0 32767 true _ A5.out).mono ?_); rintro e w' ⟨rfl, ⟨nd, rfl⟩⟩; refine ⟨_, rfl, ?_⟩) | (go_at_call 37; (with_reducible refine (rillmeterref22_in.calls ((rd_T88 l0_1 aB).f1) 0 65535 true _ A7.out).mono ?_); rintro e w' ⟨rfl, ⟨nd, rfl⟩⟩) | (go_at_call 37; (with_reducible refine (rillmeterref22_in.calls ((rd_T88 l0_1 aB).f2) 0 4294967295 false _ A9.out).mono ?_); rintro e w' ⟨rfl, ⟨nd, rfl⟩⟩))
        go_ret; exact ⟨by first | rfl | (simp [errW_none, errW_some] <;> rfl) | (simp [*, errW_none, errW_some] <;> rfl), bl_ HB⟩
      ·replace c8 := Bool.eq_false_iff.mpr c8; subst c8
       have H1 : (some false) = some r := by rw [if_neg (show ¬ (false = true) by decide)] at H; exact H
       clear H; have H := H1; clear H1; obtain rfl := Option.some.inj H; have cL : wr.cell? ⟨aJ, 0, none⟩ = some (.int .i64 a0_0) := bc_ aA 0; have cM : wr.cell? ⟨aJ, 1, none⟩ = some (.slice A0_1 l0_1.length c0_1) := bc_ aA 1; have cN := blk_frozen aA.out 0; have cO := blk_frozen aA.out 1; have aD : 0 ≤ (aB : Int) := of_decide_eq_true (by first | (with_reducible assumption) | assumption); have aE : aB < (l0_1.length : Int) := of_decide_eq_true (by first | (with_reducible assumption) | assumption); obtain ⟨aS, e272, aF, aG, aH⟩ := at_T88 aP.out aB aD aE
       cases e272; (try replace aF := bt_ HB aF); (try replace aG := bt_ HB aG); (try replace aH := bt_ HB aH); replace aD := eq_true aD; replace aE := eq_true aE
       go_wp2_with (first | ((with_reducible refine gate_dst (N := 4) rfl ?_); (try (refine gate_guard (by rfl) ?_; dsimp only)); refine box_event ?hg (N := 4) ?hd (cs := #[.int .i64 0, .int .i64 0, .int .i64 0]) (t := 88) ?hr ?_; (case hd => rfl); (case hg => rfl); (case hr => first | (go_simp; done) | (go_simp; rfl)); intro aI hg aX hbox hb; have n0_ := bb_ aA hb; have n1_ := bs_ HB hb; have n2_ := mk_ (hbox); have n3_ := gx_ hg HB; have n4_ := gx_ hg HB; have n5_ := nx_ hg aA; have n6_ := ny_ hg aA; clear aA; clear HB; have aA := n0_; have HB := n1_; have aC := n2_; have aU := n3_; have aV := n4_; have aL := n5_; have aM := n6_; clear n0_ n1_ n2_ n3_ n4_ n5_ n6_; clear hb hbox hg; have cP := aM.out; have cQ := aL.out; have cR : aX.cell? ⟨aI, 0, none⟩ = some (.int .i64 0) := bc_ aC 0; have cS : aX.cell? ⟨aI, 1, none⟩ = some (.int .i64 0) := bc_ aC 1; have cT : aX.cell? ⟨aI, 2, none⟩ = some (.int .i64 0) := bc_ aC 2; have cU := blk_frozen aC.out 0; have cV := blk_frozen aC.out 1; have cW := blk_frozen aC.out 2) | ((with_reducible refine gate_callee (f := 37) rfl ?_); refine goesL_ (some 19) rfl rfl Try.func37 (by kernel_rfl) rfl #[.int .i64 ((rd_T88 l0_1 aB).f0), .int .i64 0, .int .i64 32767] rfl (by (try simp only [List.map_toArray, List.map_cons, List.map_nil]); first | done | rfl | (simp only [List.length_drop, List.length_take]; rfl)) ?_; (with_reducible refine (rillmeterref22_in.calls ((rd_T88 l0_1 aB).f0) 0 32767 true _ A5.out).mono ?_); rintro e w' ⟨rfl, ⟨nd, rfl⟩⟩; refine ⟨_, rfl, ?_⟩) | (go_at_call 37; (with_reducible refine (rillmeterref22_in.calls ((rd_T88 l0_1 aB).f1) 0 65535 false _ A7.out).mono ?_); rintro e w' ⟨rfl, ⟨nd, rfl⟩⟩))
       go_ret; exact ⟨by first | rfl | (simp [errW_none, errW_some] <;> rfl) | (simp [*, errW_none, errW_some] <;> rfl), bl_ HB⟩
     ·replace c6 := Bool.eq_false_iff.mpr c6; subst c6
      have H1 : (some false) = some r := by rw [if_neg (show ¬ (false = true) by decide)] at H; exact H
      clear H; have H := H1; clear H1; obtain rfl := Option.some.inj H; have cX : wr.cell? ⟨aJ, 0, none⟩ = some (.int .i64 a0_0) := bc_ aA 0; have cY : wr.cell? ⟨aJ, 1, none⟩ = some (.slice A0_1 l0_1.length c0_1) := bc_ aA 1; have cZ := blk_frozen aA.out 0; have dA := blk_frozen aA.out 1; have aD : 0 ≤ (aB : Int) := of_decide_eq_true (by first | (with_reducible assumption) | assumption); have aE : aB < (l0_1.length : Int) := of_decide_eq_true (by first | (with_reducible assumption) | assumption); obtain ⟨aS, e272, aF, aG, aH⟩ := at_T88 aP.out aB aD aE
      cases e272; (try replace aF := bt_ HB aF); (try replace aG := bt_ HB aG); (try replace aH := bt_ HB aH); replace aD := eq_true aD; replace aE := eq_true aE
      go_wp2_with (first | ((with_reducible refine gate_dst (N := 4) rfl ?_); (try (refine gate_guard (by rfl) ?_; dsimp only)); refine box_event ?hg (N := 4) ?hd (cs := #[.int .i64 0, .int .i64 0, .int .i64 0]) (t := 88) ?hr ?_; (case hd => rfl); (case hg => rfl); (case hr => first | (go_simp; done) | (go_simp; rfl)); intro aI hg aY hbox hb; have n0_ := bb_ aA hb; have n1_ := bs_ HB hb; have n2_ := mk_ (hbox); have n3_ := gx_ hg HB; have n4_ := gx_ hg HB; have n5_ := nx_ hg aA; have n6_ := ny_ hg aA; clear aA; clear HB; have aA := n0_; have HB := n1_; have aC := n2_; have aU := n3_; have aV := n4_; have aL := n5_; have aM := n6_; clear n0_ n1_ n2_ n3_ n4_ n5_ n6_; clear hb hbox hg; have dB := aM.out; have dC := aL.out; have dD : aY.cell? ⟨aI, 0, none⟩ = some (.int .i64 0) := bc_ aC 0; have dE : aY.cell? ⟨aI, 1, none⟩ = some (.int .i64 0) := bc_ aC 1; have dF : aY.cell? ⟨aI, 2, none⟩ = some (.int .i64 0) := bc_ aC 2; have dG := blk_frozen aC.out 0; have dH := blk_frozen aC.out 1; have dI := blk_frozen aC.out 2) | ((with_reducible refine gate_callee (f := 37) rfl ?_); refine goesL_ (some 19) rfl rfl Try.func37 (by kernel_rfl) rfl #[.int .i64 ((rd_T88 l0_1 aB).f0), .int .i64 0, .int .i64 32767] rfl (by (try simp only [List.map_toArray, List.map_cons, List.map_nil]); first | done | rfl | (simp only [List.length_drop, List.length_take]; rfl)) ?_; (with_reducible refine (rillmeterref22_in.calls ((rd_T88 l0_1 aB).f0) 0 32767 false _ A5.out).mono ?_); rintro e w' ⟨rfl, ⟨nd, rfl⟩⟩; refine ⟨_, rfl, ?_⟩))
      go_ret; exact ⟨by first | rfl | (simp [errW_none, errW_some] <;> rfl) | (simp [*, errW_none, errW_some] <;> rfl), bl_ HB⟩
    ·rw [if_neg c4] at H; exact absurd H (by simp)
   ·rw [if_neg c3] at H; have bH : decide (aB < (l0_1.length : Int)) = false := decide_eq_false c3; clear c3; replace H := Option.bind_eq_some_iff.mp H; obtain ⟨bD, bE, H⟩ := H; replace H : (if bD = true then ((rillmeterref22_in.f (l0_1.length : Int) 1 64).bind fun aO => (some aO)) else (some false)) = some r := H; have bF := mk_ bE; clear bE
    by_cases aR : bD = true
    ·subst aR
     have H1 : ((rillmeterref22_in.f (l0_1.length : Int) 1 64).bind fun aO => (some aO)) = some r := by rw [if_pos rfl] at H; exact H
     clear H; have H := H1; clear H1; replace H := Option.bind_eq_some_iff.mp H; obtain ⟨aO, bG, H⟩ := H; replace H : (some aO) = some r := H; have bI := mk_ bG; clear bG; obtain rfl := Option.some.inj H; have dJ : wr.cell? ⟨aJ, 0, none⟩ = some (.int .i64 a0_0) := bc_ aA 0; have dK : wr.cell? ⟨aJ, 1, none⟩ = some (.slice A0_1 l0_1.length c0_1) := bc_ aA 1; have dL := blk_frozen aA.out 0; have dM := blk_frozen aA.out 1
     go_wp2_with (first | ((with_reducible refine gate_callee (f := 37) rfl ?_); refine goesL_ (some 35) rfl rfl Try.func37 (by kernel_rfl) rfl #[.int .i64 a0_0, .int .i64 256, .int .i64 65535] rfl (by (try simp only [List.map_toArray, List.map_cons, List.map_nil]); first | done | rfl | (simp only [List.length_drop, List.length_take]; rfl)) ?_; (with_reducible refine (rillmeterref22_in.calls a0_0 256 65535 true _ bF.out).mono ?_); rintro e w' ⟨rfl, ⟨nd, rfl⟩⟩; refine ⟨_, rfl, ?_⟩) | (go_at_call 37; (with_reducible refine (rillmeterref22_in.calls (l0_1.length : Int) 1 64 aO _ bI.out).mono ?_); rintro e w' ⟨rfl, ⟨nd, rfl⟩⟩))
     go_ret; exact ⟨by first | rfl | (simp [errW_none, errW_some] <;> rfl) | (simp [*, errW_none, errW_some] <;> rfl), bl_ HB⟩
    ·replace aR := Bool.eq_false_iff.mpr aR; subst aR
     have H1 : (some false) = some r := by rw [if_neg (show ¬ (false = true) by decide)] at H; exact H
     clear H; have H := H1; clear H1; obtain rfl := Option.some.inj H; have dN : wr.cell? ⟨aJ, 0, none⟩ = some (.int .i64 a0_0) := bc_ aA 0; have dO : wr.cell? ⟨aJ, 1, none⟩ = some (.slice A0_1 l0_1.length c0_1) := bc_ aA 1; have dP := blk_frozen aA.out 0; have dQ := blk_frozen aA.out 1
     go_wp2_with (first | ((with_reducible refine gate_callee (f := 37) rfl ?_); refine goesL_ (some 35) rfl rfl Try.func37 (by kernel_rfl) rfl #[.int .i64 a0_0, .int .i64 256, .int .i64 65535] rfl (by (try simp only [List.map_toArray, List.map_cons, List.map_nil]); first | done | rfl | (simp only [List.length_drop, List.length_take]; rfl)) ?_; (with_reducible refine (rillmeterref22_in.calls a0_0 256 65535 false _ bF.out).mono ?_); rintro e w' ⟨rfl, ⟨nd, rfl⟩⟩; refine ⟨_, rfl, ?_⟩))
     go_ret; exact ⟨by first | rfl | (simp [errW_none, errW_some] <;> rfl) | (simp [*, errW_none, errW_some] <;> rfl), bl_ HB⟩

end Go.Proofs.Ytojmpdjbhplgkaa.PIpfixPuts
