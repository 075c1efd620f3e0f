/- The functions that a law uses, each as a plain function, with the proof that a call of the Go function comes to its answer. Condition of each: the arguments read as the data that it names, and the plain function has an answer. Written by a program of this session (standin.py). -/
import Derived.Test.YtljmjjeghebdpaaPElasticNewsx0
import Derived.Test.YtljmjjeghebdpaaShort
import Derived.Lib.SliceRun
import Derived.Test.YtljmjjeghebdpaaPressMore
namespace Go.Proofs.Ytljmjjeghebdpaa.PElasticNews
open Go.RowKit Go.Proofs.YtljmjjeghebdpaaW.PrintWords Go.Proofs.YtljmjjeghebdpaaW.PrintLast Go.Proofs.YtljmjjeghebdpaaW.PrintMore Go.Proofs.Ytljmjjeghebdpaa.Short Go.Proofs.Ytljmjjeghebdpaa.Press Go.Proofs.Ytljmjjeghebdpaa.PressMore
attribute [local go_sem] max2_int min2_int max_two min_two max_three min_three max_four min_four   -- for this text's walks alone
set_option linter.unusedVariables false
set_option linter.unusedSimpArgs false

/-! ### rillmeterref11_Right: function 39 -/
mutual
def rillmeterref11_Right.j0 : Nat → Bool → Int → Int → List (List Int) → Option (Bool)
  | 0, _, _, _, _ => none
  | k + 1, x25, x354000, x354001, x354002 => if x25 = true then (some false) else (rillmeterref11_Right.l0 k 0 x354000 x354001 x354002)
def rillmeterref11_Right.l0 : Nat → Int → Int → Int → List (List Int) → Option (Bool)
  | 0, _, _, _, _ => none
  | k + 1, x3, x354000, x354001, x354002 => if x3 < (x354002.length : Int) then (if 0 ≤ x3 then (if ((rd_L9 x354002 x3).length : Int) = 0 then (rillmeterref11_Right.j2 k x3 ((rd_L9 x354002 x3).length : Int) true x354000 x354001 x354002) else (if ((rd_L9 x354002 x3).length : Int) > 256 then (rillmeterref11_Right.j2 k x3 ((rd_L9 x354002 x3).length : Int) true x354000 x354001 x354002) else (if 0 < (x354002.length : Int) then (rillmeterref11_Right.j2 k x3 ((rd_L9 x354002 x3).length : Int) (((rd_L9 x354002 x3).length : Int) != ((rd_L9 x354002 0).length : Int)) x354000 x354001 x354002) else (none)))) else (none)) else (some true)
def rillmeterref11_Right.j2 : Nat → Int → Int → Bool → Int → Int → List (List Int) → Option (Bool)
  | 0, _, _, _, _, _, _ => none
  | k + 1, x3, x4, x53, x354000, x354001, x354002 => if x53 = true then (some false) else (rillmeterref11_Right.l1 k x3 x4 0 x354000 x354001 x354002)
def rillmeterref11_Right.l1 : Nat → Int → Int → Int → Int → Int → List (List Int) → Option (Bool)
  | 0, _, _, _, _, _, _ => none
  | k + 1, x3, x4, x5, x354000, x354001, x354002 => if x5 < x4 then (if 0 ≤ x3 then (if x3 < (x354002.length : Int) then (if 0 ≤ x5 then (if x5 < ((rd_L9 x354002 x3).length : Int) then (if (rd (rd_L9 x354002 x3) x5) < 0 then (some false) else (if (rd (rd_L9 x354002 x3) x5) > x354001 then (some false) else (rillmeterref11_Right.l1 k x3 x4 (wrap64 (x5 + 1)) x354000 x354001 x354002))) else (none)) else (none)) else (none)) else (none)) else (rillmeterref11_Right.l0 k (wrap64 (x3 + 1)) x354000 x354001 x354002)
end
def rillmeterref11_Right.f (k : Nat) (a0_0 : Int) (a0_1 : Int) (l0_2 : List (List Int)) : Option (Bool) := if a0_1 < 1 then (rillmeterref11_Right.j0 k true a0_0 a0_1 l0_2) else (if a0_1 > 1099511627776 then (rillmeterref11_Right.j0 k true a0_0 a0_1 l0_2) else (if (l0_2.length : Int) = 0 then (rillmeterref11_Right.j0 k true a0_0 a0_1 l0_2) else (rillmeterref11_Right.j0 k (decide ((l0_2.length : Int) > 7)) a0_0 a0_1 l0_2)))
theorem rillmeterref11_Right.mono_l : ∀ k, (∀ y0 y1 y2 y3, LeO (rillmeterref11_Right.j0 k y0 y1 y2 y3) (rillmeterref11_Right.j0 (k + 1) y0 y1 y2 y3)) ∧ (∀ y0 y1 y2 y3, LeO (rillmeterref11_Right.l0 k y0 y1 y2 y3) (rillmeterref11_Right.l0 (k + 1) y0 y1 y2 y3)) ∧ (∀ y0 y1 y2 y3 y4 y5, LeO (rillmeterref11_Right.j2 k y0 y1 y2 y3 y4 y5) (rillmeterref11_Right.j2 (k + 1) y0 y1 y2 y3 y4 y5)) ∧ (∀ y0 y1 y2 y3 y4 y5, LeO (rillmeterref11_Right.l1 k y0 y1 y2 y3 y4 y5) (rillmeterref11_Right.l1 (k + 1) y0 y1 y2 y3 y4 y5))
  | 0 => ⟨fun _ _ _ _ r h => by simp [rillmeterref11_Right.j0] at h, fun _ _ _ _ r h => by simp [rillmeterref11_Right.l0] at h, fun _ _ _ _ _ _ r h => by simp [rillmeterref11_Right.j2] at h, fun _ _ _ _ _ _ r h => by simp [rillmeterref11_Right.l1] at h⟩
  | k + 1 => by
    obtain ⟨ih0, ih1, ih2, ih3⟩ := rillmeterref11_Right.mono_l k
    refine ⟨?_, ?_, ?_, ?_⟩
    · intro y0 y1 y2 y3
      unfold rillmeterref11_Right.j0
      repeat' first
      | (with_reducible exact ih0 _ _ _ _)
      | (with_reducible exact ih1 _ _ _ _)
      | (with_reducible exact ih2 _ _ _ _ _ _)
      | (with_reducible exact ih3 _ _ _ _ _ _)
      | (with_reducible exact LeO.refl _)
      | (with_reducible exact LeO.none _)
      | (with_reducible refine LeO.ite ?_ ?_)
      | (with_reducible refine LeO.bind ?_ (fun _ => ?_))
      | exact ih0 _ _ _ _
      | exact ih1 _ _ _ _
      | exact ih2 _ _ _ _ _ _
      | exact ih3 _ _ _ _ _ _
      | exact LeO.none _
      | refine LeO.ite ?_ ?_
      | refine LeO.bind ?_ (fun _ => ?_)
    · intro y0 y1 y2 y3
      unfold rillmeterref11_Right.l0
      repeat' first
      | (with_reducible exact ih0 _ _ _ _)
      | (with_reducible exact ih1 _ _ _ _)
      | (with_reducible exact ih2 _ _ _ _ _ _)
      | (with_reducible exact ih3 _ _ _ _ _ _)
      | (with_reducible exact LeO.refl _)
      | (with_reducible exact LeO.none _)
      | (with_reducible refine LeO.ite ?_ ?_)
      | (with_reducible refine LeO.bind ?_ (fun _ => ?_))
      | exact ih0 _ _ _ _
      | exact ih1 _ _ _ _
      | exact ih2 _ _ _ _ _ _
      | exact ih3 _ _ _ _ _ _
      | exact LeO.none _
      | refine LeO.ite ?_ ?_
      | refine LeO.bind ?_ (fun _ => ?_)
    · intro y0 y1 y2 y3 y4 y5
      unfold rillmeterref11_Right.j2
      repeat' first
      | (with_reducible exact ih0 _ _ _ _)
      | (with_reducible exact ih1 _ _ _ _)
      | (with_reducible exact ih2 _ _ _ _ _ _)
      | (with_reducible exact ih3 _ _ _ _ _ _)
      | (with_reducible exact LeO.refl _)
      | (with_reducible exact LeO.none _)
      | (with_reducible refine LeO.ite ?_ ?_)
      | (with_reducible refine LeO.bind ?_ (fun _ => ?_))
      | exact ih0 _ _ _ _
      | exact ih1 _ _ _ _
      | exact ih2 _ _ _ _ _ _
      | exact ih3 _ _ _ _ _ _
      | exact LeO.none _
      | refine LeO.ite ?_ ?_
      | refine LeO.bind ?_ (fun _ => ?_)
    · intro y0 y1 y2 y3 y4 y5
      unfold rillmeterref11_Right.l1
      repeat' first
      | (with_reducible exact ih0 _ _ _ _)
      | (with_reducible exact ih1 _ _ _ _)
      | (with_reducible exact ih2 _ _ _ _ _ _)
      | (with_reducible exact ih3 _ _ _ _ _ _)
      | (with_reducible exact LeO.refl _)
      | (with_reducible exact LeO.none _)
      | (with_reducible refine LeO.ite ?_ ?_)
      | (with_reducible refine LeO.bind ?_ (fun _ => ?_))
      | exact ih0 _ _ _ _
      | exact ih1 _ _ _ _
      | exact ih2 _ _ _ _ _ _
      | exact ih3 _ _ _ _ _ _
      | exact LeO.none _
      | refine LeO.ite ?_ ?_
      | refine LeO.bind ?_ (fun _ => ?_)
theorem rillmeterref11_Right.mono : ∀ a0 a1 a2 k, LeO (rillmeterref11_Right.f k a0 a1 a2) (rillmeterref11_Right.f (k + 1) a0 a1 a2) := by
  intro a0 a1 a2 k
  obtain ⟨ih0, ih1, ih2, ih3⟩ := rillmeterref11_Right.mono_l k
  unfold rillmeterref11_Right.f
  repeat' first
      | (with_reducible exact ih0 _ _ _ _)
      | (with_reducible exact ih1 _ _ _ _)
      | (with_reducible exact ih2 _ _ _ _ _ _)
      | (with_reducible exact ih3 _ _ _ _ _ _)
      | (with_reducible exact LeO.refl _)
      | (with_reducible exact LeO.none _)
      | (with_reducible refine LeO.ite ?_ ?_)
      | (with_reducible refine LeO.bind ?_ (fun _ => ?_))
      | exact ih0 _ _ _ _
      | exact ih1 _ _ _ _
      | exact ih2 _ _ _ _ _ _
      | exact ih3 _ _ _ _ _ _
      | exact LeO.none _
      | refine LeO.ite ?_ ?_
      | refine LeO.bind ?_ (fun _ => ?_)
set_option maxHeartbeats 80000000 in
set_option maxRecDepth 100000 in
theorem rillmeterref11_Right.calls (k : Nat) (a0_0 : Int) (a0_1 : Int) (A0_2 : Option Addr) (c0_2 : Nat) (l0_2 : List (List Int)) (r : Bool) (w : World) (hr0_2 : Kd.C (Kd.slice 3 (Kd.int .i64)) w A0_2 l0_2.length l0_2) (hc0_2 : l0_2.length ≤ c0_2) (h : rillmeterref11_Right.f k a0_0 a0_1 l0_2 = some r) :
    Calls Try.prog 39 #[.agg #[.int .u64 a0_0, .int .i64 a0_1, .slice A0_2 l0_2.length c0_2]] w fun e w' => e = .returned (.bool r) ∧ Below w.heap.size w w' := by
 have hu30 := Try.underlying30; have aR := mk_ hr0_2; have fI := mk_ hc0_2; clear hr0_2 hc0_2; have HB := mk_ (Below.refl w.heap.size w); have H : (if a0_1 < 1 then (rillmeterref11_Right.j0 k true a0_0 a0_1 l0_2) else (if a0_1 > 1099511627776 then (rillmeterref11_Right.j0 k true a0_0 a0_1 l0_2) else (if (l0_2.length : Int) = 0 then (rillmeterref11_Right.j0 k true a0_0 a0_1 l0_2) else (rillmeterref11_Right.j0 k (decide ((l0_2.length : Int) > 7)) a0_0 a0_1 l0_2)))) = some r := h; clear h; have HC2 := mk_ H; clear H
 go_enter Try.func39, Try.ntmps39
 go_upto_region 1 with (first | ((with_reducible refine gate_dst (N := 1) rfl ?_); (try (refine gate_guard (by rfl) ?_; dsimp only)); refine box_event ?hg (N := 1) ?hd (cs := #[.int .u64 a0_0, .int .i64 a0_1, .slice A0_2 l0_2.length c0_2]) (t := 30) ?hr ?_; (case hd => rfl); (case hg => rfl); (case hr => first | (go_simp; done) | (go_simp; rfl)); intro aC hg w3 hbox hb; have n0_ := bs_ HB hb; have n1_ := mk_ (hbox); have n2_ := gx_ hg HB; have n3_ := gx_ hg HB; clear HB; have HB := n0_; have aA := n1_; have dE := n2_; have dF := n3_; clear n0_ n1_ n2_ n3_; clear hb hbox hg))
 repeat (go_quiet (first | ((with_reducible refine gate_dst (N := 1) rfl ?_); (try (refine gate_guard (by rfl) ?_; dsimp only)); refine box_event ?hg (N := 1) ?hd (cs := #[.int .u64 a0_0, .int .i64 a0_1, .slice A0_2 l0_2.length c0_2]) (t := 30) ?hr ?_; (case hd => rfl); (case hg => rfl); (case hr => first | (go_simp; done) | (go_simp; rfl)); intro aC hg w3 hbox hb; have n0_ := bs_ HB hb; have n1_ := mk_ (hbox); have n2_ := gx_ hg HB; have n3_ := gx_ hg HB; clear HB; have HB := n0_; have aA := n1_; have dE := n2_; have dF := n3_; clear n0_ n1_ n2_ n3_; clear hb hbox hg)); go_upto_region 1 with (first | ((with_reducible refine gate_dst (N := 1) rfl ?_); (try (refine gate_guard (by rfl) ?_; dsimp only)); refine box_event ?hg (N := 1) ?hd (cs := #[.int .u64 a0_0, .int .i64 a0_1, .slice A0_2 l0_2.length c0_2]) (t := 30) ?hr ?_; (case hd => rfl); (case hg => rfl); (case hr => first | (go_simp; done) | (go_simp; rfl)); intro aC hg w3 hbox hb; have n0_ := bs_ HB hb; have n1_ := mk_ (hbox); have n2_ := gx_ hg HB; have n3_ := gx_ hg HB; clear HB; have HB := n0_; have aA := n1_; have dE := n2_; have dF := n3_; clear n0_ n1_ n2_ n3_; clear hb hbox hg)))
 (try simp only [Act.put, sa_, sb_, sc_])
 go_cut [25] (fun fA wc => ∃ (kq : Nat) (bR : Bool), fA = .bool bR ∧ Aside0 (rillmeterref11_Right.j0 kq bR a0_0 a0_1 l0_2 = some r) ∧ Aside0 (kq ≤ k) ∧ Aside0 (wc.heap[aC]? = some (.cells #[.int .u64 a0_0, .int .i64 a0_1, (.slice A0_2 l0_2.length c0_2)] 30 (0, 0))) ∧ Aside0 (Below w.heap.size w wc))
 case first =>
  have H := HC2.out; clear HC2
  by_cases c4 : a0_1 < 1
  ·rw [if_pos c4] at H; have aM : decide (a0_1 < 1) = true := decide_eq_true c4; clear c4
   (first | rw [aM] | (simp only [i64_w, i32_w]; rw [aM]) | skip)
   have H' := mk_ H; clear H; obtain ⟨bS, bT, bU⟩ := cz3_ aA; obtain ⟨bV, bW, bX⟩ := fz3_ aA
   go_wp2
   repeat (go_quiet (fail); try go_wp2)
   go_meet
   case rel => exact ⟨_, (true), (by first | rfl | (simp; done) | (simp [*]; done)), H', ⟨by first | omega | exact Nat.le_refl _⟩, ⟨bk_ aA⟩, ⟨bl_ HB⟩⟩
  ·rw [if_neg c4] at H; have aM : decide (a0_1 < 1) = false := decide_eq_false c4; clear c4
   (first | rw [aM] | (simp only [i64_w, i32_w]; rw [aM]) | skip)
   by_cases c6 : a0_1 > 1099511627776
   ·rw [if_pos c6] at H; have bF : decide (1099511627776 < a0_1) = true := decide_eq_true c6; clear c6; have H' := mk_ H; clear H; obtain ⟨bY, bZ, cA⟩ := cz3_ aA; obtain ⟨cB, cC, cD⟩ := fz3_ aA
    go_wp2
    repeat (go_quiet (fail); try go_wp2)
    go_meet
    case rel => exact ⟨_, (true), (by first | rfl | (simp; done) | (simp [*]; done)), H', ⟨by first | omega | exact Nat.le_refl _⟩, ⟨bk_ aA⟩, ⟨bl_ HB⟩⟩
   ·rw [if_neg c6] at H; have bF : decide (1099511627776 < a0_1) = false := decide_eq_false c6; clear c6
    by_cases c8 : (l0_2.length : Int) = 0
    ·rw [if_pos c8] at H; have bG : ((l0_2.length : Int) == 0) = true := beq_iff_eq.mpr c8; have bH : ((l0_2.length : Int) != 0) = false := bne_eq_false_iff_eq.mpr c8; clear c8; have H' := mk_ H; clear H; obtain ⟨cE, cF, cG⟩ := cz3_ aA; obtain ⟨cH, cI, cJ⟩ := fz3_ aA
     go_wp2
     repeat (go_quiet (fail); try go_wp2)
     go_meet
     case rel => exact ⟨_, (true), (by first | rfl | (simp; done) | (simp [*]; done)), H', ⟨by first | omega | exact Nat.le_refl _⟩, ⟨bk_ aA⟩, ⟨bl_ HB⟩⟩
    ·rw [if_neg c8] at H; have bG : ((l0_2.length : Int) == 0) = false := beq_eq_false_iff_ne.mpr c8; have bH : ((l0_2.length : Int) != 0) = true := bne_iff_ne.mpr c8
     have cK : ¬ (l0_2 = []) := fun h_ => c8 (by rw [h_]; rfl)
     have H' := mk_ H; clear H; obtain ⟨cL, cM, cN⟩ := cz3_ aA; obtain ⟨cO, cP, cQ⟩ := fz3_ aA
     go_wp2
     repeat (go_quiet (fail); try go_wp2)
     go_meet
     case rel => exact ⟨_, (decide ((l0_2.length : Int) > 7)), (by first | rfl | (simp; done) | (simp [*]; done)), H', ⟨by first | omega | exact Nat.le_refl _⟩, ⟨bk_ aA⟩, ⟨bl_ HB⟩⟩
 case rest =>
  clear HC2; (try clear p2); (try clear c3); (try clear c4); (try clear aM); (try clear c6); (try clear bF); (try clear c8); (try clear bG); (try clear bH); (try clear cK); (try clear cL); (try clear cM); (try clear cN); (try clear bS); (try clear bT); (try clear bU); (try clear bY); (try clear bZ); (try clear cA); (try clear cE); (try clear cF); (try clear cG); (try clear cO); (try clear cP); (try clear cQ); (try clear bV); (try clear bW); (try clear bX); (try clear cB); (try clear cC); (try clear cD); (try clear cH); (try clear cI); (try clear cJ); obtain ⟨kq, bR, rfl, HA, HJ1, aA, HB⟩ := hcut
  cases kq with
  | zero => exact absurd HA.out (by simp [rillmeterref11_Right.j0])
  | succ cW =>
   have H := HA.out; clear HA; simp only [rillmeterref11_Right.j0] at H
   by_cases aS : bR = true
   ·subst aS
    have H1 : (some false) = some r := by rw [if_pos rfl] at H; exact H
    clear H; have H := H1; clear H1; obtain rfl := Option.some.inj H
    go_wp2
    repeat (go_quiet (fail); try go_wp2)
    go_ret; exact ⟨by first | rfl | (simp [errW_none, errW_some] <;> rfl) | (simp [*, errW_none, errW_some] <;> rfl), bl_ HB⟩
   ·replace aS := Bool.eq_false_iff.mpr aS; subst aS
    have H1 : (rillmeterref11_Right.l0 cW 0 a0_0 a0_1 l0_2) = some r := by rw [if_neg (show ¬ (false = true) by decide)] at H; exact H
    clear H; have H := H1; clear H1; have H' := mk_ H; clear H
    go_wp2
    repeat (go_quiet (fail); try go_wp2)
    go_loopg [3] cW (fun kq v3 w' => ∃ (aB : Int), v3 = .int .i64 aB ∧ Aside0 (rillmeterref11_Right.l0 kq aB a0_0 a0_1 l0_2 = some r) ∧ Aside0 (kq ≤ cW) ∧ Aside0 (w'.heap[aC]? = some (.cells #[.int .u64 a0_0, .int .i64 a0_1, (.slice A0_2 l0_2.length c0_2)] 30 (0, 0))) ∧ Aside0 (Below w.heap.size w w'))
    case atStart => exact ⟨(0), (by first | rfl | (simp; done) | (simp [*]; done)), H', ⟨Nat.le_refl _⟩, ⟨bk_ aA⟩, ⟨bl_ HB⟩⟩
    case round =>
     clear H'; (try clear c1); (try clear p2); (try clear c3); (try clear c4); (try clear aM); (try clear c6); (try clear bF); (try clear c8); (try clear bG); (try clear bH); (try clear cK); (try clear aS); (try clear cL); (try clear cM); (try clear cN); (try clear bS); (try clear bT); (try clear bU); (try clear bY); (try clear bZ); (try clear cA); (try clear cE); (try clear cF); (try clear cG); (try clear cO); (try clear cP); (try clear cQ); (try clear bV); (try clear bW); (try clear bX); (try clear cB); (try clear cC); (try clear cD); (try clear cH); (try clear cI); (try clear cJ); (try clear p2); obtain ⟨aB, rfl, HA, HK2, aA, HB⟩ := hrel
     cases gk with
     | zero => exact absurd HA.out (by simp [rillmeterref11_Right.l0])
     | succ k2 =>
      have H := HA.out; clear HA; simp only [rillmeterref11_Right.l0] at H
      by_cases aO : aB < (l0_2.length : Int)
      ·rw [if_pos aO] at H; have cX : decide (aB < (l0_2.length : Int)) = true := decide_eq_true aO; clear aO
       by_cases bA : 0 ≤ aB
       ·rw [if_pos bA] at H; have dG : decide (0 ≤ aB) = true := decide_eq_true bA; clear bA; have HC14 := mk_ H; clear H; obtain ⟨dH, dI, dJ⟩ := cz3_ aA; obtain ⟨dK, dL, dM⟩ := fz3_ aA; have bI : 0 ≤ (aB : Int) := of_decide_eq_true (by first | (with_reducible assumption) | assumption); have bJ : aB < (l0_2.length : Int) := of_decide_eq_true (by first | (with_reducible assumption) | assumption); obtain ⟨aF, A354_0, c354_0, e354, bK, dN, hi354_0⟩ := at_L9 aR.out aB bI bJ
        cases e354; (try replace bK := bt_ HB bK); have fJ := mk_ hi354_0; have fK := mk_ dN; clear hi354_0 dN; replace bI := eq_true bI; replace bJ := eq_true bJ
        go_upto_region 7 with (fail)
        repeat (go_quiet (fail); go_upto_region 7 with (fail))
        go_cut [53] (fun fB wc => ∃ (kq : Nat) (cR : Bool), fB = .bool cR ∧ Aside0 (rillmeterref11_Right.j2 kq aB ((rd_L9 l0_2 aB).length : Int) cR a0_0 a0_1 l0_2 = some r) ∧ Aside0 (kq ≤ k2) ∧ Aside0 (wc.heap[aC]? = some (.cells #[.int .u64 a0_0, .int .i64 a0_1, (.slice (some aF) l0_2.length c0_2)] 30 (0, 0))) ∧ Aside0 (Below w.heap.size w wc))
        case first =>
         have H := HC14.out; clear HC14
         by_cases aL : ((rd_L9 l0_2 aB).length : Int) = 0
         ·rw [if_pos aL] at H; have aT : (((rd_L9 l0_2 aB).length : Int) == 0) = true := beq_iff_eq.mpr aL; have cY : (((rd_L9 l0_2 aB).length : Int) != 0) = false := bne_eq_false_iff_eq.mpr aL; clear aL
          (first | rw [aT] | (simp only [i64_w, i32_w]; rw [aT]) | skip)
          have H' := mk_ H; clear H
          go_wp2
          repeat (go_quiet (fail); try go_wp2)
          go_meet
          case rel => exact ⟨_, (true), (by first | rfl | (simp; done) | (simp [*]; done)), H', ⟨by have := HJ1.out; have := HK2.out; first | omega | exact Nat.le_refl _⟩, ⟨bk_ aA⟩, ⟨bl_ HB⟩⟩
         ·rw [if_neg aL] at H; have aT : (((rd_L9 l0_2 aB).length : Int) == 0) = false := beq_eq_false_iff_ne.mpr aL; have cY : (((rd_L9 l0_2 aB).length : Int) != 0) = true := bne_iff_ne.mpr aL
          have dO : ¬ ((rd_L9 l0_2 aB) = []) := fun h_ => aL (by rw [h_]; rfl)
          (first | rw [aT] | (simp only [i64_w, i32_w]; rw [aT]) | skip)
          by_cases aP : ((rd_L9 l0_2 aB).length : Int) > 256
          ·rw [if_pos aP] at H; have cZ : decide (256 < ((rd_L9 l0_2 aB).length : Int)) = true := decide_eq_true aP; have dA : decide (256 < (rd_L9 l0_2 aB).length) = true := decide_eq_true (by omega); clear aP; have H' := mk_ H; clear H
           go_wp2
           repeat (go_quiet (fail); try go_wp2)
           go_meet
           case rel => exact ⟨_, (true), (by first | rfl | (simp; done) | (simp [*]; done)), H', ⟨by have := HJ1.out; have := HK2.out; first | omega | exact Nat.le_refl _⟩, ⟨bk_ aA⟩, ⟨bl_ HB⟩⟩
          ·rw [if_neg aP] at H; have cZ : decide (256 < ((rd_L9 l0_2 aB).length : Int)) = false := decide_eq_false aP; have dA : decide (256 < (rd_L9 l0_2 aB).length) = false := decide_eq_false (by omega); clear aP
           by_cases bB : 0 < (l0_2.length : Int)
           ·rw [if_pos bB] at H; have dP : decide (0 < (l0_2.length : Int)) = true := decide_eq_true bB; have dQ : decide (0 < l0_2.length) = true := decide_eq_true (by omega); clear bB; have H' := mk_ H; clear H; obtain ⟨dR, dS, dT⟩ := cz3_ aA; obtain ⟨dU, dV, dW⟩ := fz3_ aA; have bL : 0 ≤ (0 : Int) := (by omega); have bM : 0 < (l0_2.length : Int) := of_decide_eq_true (by first | (with_reducible assumption) | assumption); obtain ⟨fC, A355_0, c355_0, e355, aU, dX, hi355_0⟩ := at_L9 aR.out 0 bL bM; obtain rfl : aF = fC := (by injection e355); have qi355 : (0 < l0_2.length) = True := eq_true (by omega); (try rw [show ((0 : Int)).toNat = 0 from rfl] at aU); (try rw [Addr.add_zero'] at aU); (try replace aU := bt_ HB aU); have fL := mk_ hi355_0; have fM := mk_ dX; clear hi355_0 dX; replace bL := eq_true bL; replace bM := eq_true bM
            go_wp2
            repeat (go_quiet (fail); try go_wp2)
            go_meet
            case rel => exact ⟨_, ((((rd_L9 l0_2 aB).length : Int) != ((rd_L9 l0_2 0).length : Int))), (by first | rfl | (simp; done) | (simp [*]; done)), H', ⟨by have := HJ1.out; have := HK2.out; first | omega | exact Nat.le_refl _⟩, ⟨bk_ aA⟩, ⟨bl_ HB⟩⟩
           ·rw [if_neg bB] at H; exact absurd H (by simp)
        case rest =>
         clear HC14; (try clear c1); (try clear p2); (try clear c3); (try clear p3); (try clear q3); (try clear hx3); (try clear qi3); (try clear c4); (try clear aM); (try clear c6); (try clear bF); (try clear c8); (try clear bG); (try clear bH); (try clear cK); (try clear aS); (try clear aO); (try clear cX); (try clear bA); (try clear dG); (try clear aL); (try clear aT); (try clear cY); (try clear dO); (try clear aP); (try clear cZ); (try clear dA); (try clear bB); (try clear dP); (try clear dQ); (try clear cL); (try clear cM); (try clear cN); (try clear dH); (try clear dI); (try clear dJ); (try clear dR); (try clear dS); (try clear dT); (try clear bS); (try clear bT); (try clear bU); (try clear bY); (try clear bZ); (try clear cA); (try clear cE); (try clear cF); (try clear cG); (try clear cO); (try clear cP); (try clear cQ); (try clear dK); (try clear dL); (try clear dM); (try clear dU); (try clear dV); (try clear dW); (try clear bV); (try clear bW); (try clear bX); (try clear cB); (try clear cC); (try clear cD); (try clear cH); (try clear cI); (try clear cJ); (try clear bK); (try clear aU); (try clear p2); (try clear bI); (try clear bL); (try clear bJ); (try clear bM); obtain ⟨kq, cR, rfl, HA, HJ13, aA, HB⟩ := hcut
         cases kq with
         | zero => exact absurd HA.out (by simp [rillmeterref11_Right.j2])
         | succ dB =>
          have H := HA.out; clear HA; simp only [rillmeterref11_Right.j2] at H
          by_cases bN : cR = true
          ·subst bN
           have H1 : (some false) = some r := by rw [if_pos rfl] at H; exact H
           clear H; have H := H1; clear H1; obtain rfl := Option.some.inj H
           go_wp2
           repeat (go_quiet (fail); try go_wp2)
           go_ret; exact ⟨by first | rfl | (simp [errW_none, errW_some] <;> rfl) | (simp [*, errW_none, errW_some] <;> rfl), bl_ HB⟩
          ·replace bN := Bool.eq_false_iff.mpr bN; subst bN
           have H1 : (rillmeterref11_Right.l1 dB aB ((rd_L9 l0_2 aB).length : Int) 0 a0_0 a0_1 l0_2) = some r := by rw [if_neg (show ¬ (false = true) by decide)] at H; exact H
           clear H; have H := H1; clear H1; have H' := mk_ H; clear H
           go_wp2
           repeat (go_quiet (fail); try go_wp2)
           go_loopg [5] dB (fun kq v5 w' => ∃ (aD : Int), v5 = .int .i64 aD ∧ Aside0 (rillmeterref11_Right.l1 kq aB ((rd_L9 l0_2 aB).length : Int) aD a0_0 a0_1 l0_2 = some r) ∧ Aside0 (kq ≤ dB) ∧ Aside0 (w'.heap[aC]? = some (.cells #[.int .u64 a0_0, .int .i64 a0_1, (.slice (some aF) l0_2.length c0_2)] 30 (0, 0))) ∧ Aside0 (Below w.heap.size w w'))
           case atStart => exact ⟨(0), (by first | rfl | (simp; done) | (simp [*]; done)), H', ⟨Nat.le_refl _⟩, ⟨bk_ aA⟩, ⟨bl_ HB⟩⟩
           case round =>
            clear H'; (try clear c1); (try clear c2); (try clear p2); (try clear c3); (try clear p3); (try clear q3); (try clear hx3); (try clear qi3); (try clear c4); (try clear aM); (try clear c6); (try clear bF); (try clear c8); (try clear bG); (try clear bH); (try clear cK); (try clear aS); (try clear aO); (try clear cX); (try clear bA); (try clear dG); (try clear aL); (try clear aT); (try clear cY); (try clear dO); (try clear aP); (try clear cZ); (try clear dA); (try clear bB); (try clear dP); (try clear dQ); (try clear bN); (try clear cL); (try clear cM); (try clear cN); (try clear dH); (try clear dI); (try clear dJ); (try clear dR); (try clear dS); (try clear dT); (try clear bS); (try clear bT); (try clear bU); (try clear bY); (try clear bZ); (try clear cA); (try clear cE); (try clear cF); (try clear cG); (try clear cO); (try clear cP); (try clear cQ); (try clear dK); (try clear dL); (try clear dM); (try clear dU); (try clear dV); (try clear dW); (try clear bV); (try clear bW); (try clear bX); (try clear cB); (try clear cC); (try clear cD); (try clear cH); (try clear cI); (try clear cJ); (try clear bK); (try clear aU); (try clear p2); (try clear p3); (try clear bI); (try clear bL); (try clear q3); (try clear bJ); (try clear bM)
            obtain ⟨aD, rfl, HA, HK4, aA, HB⟩ := hrel
            cases gk with
            | zero => exact absurd HA.out (by simp [rillmeterref11_Right.l1])
            | succ k4 =>
             have H := HA.out; clear HA; simp only [rillmeterref11_Right.l1] at H
             by_cases bC : aD < ((rd_L9 l0_2 aB).length : Int)
             ·rw [if_pos bC] at H; have fD : decide (aD < ((rd_L9 l0_2 aB).length : Int)) = true := decide_eq_true bC; clear bC
              by_cases cS : 0 ≤ aB
              ·rw [if_pos cS] at H; have fN : decide (0 ≤ aB) = true := decide_eq_true cS; clear cS
               by_cases cT : aB < (l0_2.length : Int)
               ·rw [if_pos cT] at H; have fO : decide (aB < (l0_2.length : Int)) = true := decide_eq_true cT; clear cT
                by_cases cU : 0 ≤ aD
                ·rw [if_pos cU] at H; have fP : decide (0 ≤ aD) = true := decide_eq_true cU; clear cU
                 by_cases cV : aD < ((rd_L9 l0_2 aB).length : Int)
                 ·rw [if_pos cV] at H; have fQ : decide (aD < ((rd_L9 l0_2 aB).length : Int)) = true := decide_eq_true cV; clear cV
                  by_cases bD : (rd (rd_L9 l0_2 aB) aD) < 0
                  ·rw [if_pos bD] at H; have fE : decide ((rd (rd_L9 l0_2 aB) aD) < 0) = true := decide_eq_true bD; clear bD; obtain rfl := Option.some.inj H; obtain ⟨fR, fS, fT⟩ := cz3_ aA; obtain ⟨fU, fV, fW⟩ := fz3_ aA; have aG : 0 ≤ (aB : Int) := of_decide_eq_true (by first | (with_reducible assumption) | assumption); have aH : aB < (l0_2.length : Int) := of_decide_eq_true (by first | (with_reducible assumption) | assumption); obtain ⟨bO, A356_0, c356_0, e356, aE, aQ, hi356_0⟩ := at_L9 aR.out aB aG aH; obtain rfl : aF = bO := (by injection e356); (try replace aE := bt_ HB aE); have bP := mk_ hi356_0; have dY := mk_ aQ; clear hi356_0 aQ; replace aG := eq_true aG; replace aH := eq_true aH; have aI : 0 ≤ (aD : Int) := of_decide_eq_true (by first | (with_reducible assumption) | assumption); have aJ : aD < ((rd_L9 l0_2 aB).length : Int) := of_decide_eq_true (by first | (with_reducible assumption) | assumption)
                   obtain ⟨dZ, e357, aK⟩ := Kd.at_int bP.out aD aI aJ
                   cases e357; (try replace aK := bt_ HB aK); replace aI := eq_true aI; replace aJ := eq_true aJ
                   go_wp2
                   repeat (go_quiet (fail); try go_wp2)
                   go_ret; exact ⟨by first | rfl | (simp [errW_none, errW_some] <;> rfl) | (simp [*, errW_none, errW_some] <;> rfl), bl_ HB⟩
                  ·rw [if_neg bD] at H; have fE : decide ((rd (rd_L9 l0_2 aB) aD) < 0) = false := decide_eq_false bD; clear bD
                   by_cases bE : (rd (rd_L9 l0_2 aB) aD) > a0_1
                   ·rw [if_pos bE] at H; have fF : decide (a0_1 < (rd (rd_L9 l0_2 aB) aD)) = true := decide_eq_true bE; clear bE; obtain rfl := Option.some.inj H; obtain ⟨fX, fY, fZ⟩ := cz3_ aA; obtain ⟨gA, gB, gC⟩ := fz3_ aA; have aG : 0 ≤ (aB : Int) := of_decide_eq_true (by first | (with_reducible assumption) | assumption); have aH : aB < (l0_2.length : Int) := of_decide_eq_true (by first | (with_reducible assumption) | assumption); obtain ⟨bO, A356_0, c356_0, e356, aE, aQ, hi356_0⟩ := at_L9 aR.out aB aG aH; obtain rfl : aF = bO := (by injection e356); (try replace aE := bt_ HB aE); have bP := mk_ hi356_0; have dY := mk_ aQ; clear hi356_0 aQ; replace aG := eq_true aG; replace aH := eq_true aH; have aI : 0 ≤ (aD : Int) := of_decide_eq_true (by first | (with_reducible assumption) | assumption); have aJ : aD < ((rd_L9 l0_2 aB).length : Int) := of_decide_eq_true (by first | (with_reducible assumption) | assumption)
                    obtain ⟨dZ, e357, aK⟩ := Kd.at_int bP.out aD aI aJ
                    cases e357; (try replace aK := bt_ HB aK); replace aI := eq_true aI; replace aJ := eq_true aJ; have aV : 0 ≤ (aB : Int) := of_decide_eq_true (by first | (with_reducible assumption) | assumption); have aW : aB < (l0_2.length : Int) := of_decide_eq_true (by first | (with_reducible assumption) | assumption); obtain ⟨dC, A358_0, c358_0, e358, aN, bQ, hi358_0⟩ := at_L9 aR.out aB aV aW; obtain rfl : aF = dC := (by injection e358); (try replace aN := bt_ HB aN); have dD := mk_ hi358_0; have fG := mk_ bQ; clear hi358_0 bQ; replace aV := eq_true aV; replace aW := eq_true aW; have ea_ := Option.some.inj (aE.symm.trans aN)
                    injection ea_ with ea_ en_ ec_
                    subst ea_; subst ec_; clear en_; have aX : 0 ≤ (aD : Int) := of_decide_eq_true (by first | (with_reducible assumption) | assumption); have aY : aD < ((rd_L9 l0_2 aB).length : Int) := of_decide_eq_true (by first | (with_reducible assumption) | assumption); obtain ⟨fH, e359, aZ⟩ := Kd.at_int dD.out aD aX aY
                    cases e359; (try replace aZ := bt_ HB aZ); replace aX := eq_true aX; replace aY := eq_true aY
                    go_wp2
                    repeat (go_quiet (fail); try go_wp2)
                    go_ret; exact ⟨by first | rfl | (simp [errW_none, errW_some] <;> rfl) | (simp [*, errW_none, errW_some] <;> rfl), bl_ HB⟩
                   ·rw [if_neg bE] at H; have fF : decide (a0_1 < (rd (rd_L9 l0_2 aB) aD)) = false := decide_eq_false bE; clear bE; have H' := mk_ H; clear H; obtain ⟨gD, gE, gF⟩ := cz3_ aA; obtain ⟨gG, gH, gI⟩ := fz3_ aA; have aG : 0 ≤ (aB : Int) := of_decide_eq_true (by first | (with_reducible assumption) | assumption); have aH : aB < (l0_2.length : Int) := of_decide_eq_true (by first | (with_reducible assumption) | assumption); obtain ⟨bO, A356_0, c356_0, e356, aE, aQ, hi356_0⟩ := at_L9 aR.out aB aG aH; obtain rfl : aF = bO := (by injection e356); (try replace aE := bt_ HB aE); have bP := mk_ hi356_0; have dY := mk_ aQ; clear hi356_0 aQ; replace aG := eq_true aG; replace aH := eq_true aH; have aI : 0 ≤ (aD : Int) := of_decide_eq_true (by first | (with_reducible assumption) | assumption); have aJ : aD < ((rd_L9 l0_2 aB).length : Int) := of_decide_eq_true (by first | (with_reducible assumption) | assumption)
                    obtain ⟨dZ, e357, aK⟩ := Kd.at_int bP.out aD aI aJ
                    cases e357; (try replace aK := bt_ HB aK); replace aI := eq_true aI; replace aJ := eq_true aJ; have aV : 0 ≤ (aB : Int) := of_decide_eq_true (by first | (with_reducible assumption) | assumption); have aW : aB < (l0_2.length : Int) := of_decide_eq_true (by first | (with_reducible assumption) | assumption); obtain ⟨dC, A358_0, c358_0, e358, aN, bQ, hi358_0⟩ := at_L9 aR.out aB aV aW; obtain rfl : aF = dC := (by injection e358); (try replace aN := bt_ HB aN); have dD := mk_ hi358_0; have fG := mk_ bQ; clear hi358_0 bQ; replace aV := eq_true aV; replace aW := eq_true aW; have ea_ := Option.some.inj (aE.symm.trans aN)
                    injection ea_ with ea_ en_ ec_
                    subst ea_; subst ec_; clear en_; have aX : 0 ≤ (aD : Int) := of_decide_eq_true (by first | (with_reducible assumption) | assumption); have aY : aD < ((rd_L9 l0_2 aB).length : Int) := of_decide_eq_true (by first | (with_reducible assumption) | assumption); obtain ⟨fH, e359, aZ⟩ := Kd.at_int dD.out aD aX aY
                    cases e359; (try replace aZ := bt_ HB aZ); replace aX := eq_true aX; replace aY := eq_true aY
                    go_wp2
                    repeat (go_quiet (fail); try go_wp2)
                    go_roundg k4
                    case measure => have := HJ1.out; have := HK2.out; have := HJ13.out; have := HK4.out; omega
                    case rel => exact ⟨(wrap64 (aD + 1)), (by first | rfl | (simp; done) | (simp [*]; done)), H', ⟨by have := HJ1.out; have := HK2.out; have := HJ13.out; have := HK4.out; omega⟩, ⟨bk_ aA⟩, ⟨bl_ HB⟩⟩
                 ·rw [if_neg cV] at H; exact absurd H (by simp)
                ·rw [if_neg cU] at H; exact absurd H (by simp)
               ·rw [if_neg cT] at H; exact absurd H (by simp)
              ·rw [if_neg cS] at H; exact absurd H (by simp)
             ·rw [if_neg bC] at H; have fD : decide (aD < ((rd_L9 l0_2 aB).length : Int)) = false := decide_eq_false bC; clear bC; have H' := mk_ H; clear H
              go_wp2
              repeat (go_quiet (fail); try go_wp2)
              go_roundg k4
              case measure => have := HJ1.out; have := HK2.out; have := HJ13.out; have := HK4.out; omega
              case rel => exact ⟨(wrap64 (aB + 1)), (by first | rfl | (simp; done) | (simp [*]; done)), H', ⟨by have := HJ1.out; have := HK2.out; have := HJ13.out; have := HK4.out; omega⟩, ⟨bk_ aA⟩, ⟨bl_ HB⟩⟩
       ·rw [if_neg bA] at H; exact absurd H (by simp)
      ·rw [if_neg aO] at H; have cX : decide (aB < (l0_2.length : Int)) = false := decide_eq_false aO; clear aO; obtain rfl := Option.some.inj H; obtain ⟨gJ, gK, gL⟩ := cz3_ aA; obtain ⟨gM, gN, gO⟩ := fz3_ aA
       go_wp2
       repeat (go_quiet (fail); try go_wp2)
       go_ret; exact ⟨by first | rfl | (simp [errW_none, errW_some] <;> rfl) | (simp [*, errW_none, errW_some] <;> rfl), bl_ HB⟩

/-! ### rillmeterref01_Mul: function 62 -/
def rillmeterref01_Mul.l0 : Nat → Int → Int → Int → Option (Int)
  | 0, _, _, _ => none
  | k + 1, x0, x1, x5 => if x1 > 0 then (if (Int.tmod x1 2) = 1 then (rillmeterref01_Mul.l0 k (Int.tmod (IntKind.u64.wrap (x0 + x0)) 2305843009213693951) (IntKind.u64.wrap (Int.tdiv x1 2)) (Int.tmod (IntKind.u64.wrap (x5 + x0)) 2305843009213693951)) else (rillmeterref01_Mul.l0 k (Int.tmod (IntKind.u64.wrap (x0 + x0)) 2305843009213693951) (IntKind.u64.wrap (Int.tdiv x1 2)) x5)) else (some x5)
def rillmeterref01_Mul.f (k : Nat) (a0 : Int) (a1 : Int) : Option (Int) := rillmeterref01_Mul.l0 k (Int.tmod a0 2305843009213693951) (Int.tmod a1 2305843009213693951) 0
theorem rillmeterref01_Mul.mono_l : ∀ k, (∀ y0 y1 y2, LeO (rillmeterref01_Mul.l0 k y0 y1 y2) (rillmeterref01_Mul.l0 (k + 1) y0 y1 y2))
  | 0 => fun _ _ _ r h => by simp [rillmeterref01_Mul.l0] at h
  | k + 1 => by
    have ih0 := rillmeterref01_Mul.mono_l k
    · intro y0 y1 y2
      unfold rillmeterref01_Mul.l0
      repeat' first
      | (with_reducible exact ih0 _ _ _)
      | (with_reducible exact LeO.refl _)
      | (with_reducible exact LeO.none _)
      | (with_reducible refine LeO.ite ?_ ?_)
      | (with_reducible refine LeO.bind ?_ (fun _ => ?_))
      | exact ih0 _ _ _
      | exact LeO.none _
      | refine LeO.ite ?_ ?_
      | refine LeO.bind ?_ (fun _ => ?_)
theorem rillmeterref01_Mul.mono : ∀ a0 a1 k, LeO (rillmeterref01_Mul.f k a0 a1) (rillmeterref01_Mul.f (k + 1) a0 a1) := by
  intro a0 a1 k
  have ih0 := rillmeterref01_Mul.mono_l k
  unfold rillmeterref01_Mul.f
  repeat' first
      | (with_reducible exact ih0 _ _ _)
      | (with_reducible exact LeO.refl _)
      | (with_reducible exact LeO.none _)
      | (with_reducible refine LeO.ite ?_ ?_)
      | (with_reducible refine LeO.bind ?_ (fun _ => ?_))
      | exact ih0 _ _ _
      | exact LeO.none _
      | refine LeO.ite ?_ ?_
      | refine LeO.bind ?_ (fun _ => ?_)
set_option maxHeartbeats 80000000 in
set_option maxRecDepth 100000 in
theorem rillmeterref01_Mul.calls (k : Nat) (a0 : Int) (a1 : Int) (r : Int) (w : World) (h : rillmeterref01_Mul.f k a0 a1 = some r) :
    Calls Try.prog 62 #[.int .u64 a0, .int .u64 a1] w fun e w' => e = .returned (.int .u64 r) ∧ Drawn0 w w' := by
 have H : (rillmeterref01_Mul.l0 k (Int.tmod a0 2305843009213693951) (Int.tmod a1 2305843009213693951) 0) = some r := h; clear h; have H' := mk_ H; clear H
 go_enter Try.func62, Try.ntmps62
 go_wp2
 go_loopg [0, 1, 5] k (fun kq v0 v1 v5 w' => ∃ (aB : Int) (aA : Int) (aC : Int), v0 = .int .u64 aB ∧ v1 = .int .u64 aA ∧ v5 = .int .u64 aC ∧ Aside0 (rillmeterref01_Mul.l0 kq aB aA aC = some r) ∧ Aside0 (kq ≤ k) ∧ Drawn0 w w')
 case atStart => exact ⟨(Int.tmod a0 2305843009213693951), (Int.tmod a1 2305843009213693951), (0), (by first | rfl | (simp; done) | (simp [*]; done)), (by first | rfl | (simp; done) | (simp [*]; done)), (by first | rfl | (simp; done) | (simp [*]; done)), H', ⟨Nat.le_refl _⟩, by repeat (first | exact Drawn0.refl _ | apply Drawn0.step)⟩
 case round =>
  clear H'; (try clear p2); obtain ⟨aB, aA, aC, rfl, rfl, rfl, HA, HK1, ⟨m1, rfl⟩⟩ := hrel
  cases gk with
  | zero => exact absurd HA.out (by simp [rillmeterref01_Mul.l0])
  | succ k1 =>
   have H := HA.out; clear HA; simp only [rillmeterref01_Mul.l0] at H
   by_cases c3 : aA > 0
   ·rw [if_pos c3] at H; have aD : decide (0 < aA) = true := decide_eq_true c3; clear c3
    by_cases c4 : (Int.tmod aA 2) = 1
    ·rw [if_pos c4] at H; have aE : ((Int.tmod aA 2) == 1) = true := beq_iff_eq.mpr c4; have aF : ((Int.tmod aA 2) != 1) = false := bne_eq_false_iff_eq.mpr c4; clear c4; have H' := mk_ H; clear H
     go_wp2
     go_roundg k1
     case measure => have := HK1.out; omega
     case rel => exact ⟨(Int.tmod (IntKind.u64.wrap (aB + aB)) 2305843009213693951), (IntKind.u64.wrap (Int.tdiv aA 2)), (Int.tmod (IntKind.u64.wrap (aC + aB)) 2305843009213693951), (by first | rfl | (simp; done) | (simp [*]; done)), (by first | rfl | (simp; done) | (simp [*]; done)), (by first | rfl | (simp; done) | (simp [*]; done)), H', ⟨by have := HK1.out; omega⟩, by repeat (first | exact Drawn0.refl _ | apply Drawn0.step)⟩
    ·rw [if_neg c4] at H; have aE : ((Int.tmod aA 2) == 1) = false := beq_eq_false_iff_ne.mpr c4; have aF : ((Int.tmod aA 2) != 1) = true := bne_iff_ne.mpr c4; have H' := mk_ H; clear H
     go_wp2
     go_roundg k1
     case measure => have := HK1.out; omega
     case rel => exact ⟨(Int.tmod (IntKind.u64.wrap (aB + aB)) 2305843009213693951), (IntKind.u64.wrap (Int.tdiv aA 2)), (aC), (by first | rfl | (simp; done) | (simp [*]; done)), (by first | rfl | (simp; done) | (simp [*]; done)), (by first | rfl | (simp; done) | (simp [*]; done)), H', ⟨by have := HK1.out; omega⟩, by repeat (first | exact Drawn0.refl _ | apply Drawn0.step)⟩
   ·rw [if_neg c3] at H; have aD : decide (0 < aA) = false := decide_eq_false c3; clear c3; obtain rfl := Option.some.inj H
    go_wp2
    go_ret; exact ⟨by first | rfl | (simp; done) | (simp [*]; done), by repeat (first | exact Drawn0.refl _ | apply Drawn0.step)⟩

end Go.Proofs.Ytljmjjeghebdpaa.PElasticNews
