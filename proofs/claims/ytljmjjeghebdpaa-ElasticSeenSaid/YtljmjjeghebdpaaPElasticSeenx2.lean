/- The functions that a law uses, each as a plain function, with the proof that a call of the Go function comes to its answer. Condition of each: the arguments read as the data that it names, and the plain function has an answer. Written by a program of this session (standin.py). -/
import Derived.Test.YtljmjjeghebdpaaPElasticSeenx0
import Derived.Test.YtljmjjeghebdpaaPElasticSeenx1
import Derived.Test.YtljmjjeghebdpaaShort
import Derived.Lib.SliceRun
import Derived.Test.YtljmjjeghebdpaaPressMore
namespace Go.Proofs.Ytljmjjeghebdpaa.PElasticSeen
open Go.RowKit Go.Proofs.YtljmjjeghebdpaaW.PrintWords Go.Proofs.YtljmjjeghebdpaaW.PrintLast Go.Proofs.YtljmjjeghebdpaaW.PrintMore Go.Proofs.Ytljmjjeghebdpaa.Short Go.Proofs.Ytljmjjeghebdpaa.Press Go.Proofs.Ytljmjjeghebdpaa.PressMore
attribute [local go_sem] max2_int min2_int max_two min_two max_three min_three max_four min_four   -- for this text's walks alone
set_option linter.unusedVariables false
set_option linter.unusedSimpArgs false

/-! ### least_Right: function 42 -/
mutual
def least_Right.j0 : Nat → Bool → Int → Int → List (List Int) → Option (Bool)
  | 0, _, _, _, _ => none
  | k + 1, x24, x106000, x106001, x106002 => if x24 = true then (some false) else (least_Right.l0 k x106002 (x106002.length : Int) 0 x106000 x106001 x106002)
def least_Right.l0 : Nat → List (List Int) → Int → Int → Int → Int → List (List Int) → Option (Bool)
  | 0, _, _, _, _, _, _ => none
  | k + 1, x26, x27, x28, x106000, x106001, x106002 => if x28 < x27 then (if 0 ≤ x28 then (if x28 < (x26.length : Int) then (if ((rd_L1 x26 x28).length : Int) < 1 then (some false) else (if ((rd_L1 x26 x28).length : Int) > 256 then (some false) else (if 0 < (x106002.length : Int) then (if ((rd_L1 x26 x28).length : Int) = ((rd_L1 x106002 0).length : Int) then ((slices_Min_int_int.f k (rd_L1 x26 x28)).bind fun t108 => (if t108 < 0 then (some false) else ((slices_Max_int_int.f k (rd_L1 x26 x28)).bind fun t109 => (if t109 > x106001 then (some false) else (least_Right.l0 k x26 x27 (wrap64 (x28 + 1)) x106000 x106001 x106002))))) else (some false)) else (none)))) else (none)) else (none)) else (some true)
end
def least_Right.f (k : Nat) (a0_0 : Int) (a0_1 : Int) (l0_2 : List (List Int)) : Option (Bool) := if a0_1 < 1 then (least_Right.j0 k true a0_0 a0_1 l0_2) else (if a0_1 > 1099511627776 then (least_Right.j0 k true a0_0 a0_1 l0_2) else (if (l0_2.length : Int) < 1 then (least_Right.j0 k true a0_0 a0_1 l0_2) else (least_Right.j0 k (decide ((l0_2.length : Int) > 7)) a0_0 a0_1 l0_2)))
theorem least_Right.mono_l : ∀ k, (∀ y0 y1 y2 y3, LeO (least_Right.j0 k y0 y1 y2 y3) (least_Right.j0 (k + 1) y0 y1 y2 y3)) ∧ (∀ y0 y1 y2 y3 y4 y5, LeO (least_Right.l0 k y0 y1 y2 y3 y4 y5) (least_Right.l0 (k + 1) y0 y1 y2 y3 y4 y5))
  | 0 => ⟨fun _ _ _ _ r h => by simp [least_Right.j0] at h, fun _ _ _ _ _ _ r h => by simp [least_Right.l0] at h⟩
  | k + 1 => by
    obtain ⟨ih0, ih1⟩ := least_Right.mono_l k
    refine ⟨?_, ?_⟩ <;> intros
    all_goals first | unfold least_Right.j0 | unfold least_Right.l0
    all_goals repeat' first | (with_reducible first | exact ih0 _ _ _ _ | exact ih1 _ _ _ _ _ _ | exact slices_Max_int_int.mono _ _ | exact slices_Min_int_int.mono _ _ | exact LeO.refl _ | exact LeO.none _ | refine LeO.ite ?_ ?_ | refine LeO.bind ?_ (fun _ => ?_)) | exact ih0 _ _ _ _ | exact ih1 _ _ _ _ _ _ | exact slices_Max_int_int.mono _ _ | exact slices_Min_int_int.mono _ _ | exact LeO.none _ | refine LeO.ite ?_ ?_ | refine LeO.bind ?_ (fun _ => ?_)
theorem least_Right.mono : ∀ a0 a1 a2 k, LeO (least_Right.f k a0 a1 a2) (least_Right.f (k + 1) a0 a1 a2) := by
  intro a0 a1 a2 k
  obtain ⟨ih0, ih1⟩ := least_Right.mono_l k
  unfold least_Right.f
  repeat' first | (with_reducible first | exact ih0 _ _ _ _ | exact ih1 _ _ _ _ _ _ | exact slices_Max_int_int.mono _ _ | exact slices_Min_int_int.mono _ _ | exact LeO.refl _ | exact LeO.none _ | refine LeO.ite ?_ ?_ | refine LeO.bind ?_ (fun _ => ?_)) | exact ih0 _ _ _ _ | exact ih1 _ _ _ _ _ _ | exact slices_Max_int_int.mono _ _ | exact slices_Min_int_int.mono _ _ | exact LeO.none _ | refine LeO.ite ?_ ?_ | refine LeO.bind ?_ (fun _ => ?_)
def least_Right.T6 : Bool × List (List Nat × List Nat) := (true, [([], []), ([0], [0]), ([1], [1]), ([2], [2]), ([3], [3]), ([4, 3], [3, 4]), ([5, 3], [3, 5]), ([3, 6], [3, 6]), ([7, 3], [7]), ([8], [8]), ([9, 8], [8, 9]), ([8], [8]), ([11, 8], [8, 11]), ([12, 8], [8, 12]), ([13, 8], [8, 13]), ([14, 8], [8, 14]), ([10, 15, 8], [8, 10, 15]), ([8, 16], [8, 16]), ([17, 8], [17]), ([18], [18]), ([19, 18, 18], [18, 19]), ([20, 18], [18, 20]), ([18, 21], [18, 21]), ([22, 20], [22]), ([23], [23]), ([24, 23, 23], [23, 24]), ([23], [23]), ([26, 23], [23, 26]), ([25, 27, 23], [23, 25, 27]), ([23, 28], [23, 28])])
def least_Right.B6 : List Nat := [0, 1, 3, 7, 15, 31, 63, 127, 255, 511, 1023, 511, 2559, 6655, 14847, 31231, 65535, 131071, 262143, 524287, 1048575, 2097151, 4194303, 8388607, 16777215, 33554431, 16777215, 83886079, 268435455, 536870911]
theorem least_Right.tab6 : rtab .any (opsOf Try.f42 6) = least_Right.T6 := by kernel_rfl
theorem least_Right.bits6 : waitsOk least_Right.T6.2 least_Right.B6 = true := by kernel_rfl
set_option maxHeartbeats 80000000 in
set_option maxRecDepth 100000 in
theorem least_Right.calls (k : Nat) (a0_0 : Int) (a0_1 : Int) (A0_2 : Option Addr) (c0_2 : Nat) (l0_2 : List (List Int)) (r : Bool) (w : World) (hr0_2 : Kd.C (Kd.slice 3 (Kd.int .i64)) w A0_2 l0_2.length l0_2) (hc0_2 : l0_2.length ≤ c0_2) (h : least_Right.f k a0_0 a0_1 l0_2 = some r) :
    Calls Try.prog 42 #[.agg #[.int .u64 a0_0, .int .i64 a0_1, .slice A0_2 l0_2.length c0_2]] w fun e w' => e = .returned (.bool r) ∧ Below w.heap.size w w' := by
 have hu26 := Try.underlying26; have aO := mk_ hr0_2; have dF := mk_ hc0_2; clear hr0_2 hc0_2; have HB := mk_ (Below.refl w.heap.size w); have H : (if a0_1 < 1 then (least_Right.j0 k true a0_0 a0_1 l0_2) else (if a0_1 > 1099511627776 then (least_Right.j0 k true a0_0 a0_1 l0_2) else (if (l0_2.length : Int) < 1 then (least_Right.j0 k true a0_0 a0_1 l0_2) else (least_Right.j0 k (decide ((l0_2.length : Int) > 7)) a0_0 a0_1 l0_2)))) = some r := h; clear h; have HC2 := mk_ H; clear H
 go_enter Try.func42, Try.ntmps42
 go_upto_region 1 with (first | ((with_reducible refine gate_dst (N := 1) rfl ?_); (try (refine gate_guard (by rfl) ?_; dsimp only)); refine box_event ?hg (N := 1) ?hd (cs := #[.int .u64 a0_0, .int .i64 a0_1, .slice A0_2 l0_2.length c0_2]) (t := 26) ?hr ?_; (case hd => rfl); (case hg => rfl); (case hr => first | (go_simp; done) | (go_simp; rfl)); intro aE hg w3 hbox hb; have aA := mk_ (hbox); have dG := gx_ hg HB; have dH := gx_ hg HB; replace HB := bs_ HB hb; clear hb hbox hg))
 (try simp only [Act.put, sa_, sb_, sc_])
 go_cut [24] (fun cN wc => ∃ (kq : Nat) (bC : Bool), cN = .bool bC ∧ Aside0 (least_Right.j0 kq bC a0_0 a0_1 l0_2 = some r) ∧ Aside0 (kq ≤ k) ∧ Aside0 (wc.heap[aE]? = some (.cells #[.int .u64 a0_0, .int .i64 a0_1, (.slice A0_2 l0_2.length c0_2)] 26 (0, 0))) ∧ Aside0 (Below w.heap.size w wc))
 case first =>
  have H := HC2.out; clear HC2
  by_cases c4 : a0_1 < 1
  ·rw [if_pos c4] at H; have aS : decide (a0_1 < 1) = true := decide_eq_true c4; clear c4
   (first | rw [aS] | (simp only [i64_w, i32_w]; rw [aS]) | skip)
   have H' := mk_ H; clear H; obtain ⟨bM, bN, bO⟩ := cz3_ aA; obtain ⟨bP, bQ, bR⟩ := fz3_ aA
   go_wp2
   go_meet
   case rel => exact ⟨_, (true), (by first | rfl | (simp; done) | (simp [*]; done)), H', ⟨by first | omega | exact Nat.le_refl _⟩, ⟨bk_ aA⟩, ⟨bl_ HB⟩⟩
  ·rw [if_neg c4] at H; have aS : decide (a0_1 < 1) = false := decide_eq_false c4; clear c4
   (first | rw [aS] | (simp only [i64_w, i32_w]; rw [aS]) | skip)
   by_cases c6 : a0_1 > 1099511627776
   ·rw [if_pos c6] at H; have bG : decide (1099511627776 < a0_1) = true := decide_eq_true c6; clear c6; have H' := mk_ H; clear H; obtain ⟨bS, bT, bU⟩ := cz3_ aA; obtain ⟨bV, bW, bX⟩ := fz3_ aA
    go_wp2
    go_meet
    case rel => exact ⟨_, (true), (by first | rfl | (simp; done) | (simp [*]; done)), H', ⟨by first | omega | exact Nat.le_refl _⟩, ⟨bk_ aA⟩, ⟨bl_ HB⟩⟩
   ·rw [if_neg c6] at H; have bG : decide (1099511627776 < a0_1) = false := decide_eq_false c6; clear c6
    by_cases c8 : (l0_2.length : Int) < 1
    ·rw [if_pos c8] at H; have bH : decide ((l0_2.length : Int) < 1) = true := decide_eq_true c8; have bI : decide (l0_2.length < 1) = true := decide_eq_true (by omega); clear c8; have H' := mk_ H; clear H; obtain ⟨bY, bZ, cA⟩ := cz3_ aA; obtain ⟨cB, cC, cD⟩ := fz3_ aA
     go_wp2
     go_meet
     case rel => exact ⟨_, (true), (by first | rfl | (simp; done) | (simp [*]; done)), H', ⟨by first | omega | exact Nat.le_refl _⟩, ⟨bk_ aA⟩, ⟨bl_ HB⟩⟩
    ·rw [if_neg c8] at H; have bH : decide ((l0_2.length : Int) < 1) = false := decide_eq_false c8; have bI : decide (l0_2.length < 1) = false := decide_eq_false (by omega); clear c8; have H' := mk_ H; clear H; obtain ⟨cE, cF, cG⟩ := cz3_ aA; obtain ⟨cH, cI, cJ⟩ := fz3_ aA
     go_wp2
     go_meet
     case rel => exact ⟨_, (decide ((l0_2.length : Int) > 7)), (by first | rfl | (simp; done) | (simp [*]; done)), H', ⟨by first | omega | exact Nat.le_refl _⟩, ⟨bk_ aA⟩, ⟨bl_ HB⟩⟩
 case rest =>
  clear HC2; (try clear c4); (try clear aS); (try clear c6); (try clear bG); (try clear c8); (try clear bH); (try clear bI); (try clear cE); (try clear cF); (try clear cG); (try clear bM); (try clear bN); (try clear bO); (try clear bS); (try clear bT); (try clear bU); (try clear bY); (try clear bZ); (try clear cA); (try clear cH); (try clear cI); (try clear cJ); (try clear bP); (try clear bQ); (try clear bR); (try clear bV); (try clear bW); (try clear bX); (try clear cB); (try clear cC); (try clear cD); obtain ⟨kq, bC, rfl, HA, HJ1, aA, HB⟩ := hcut
  cases kq with
  | zero => exact absurd HA.out (by simp [least_Right.j0])
  | succ bJ =>
   have H := HA.out; clear HA; simp only [least_Right.j0] at H
   by_cases bB : bC = true
   ·subst bB
    have H1 : (some false) = some r := by rw [if_pos rfl] at H; exact H
    clear H; have H := H1; clear H1; obtain rfl := Option.some.inj H
    go_wp2
    go_ret; exact ⟨by first | rfl | (simp [*] <;> rfl), bl_ HB⟩
   ·replace bB := Bool.eq_false_iff.mpr bB; subst bB
    have H1 : (least_Right.l0 bJ l0_2 (l0_2.length : Int) 0 a0_0 a0_1 l0_2) = some r := by rw [if_neg (show ¬ (false = true) by decide)] at H; exact H
    clear H; have H := H1; clear H1; have H' := mk_ H; clear H; obtain ⟨cO, cP, cQ⟩ := cz3_ aA; obtain ⟨cR, cS, cT⟩ := fz3_ aA
    go_wp2
    go_loopg [28] bJ (fun kq cU w' => ∃ (aB : Int), cU = .int .i64 aB ∧ Aside0 (least_Right.l0 kq l0_2 (l0_2.length : Int) aB a0_0 a0_1 l0_2 = some r) ∧ Aside0 (kq ≤ bJ) ∧ Aside0 (w'.heap[aE]? = some (.cells #[.int .u64 a0_0, .int .i64 a0_1, (.slice A0_2 l0_2.length c0_2)] 26 (0, 0))) ∧ Aside0 (Below w.heap.size w w'))
    case atStart => exact ⟨(0), (by first | rfl | (simp; done) | (simp [*]; done)), H', ⟨Nat.le_refl _⟩, ⟨bk_ aA⟩, ⟨bl_ HB⟩⟩
    case round =>
     clear H'; (try clear c4); (try clear aS); (try clear c6); (try clear bG); (try clear c8); (try clear bH); (try clear bI); (try clear bB); (try clear cE); (try clear cF); (try clear cG); (try clear cO); (try clear cP); (try clear cQ); (try clear bM); (try clear bN); (try clear bO); (try clear bS); (try clear bT); (try clear bU); (try clear bY); (try clear bZ); (try clear cA); (try clear cH); (try clear cI); (try clear cJ); (try clear cR); (try clear cS); (try clear cT); (try clear bP); (try clear bQ); (try clear bR); (try clear bV); (try clear bW); (try clear bX); (try clear cB); (try clear cC); (try clear cD); obtain ⟨aB, rfl, HA, HK2, aA, HB⟩ := hrel
     cases gk with
     | zero => exact absurd HA.out (by simp [least_Right.l0])
     | succ k2 =>
      have H := HA.out; clear HA; simp only [least_Right.l0] at H
      by_cases aW : aB < (l0_2.length : Int)
      ·rw [if_pos aW] at H; have cV : decide (aB < (l0_2.length : Int)) = true := decide_eq_true aW; clear aW
       by_cases bD : 0 ≤ aB
       ·rw [if_pos bD] at H; have dI : decide (0 ≤ aB) = true := decide_eq_true bD; clear bD
        by_cases bE : aB < (l0_2.length : Int)
        ·rw [if_pos bE] at H; have dJ : decide (aB < (l0_2.length : Int)) = true := decide_eq_true bE; clear bE
         by_cases aX : ((rd_L1 l0_2 aB).length : Int) < 1
         ·rw [if_pos aX] at H; have cW : decide (((rd_L1 l0_2 aB).length : Int) < 1) = true := decide_eq_true aX; have cX : decide ((rd_L1 l0_2 aB).length < 1) = true := decide_eq_true (by omega); clear aX; obtain rfl := Option.some.inj H; have aF : 0 ≤ (aB : Int) := od_; have aG : aB < (l0_2.length : Int) := od_; obtain ⟨aI, A106_0, c106_0, e106, aH, aJ, hi106_0⟩ := at_L1 aO.out aB aF aG
          cases e106; (try replace aH := bt_ HB aH); have aP := mk_ hi106_0; have aQ := mk_ aJ; clear hi106_0 aJ; replace aF := eq_true aF; replace aG := eq_true aG
          try go_wp2
          replace aA := bd_ aA; replace HB := mk_ (below_drew1 HB.out); refine start_ (n := 30) (S := fun w' => True) (ds := []) (mB 30 0) (by kernel_rfl) rfl rfl trivial (fun hHeld => ?_); refine with_tabW least_Right.tab6 least_Right.bits6 (fun HT_ HW_ => ?_); generalize wr.drew = dK at aA HB hHeld ⊢; refine pq_ 0 32 30 1 HT_ ?_
          refine pq_ 1 33 30 3 HT_ ?_
          refine pq_ 2 34 30 7 HT_ ?_
          refine pq_ 3 35 30 15 HT_ ?_
          refine un_ [(4, 36), (5, 37), (6, 38)] (fuel := 23) (a' := ?_) (mB 30 127) rfl HT_ (by kernel_rfl) (by kernel_rfl) (fun _ _ _ _ h => h) ?_ ?_; rotate_left
          ·simp only [unwA, Act.put, sa_, sb_, sc_, i64_w, i32_w]; rfl
          refine pq_ 7 39 30 255 HT_ ?_
          refine pq_ 8 40 30 511 HT_ ?_
          refine un_ [(9, 41), (10, 42), (11, 43), (12, 44), (13, 45), (14, 46), (15, 47), (16, 48)] (fuel := 13) (a' := ?_) (mB 30 131071) rfl HT_ (by kernel_rfl) (by kernel_rfl) (fun _ _ _ _ h => h) ?_ ?_; rotate_left
          ·simp only [unwA, Act.put, sa_, sb_, sc_, i64_w, i32_w]; rfl
          refine pq_ 17 49 30 262143 HT_ ?_
          refine pq_ 18 50 30 524287 HT_ ?_
          refine un_ [(19, 51), (20, 52), (21, 53)] (fuel := 8) (a' := ?_) (mB 30 4194303) rfl HT_ (by kernel_rfl) (by kernel_rfl) (fun _ _ _ _ h => h) ?_ ?_; rotate_left
          ·simp only [unwA, Act.put, sa_, sb_, sc_, i64_w, i32_w]; rfl
          refine pq_ 22 54 30 8388607 HT_ ?_
          refine pq_ 23 55 30 16777215 HT_ ?_
          refine un_ [(24, 56), (25, 57), (26, 58), (27, 59), (28, 60)] (fuel := 1) (a' := ?_) (mB 30 536870911) rfl HT_ (by kernel_rfl) (by kernel_rfl) (fun _ _ _ _ h => h) ?_ ?_; rotate_left
          ·simp only [unwA, Act.put, sa_, sb_, sc_, i64_w, i32_w]; rfl
          refine pq_ 29 61 30 1073741823 HT_ ?_
          refine done_ (done_of HT_.out (by kernel_rfl)) ?_
          try go_wp2
          go_ret; exact ⟨by first | rfl | (simp [*] <;> rfl), bl_ HB⟩
         ·rw [if_neg aX] at H; have cW : decide (((rd_L1 l0_2 aB).length : Int) < 1) = false := decide_eq_false aX; have cX : decide ((rd_L1 l0_2 aB).length < 1) = false := decide_eq_false (by omega); clear aX
          by_cases aY : ((rd_L1 l0_2 aB).length : Int) > 256
          ·rw [if_pos aY] at H; have cY : decide (256 < ((rd_L1 l0_2 aB).length : Int)) = true := decide_eq_true aY; have cZ : decide (256 < (rd_L1 l0_2 aB).length) = true := decide_eq_true (by omega); clear aY; obtain rfl := Option.some.inj H; have aF : 0 ≤ (aB : Int) := od_; have aG : aB < (l0_2.length : Int) := od_; obtain ⟨aI, A106_0, c106_0, e106, aH, aJ, hi106_0⟩ := at_L1 aO.out aB aF aG
           cases e106; (try replace aH := bt_ HB aH); have aP := mk_ hi106_0; have aQ := mk_ aJ; clear hi106_0 aJ; replace aF := eq_true aF; replace aG := eq_true aG
           try go_wp2
           replace aA := bd_ aA; replace HB := mk_ (below_drew1 HB.out); refine start_ (n := 30) (S := fun w' => True) (ds := []) (mB 30 0) (by kernel_rfl) rfl rfl trivial (fun hHeld => ?_); refine with_tabW least_Right.tab6 least_Right.bits6 (fun HT_ HW_ => ?_); generalize wr.drew = dL at aA HB hHeld ⊢; refine pq_ 0 32 30 1 HT_ ?_
           refine pq_ 1 33 30 3 HT_ ?_
           refine pq_ 2 34 30 7 HT_ ?_
           refine pq_ 3 35 30 15 HT_ ?_
           refine pq_ 4 36 30 31 HT_ ?_
           refine pq_ 5 37 30 63 HT_ ?_
           refine pq_ 6 38 30 127 HT_ ?_
           refine pq_ 7 39 30 255 HT_ ?_
           refine pq_ 8 40 30 511 HT_ ?_
           refine un_ [(9, 41), (10, 42), (11, 43), (12, 44), (13, 45), (14, 46), (15, 47), (16, 48)] (fuel := 13) (a' := ?_) (mB 30 131071) rfl HT_ (by kernel_rfl) (by kernel_rfl) (fun _ _ _ _ h => h) ?_ ?_; rotate_left
           ·simp only [unwA, Act.put, sa_, sb_, sc_, i64_w, i32_w]; rfl
           refine pq_ 17 49 30 262143 HT_ ?_
           refine pq_ 18 50 30 524287 HT_ ?_
           refine un_ [(19, 51), (20, 52), (21, 53)] (fuel := 8) (a' := ?_) (mB 30 4194303) rfl HT_ (by kernel_rfl) (by kernel_rfl) (fun _ _ _ _ h => h) ?_ ?_; rotate_left
           ·simp only [unwA, Act.put, sa_, sb_, sc_, i64_w, i32_w]; rfl
           refine pq_ 22 54 30 8388607 HT_ ?_
           refine pq_ 23 55 30 16777215 HT_ ?_
           refine un_ [(24, 56), (25, 57), (26, 58), (27, 59), (28, 60)] (fuel := 1) (a' := ?_) (mB 30 536870911) rfl HT_ (by kernel_rfl) (by kernel_rfl) (fun _ _ _ _ h => h) ?_ ?_; rotate_left
           ·simp only [unwA, Act.put, sa_, sb_, sc_, i64_w, i32_w]; rfl
           refine pq_ 29 61 30 1073741823 HT_ ?_
           refine done_ (done_of HT_.out (by kernel_rfl)) ?_
           try go_wp2
           go_ret; exact ⟨by first | rfl | (simp [*] <;> rfl), bl_ HB⟩
          ·rw [if_neg aY] at H; have cY : decide (256 < ((rd_L1 l0_2 aB).length : Int)) = false := decide_eq_false aY; have cZ : decide (256 < (rd_L1 l0_2 aB).length) = false := decide_eq_false (by omega); clear aY
           by_cases bF : 0 < (l0_2.length : Int)
           ·rw [if_pos bF] at H; have dM : decide (0 < (l0_2.length : Int)) = true := decide_eq_true bF; have dN : decide (0 < l0_2.length) = true := decide_eq_true (by omega); clear bF
            by_cases aM : ((rd_L1 l0_2 aB).length : Int) = ((rd_L1 l0_2 0).length : Int)
            ·rw [if_pos aM] at H; have dA : (((rd_L1 l0_2 aB).length : Int) == ((rd_L1 l0_2 0).length : Int)) = true := beq_iff_eq.mpr aM; have dB : (((rd_L1 l0_2 aB).length : Int) != ((rd_L1 l0_2 0).length : Int)) = false := bne_eq_false_iff_eq.mpr aM
             have dC : ((rd_L1 l0_2 aB).length == (rd_L1 l0_2 0).length) = true := by first | simpa using aM | (simp at aM ⊢; omega)
             clear aM; replace H := Option.bind_eq_some_iff.mp H; obtain ⟨aT, cK, H⟩ := H; replace H : (if aT < 0 then (some false) else ((slices_Max_int_int.f k2 (rd_L1 l0_2 aB)).bind fun aR => (if aR > a0_1 then (some false) else (least_Right.l0 k2 l0_2 (l0_2.length : Int) (wrap64 (aB + 1)) a0_0 a0_1 l0_2)))) = some r := H; have bK := mk_ cK; clear cK
             by_cases aZ : aT < 0
             ·rw [if_pos aZ] at H; have dD : decide (aT < 0) = true := decide_eq_true aZ; clear aZ; obtain rfl := Option.some.inj H; have aF : 0 ≤ (aB : Int) := od_; have aG : aB < (l0_2.length : Int) := od_; obtain ⟨aI, A106_0, c106_0, e106, aH, aJ, hi106_0⟩ := at_L1 aO.out aB aF aG
              cases e106; (try replace aH := bt_ HB aH); have aP := mk_ hi106_0; have aQ := mk_ aJ; clear hi106_0 aJ; replace aF := eq_true aF; replace aG := eq_true aG
              try go_wp2
              replace aA := bd_ aA; replace HB := mk_ (below_drew1 HB.out); have aK : 0 ≤ (0 : Int) := (by omega); have aL : 0 < (l0_2.length : Int) := od_; obtain ⟨aU, A107_0, c107_0, e107, aD, aN, hi107_0⟩ := at_L1 aO.out 0 aK aL; have aC := aD; (try rw [show ((0 : Int)).toNat = 0 from rfl] at aC); (try rw [show 0 * 1 = 0 from rfl] at aC); (try rw [Addr.add_zero'] at aC); obtain rfl : aI = aU := (by injection e107); have qi107 : (0 < l0_2.length) = True := eq_true (by omega); (try rw [show ((0 : Int)).toNat = 0 from rfl] at aD); (try rw [Addr.add_zero'] at aD); (try replace aD := bt_ HB aD); have aV := mk_ hi107_0; have bL := mk_ aN; clear hi107_0 aN; replace aK := eq_true aK; replace aL := eq_true aL
              refine start_ (n := 30) (S := fun w' => w'.cell? ⟨aE, 0, none⟩ = some (.int .u64 a0_0) ∧ w'.cell? ⟨aE, 1, none⟩ = some (.int .i64 a0_1) ∧ w'.cell? ⟨aE, 2, none⟩ = some (.slice (some aI) l0_2.length c0_2) ∧ w'.cell? aI = some (.slice A107_0 (rd_L1 l0_2 0).length c107_0)) (ds := []) (mB 30 0) (by kernel_rfl) rfl rfl ⟨bc_ aA 0, bc_ aA 1, bc_ aA 2, ((HB.out.cell (World.block_lt_of_cell? w _ aC)).trans aC)⟩ (fun hHeld => ?_); refine with_tabW least_Right.tab6 least_Right.bits6 (fun HT_ HW_ => ?_); generalize wr.drew = dO at aA HB aV aD hHeld ⊢; refine pq_ 0 32 30 1 HT_ ?_
              refine pq_ 1 33 30 3 HT_ ?_
              refine pq_ 2 34 30 7 HT_ ?_
              refine pq_ 3 35 30 15 HT_ ?_
              refine pq_ 4 36 30 31 HT_ ?_
              refine pq_ 5 37 30 63 HT_ ?_
              refine pq_ 6 38 30 127 HT_ ?_
              refine pq_ 7 39 30 255 HT_ ?_
              refine pq_ 8 40 30 511 HT_ ?_
              refine pq_ 9 41 30 1023 HT_ ?_
              refine pq_ 10 42 30 2047 HT_ ?_
              refine pq_ 11 43 30 4095 HT_ ?_
              refine tq_ 12 44 30 8191 HT_ HW_ hHeld ?_
              refine pq_ 13 45 30 16383 HT_ ?_
              refine tq_ 14 46 30 32767 HT_ HW_ hHeld ?_
              refine pq_ 15 47 30 65535 HT_ ?_
              refine pq_ 16 48 30 131071 HT_ ?_
              refine pq_ 17 49 30 262143 HT_ ?_
              refine pq_ 18 50 30 524287 HT_ ?_
              refine pq_ 19 51 30 1048575 HT_ ?_
              refine one_ (i := 20) (N := some 52) (mB 30 2097151) rfl rfl (one_of HT_.out (by kernel_rfl)) (by decide) (fun K hK => ?_); refine goes_ Try.func65 (by kernel_rfl) rfl #[.slice A106_0 (rd_L1 l0_2 aB).length c106_0] (by rfl) rfl rfl (by (try simp only [List.map_toArray, List.map_cons, List.map_nil]); first | done | rfl | (simp only [List.length_drop, List.length_take]; rfl)) ?_; with_reducible refine (slices_Min_int_int.calls k2 _ _ (rd_L1 l0_2 aB) aT _ ?side1 ?side2 bK.out).mono ?_
              (case side1 => exact ck_ (Kd.C_below aP.out HB.out)); (case side2 => exact aQ.out); rintro e dP ⟨rfl, hb⟩; refine ⟨_, rfl, ?_⟩; replace aA := bb_ aA hb; replace HB := bs_ HB hb; (try clear hb); refine hK.out _ _ ⟨bc_ aA 0, bc_ aA 1, bc_ aA 2, ((HB.out.cell (World.block_lt_of_cell? w _ aC)).trans aC)⟩ (fun hHeld => ?_); clear hK K; refine norm_ (a' := ?_) ?_ ?_; rotate_left
              ·show Act.put _ (some 52) _ = _
               simp only [Act.put, sa_, sb_, sc_, i64_w, i32_w]; rfl
              refine pq_ 21 53 30 4194303 HT_ ?_
              refine pq_ 22 54 30 8388607 HT_ ?_
              refine pq_ 23 55 30 16777215 HT_ ?_
              refine un_ [(24, 56), (25, 57), (26, 58), (27, 59), (28, 60)] (fuel := 1) (a' := ?_) (mB 30 536870911) rfl HT_ (by kernel_rfl) (by kernel_rfl) (fun _ _ _ _ h => h) ?_ ?_; rotate_left
              ·simp only [unwA, Act.put, sa_, sb_, sc_, i64_w, i32_w]; rfl
              refine pq_ 29 61 30 1073741823 HT_ ?_
              refine done_ (done_of HT_.out (by kernel_rfl)) ?_
              try go_wp2
              go_ret; exact ⟨by first | rfl | (simp [*] <;> rfl), bl_ HB⟩
             ·rw [if_neg aZ] at H; have dD : decide (aT < 0) = false := decide_eq_false aZ; clear aZ; replace H := Option.bind_eq_some_iff.mp H; obtain ⟨aR, cL, H⟩ := H; replace H : (if aR > a0_1 then (some false) else (least_Right.l0 k2 l0_2 (l0_2.length : Int) (wrap64 (aB + 1)) a0_0 a0_1 l0_2)) = some r := H; have cM := mk_ cL; clear cL
              by_cases bA : aR > a0_1
              ·rw [if_pos bA] at H; have dE : decide (a0_1 < aR) = true := decide_eq_true bA; clear bA; obtain rfl := Option.some.inj H; have aF : 0 ≤ (aB : Int) := od_; have aG : aB < (l0_2.length : Int) := od_; obtain ⟨aI, A106_0, c106_0, e106, aH, aJ, hi106_0⟩ := at_L1 aO.out aB aF aG
               cases e106; (try replace aH := bt_ HB aH); have aP := mk_ hi106_0; have aQ := mk_ aJ; clear hi106_0 aJ; replace aF := eq_true aF; replace aG := eq_true aG
               try go_wp2
               replace aA := bd_ aA; replace HB := mk_ (below_drew1 HB.out); have aK : 0 ≤ (0 : Int) := (by omega); have aL : 0 < (l0_2.length : Int) := od_; obtain ⟨aU, A107_0, c107_0, e107, aD, aN, hi107_0⟩ := at_L1 aO.out 0 aK aL; have aC := aD; (try rw [show ((0 : Int)).toNat = 0 from rfl] at aC); (try rw [show 0 * 1 = 0 from rfl] at aC); (try rw [Addr.add_zero'] at aC); obtain rfl : aI = aU := (by injection e107); have qi107 : (0 < l0_2.length) = True := eq_true (by omega); (try rw [show ((0 : Int)).toNat = 0 from rfl] at aD); (try rw [Addr.add_zero'] at aD); (try replace aD := bt_ HB aD); have aV := mk_ hi107_0; have bL := mk_ aN; clear hi107_0 aN; replace aK := eq_true aK; replace aL := eq_true aL
               refine start_ (n := 30) (S := fun w' => w'.cell? ⟨aE, 0, none⟩ = some (.int .u64 a0_0) ∧ w'.cell? ⟨aE, 1, none⟩ = some (.int .i64 a0_1) ∧ w'.cell? ⟨aE, 2, none⟩ = some (.slice (some aI) l0_2.length c0_2) ∧ w'.cell? aI = some (.slice A107_0 (rd_L1 l0_2 0).length c107_0)) (ds := []) (mB 30 0) (by kernel_rfl) rfl rfl ⟨bc_ aA 0, bc_ aA 1, bc_ aA 2, ((HB.out.cell (World.block_lt_of_cell? w _ aC)).trans aC)⟩ (fun hHeld => ?_); refine with_tabW least_Right.tab6 least_Right.bits6 (fun HT_ HW_ => ?_); generalize wr.drew = dQ at aA HB aV aD hHeld ⊢; refine pq_ 0 32 30 1 HT_ ?_
               refine pq_ 1 33 30 3 HT_ ?_
               refine pq_ 2 34 30 7 HT_ ?_
               refine pq_ 3 35 30 15 HT_ ?_
               refine pq_ 4 36 30 31 HT_ ?_
               refine pq_ 5 37 30 63 HT_ ?_
               refine pq_ 6 38 30 127 HT_ ?_
               refine pq_ 7 39 30 255 HT_ ?_
               refine pq_ 8 40 30 511 HT_ ?_
               refine pq_ 9 41 30 1023 HT_ ?_
               refine pq_ 10 42 30 2047 HT_ ?_
               refine pq_ 11 43 30 4095 HT_ ?_
               refine tq_ 12 44 30 8191 HT_ HW_ hHeld ?_
               refine pq_ 13 45 30 16383 HT_ ?_
               refine tq_ 14 46 30 32767 HT_ HW_ hHeld ?_
               refine pq_ 15 47 30 65535 HT_ ?_
               refine pq_ 16 48 30 131071 HT_ ?_
               refine pq_ 17 49 30 262143 HT_ ?_
               refine pq_ 18 50 30 524287 HT_ ?_
               refine pq_ 19 51 30 1048575 HT_ ?_
               refine one_ (i := 20) (N := some 52) (mB 30 2097151) rfl rfl (one_of HT_.out (by kernel_rfl)) (by decide) (fun K hK => ?_); refine goes_ Try.func65 (by kernel_rfl) rfl #[.slice A106_0 (rd_L1 l0_2 aB).length c106_0] (by rfl) rfl rfl (by (try simp only [List.map_toArray, List.map_cons, List.map_nil]); first | done | rfl | (simp only [List.length_drop, List.length_take]; rfl)) ?_; with_reducible refine (slices_Min_int_int.calls k2 _ _ (rd_L1 l0_2 aB) aT _ ?side1 ?side2 bK.out).mono ?_
               (case side1 => exact ck_ (Kd.C_below aP.out HB.out)); (case side2 => exact aQ.out); rintro e dR ⟨rfl, hb⟩; refine ⟨_, rfl, ?_⟩; replace aA := bb_ aA hb; replace HB := bs_ HB hb; (try clear hb); refine hK.out _ _ ⟨bc_ aA 0, bc_ aA 1, bc_ aA 2, ((HB.out.cell (World.block_lt_of_cell? w _ aC)).trans aC)⟩ (fun hHeld => ?_); clear hK K; refine norm_ (a' := ?_) ?_ ?_; rotate_left
               ·show Act.put _ (some 52) _ = _
                simp only [Act.put, sa_, sb_, sc_, i64_w, i32_w]; rfl
               refine pq_ 21 53 30 4194303 HT_ ?_
               refine pq_ 22 54 30 8388607 HT_ ?_
               refine pq_ 23 55 30 16777215 HT_ ?_
               refine pq_ 24 56 30 33554431 HT_ ?_
               refine pq_ 26 58 30 100663295 HT_ ?_
               refine tq_ 27 59 30 234881023 HT_ HW_ hHeld ?_
               refine one_ (i := 25) (N := some 57) (mB 30 268435455) rfl rfl (one_of HT_.out (by kernel_rfl)) (by decide) (fun K hK => ?_); refine goes_ Try.func66 (by kernel_rfl) rfl #[.slice A106_0 (rd_L1 l0_2 aB).length c106_0] (by rfl) rfl rfl (by (try simp only [List.map_toArray, List.map_cons, List.map_nil]); first | done | rfl | (simp only [List.length_drop, List.length_take]; rfl)) ?_; with_reducible refine (slices_Max_int_int.calls k2 _ _ (rd_L1 l0_2 aB) aR _ ?side1 ?side2 cM.out).mono ?_
               (case side1 => exact ck_ (Kd.C_below aP.out HB.out)); (case side2 => exact aQ.out); rintro e dS ⟨rfl, hb⟩; refine ⟨_, rfl, ?_⟩; replace aA := bb_ aA hb; replace HB := bs_ HB hb; (try clear hb); refine hK.out _ _ ⟨bc_ aA 0, bc_ aA 1, bc_ aA 2, ((HB.out.cell (World.block_lt_of_cell? w _ aC)).trans aC)⟩ (fun hHeld => ?_); clear hK K; refine norm_ (a' := ?_) ?_ ?_; rotate_left
               ·show Act.put _ (some 57) _ = _
                simp only [Act.put, sa_, sb_, sc_, i64_w, i32_w]; rfl
               refine pq_ 28 60 30 536870911 HT_ ?_
               refine pq_ 29 61 30 1073741823 HT_ ?_
               refine done_ (done_of HT_.out (by kernel_rfl)) ?_
               try go_wp2
               go_ret; exact ⟨by first | rfl | (simp [*] <;> rfl), bl_ HB⟩
              ·rw [if_neg bA] at H; have dE : decide (a0_1 < aR) = false := decide_eq_false bA; clear bA; have H' := mk_ H; clear H; have aF : 0 ≤ (aB : Int) := od_; have aG : aB < (l0_2.length : Int) := od_; obtain ⟨aI, A106_0, c106_0, e106, aH, aJ, hi106_0⟩ := at_L1 aO.out aB aF aG
               cases e106; (try replace aH := bt_ HB aH); have aP := mk_ hi106_0; have aQ := mk_ aJ; clear hi106_0 aJ; replace aF := eq_true aF; replace aG := eq_true aG
               try go_wp2
               replace aA := bd_ aA; replace HB := mk_ (below_drew1 HB.out); have aK : 0 ≤ (0 : Int) := (by omega); have aL : 0 < (l0_2.length : Int) := od_; obtain ⟨aU, A107_0, c107_0, e107, aD, aN, hi107_0⟩ := at_L1 aO.out 0 aK aL; have aC := aD; (try rw [show ((0 : Int)).toNat = 0 from rfl] at aC); (try rw [show 0 * 1 = 0 from rfl] at aC); (try rw [Addr.add_zero'] at aC); obtain rfl : aI = aU := (by injection e107); have qi107 : (0 < l0_2.length) = True := eq_true (by omega); (try rw [show ((0 : Int)).toNat = 0 from rfl] at aD); (try rw [Addr.add_zero'] at aD); (try replace aD := bt_ HB aD); have aV := mk_ hi107_0; have bL := mk_ aN; clear hi107_0 aN; replace aK := eq_true aK; replace aL := eq_true aL
               refine start_ (n := 30) (S := fun w' => w'.cell? ⟨aE, 0, none⟩ = some (.int .u64 a0_0) ∧ w'.cell? ⟨aE, 1, none⟩ = some (.int .i64 a0_1) ∧ w'.cell? ⟨aE, 2, none⟩ = some (.slice (some aI) l0_2.length c0_2) ∧ w'.cell? aI = some (.slice A107_0 (rd_L1 l0_2 0).length c107_0)) (ds := []) (mB 30 0) (by kernel_rfl) rfl rfl ⟨bc_ aA 0, bc_ aA 1, bc_ aA 2, ((HB.out.cell (World.block_lt_of_cell? w _ aC)).trans aC)⟩ (fun hHeld => ?_); refine with_tabW least_Right.tab6 least_Right.bits6 (fun HT_ HW_ => ?_); generalize wr.drew = dT at aA HB aV aD hHeld ⊢; refine pq_ 0 32 30 1 HT_ ?_
               refine pq_ 1 33 30 3 HT_ ?_
               refine pq_ 2 34 30 7 HT_ ?_
               refine pq_ 3 35 30 15 HT_ ?_
               refine pq_ 4 36 30 31 HT_ ?_
               refine pq_ 5 37 30 63 HT_ ?_
               refine pq_ 6 38 30 127 HT_ ?_
               refine pq_ 7 39 30 255 HT_ ?_
               refine pq_ 8 40 30 511 HT_ ?_
               refine pq_ 9 41 30 1023 HT_ ?_
               refine pq_ 10 42 30 2047 HT_ ?_
               refine pq_ 11 43 30 4095 HT_ ?_
               refine tq_ 12 44 30 8191 HT_ HW_ hHeld ?_
               refine pq_ 13 45 30 16383 HT_ ?_
               refine tq_ 14 46 30 32767 HT_ HW_ hHeld ?_
               refine pq_ 15 47 30 65535 HT_ ?_
               refine pq_ 16 48 30 131071 HT_ ?_
               refine pq_ 17 49 30 262143 HT_ ?_
               refine pq_ 18 50 30 524287 HT_ ?_
               refine pq_ 19 51 30 1048575 HT_ ?_
               refine one_ (i := 20) (N := some 52) (mB 30 2097151) rfl rfl (one_of HT_.out (by kernel_rfl)) (by decide) (fun K hK => ?_); refine goes_ Try.func65 (by kernel_rfl) rfl #[.slice A106_0 (rd_L1 l0_2 aB).length c106_0] (by rfl) rfl rfl (by (try simp only [List.map_toArray, List.map_cons, List.map_nil]); first | done | rfl | (simp only [List.length_drop, List.length_take]; rfl)) ?_; with_reducible refine (slices_Min_int_int.calls k2 _ _ (rd_L1 l0_2 aB) aT _ ?side1 ?side2 bK.out).mono ?_
               (case side1 => exact ck_ (Kd.C_below aP.out HB.out)); (case side2 => exact aQ.out); rintro e dU ⟨rfl, hb⟩; refine ⟨_, rfl, ?_⟩; replace aA := bb_ aA hb; replace HB := bs_ HB hb; (try clear hb); refine hK.out _ _ ⟨bc_ aA 0, bc_ aA 1, bc_ aA 2, ((HB.out.cell (World.block_lt_of_cell? w _ aC)).trans aC)⟩ (fun hHeld => ?_); clear hK K; refine norm_ (a' := ?_) ?_ ?_; rotate_left
               ·show Act.put _ (some 52) _ = _
                simp only [Act.put, sa_, sb_, sc_, i64_w, i32_w]; rfl
               refine pq_ 21 53 30 4194303 HT_ ?_
               refine pq_ 22 54 30 8388607 HT_ ?_
               refine pq_ 23 55 30 16777215 HT_ ?_
               refine pq_ 24 56 30 33554431 HT_ ?_
               refine pq_ 26 58 30 100663295 HT_ ?_
               refine tq_ 27 59 30 234881023 HT_ HW_ hHeld ?_
               refine one_ (i := 25) (N := some 57) (mB 30 268435455) rfl rfl (one_of HT_.out (by kernel_rfl)) (by decide) (fun K hK => ?_); refine goes_ Try.func66 (by kernel_rfl) rfl #[.slice A106_0 (rd_L1 l0_2 aB).length c106_0] (by rfl) rfl rfl (by (try simp only [List.map_toArray, List.map_cons, List.map_nil]); first | done | rfl | (simp only [List.length_drop, List.length_take]; rfl)) ?_; with_reducible refine (slices_Max_int_int.calls k2 _ _ (rd_L1 l0_2 aB) aR _ ?side1 ?side2 cM.out).mono ?_
               (case side1 => exact ck_ (Kd.C_below aP.out HB.out)); (case side2 => exact aQ.out); rintro e dV ⟨rfl, hb⟩; refine ⟨_, rfl, ?_⟩; replace aA := bb_ aA hb; replace HB := bs_ HB hb; (try clear hb); refine hK.out _ _ ⟨bc_ aA 0, bc_ aA 1, bc_ aA 2, ((HB.out.cell (World.block_lt_of_cell? w _ aC)).trans aC)⟩ (fun hHeld => ?_); clear hK K; refine norm_ (a' := ?_) ?_ ?_; rotate_left
               ·show Act.put _ (some 57) _ = _
                simp only [Act.put, sa_, sb_, sc_, i64_w, i32_w]; rfl
               refine pq_ 28 60 30 536870911 HT_ ?_
               refine pq_ 29 61 30 1073741823 HT_ ?_
               refine done_ (done_of HT_.out (by kernel_rfl)) ?_
               try go_wp2
               go_roundg k2
               case measure => have := HJ1.out; have := HK2.out; omega
               case rel => exact ⟨(wrap64 (aB + 1)), (by first | rfl | (simp; done) | (simp [*]; done)), H', ⟨by have := HJ1.out; have := HK2.out; omega⟩, ⟨bk_ aA⟩, ⟨bl_ HB⟩⟩
            ·rw [if_neg aM] at H; have dA : (((rd_L1 l0_2 aB).length : Int) == ((rd_L1 l0_2 0).length : Int)) = false := beq_eq_false_iff_ne.mpr aM; have dB : (((rd_L1 l0_2 aB).length : Int) != ((rd_L1 l0_2 0).length : Int)) = true := bne_iff_ne.mpr aM
             have dC : ((rd_L1 l0_2 aB).length == (rd_L1 l0_2 0).length) = false := by first | simpa using aM | (simp at aM ⊢; omega)
             obtain rfl := Option.some.inj H; have aF : 0 ≤ (aB : Int) := od_; have aG : aB < (l0_2.length : Int) := od_; obtain ⟨aI, A106_0, c106_0, e106, aH, aJ, hi106_0⟩ := at_L1 aO.out aB aF aG
             cases e106; (try replace aH := bt_ HB aH); have aP := mk_ hi106_0; have aQ := mk_ aJ; clear hi106_0 aJ; replace aF := eq_true aF; replace aG := eq_true aG
             try go_wp2
             replace aA := bd_ aA; replace HB := mk_ (below_drew1 HB.out); have aK : 0 ≤ (0 : Int) := (by omega); have aL : 0 < (l0_2.length : Int) := od_; obtain ⟨aU, A107_0, c107_0, e107, aD, aN, hi107_0⟩ := at_L1 aO.out 0 aK aL; have aC := aD; (try rw [show ((0 : Int)).toNat = 0 from rfl] at aC); (try rw [show 0 * 1 = 0 from rfl] at aC); (try rw [Addr.add_zero'] at aC); obtain rfl : aI = aU := (by injection e107); have qi107 : (0 < l0_2.length) = True := eq_true (by omega); (try rw [show ((0 : Int)).toNat = 0 from rfl] at aD); (try rw [Addr.add_zero'] at aD); (try replace aD := bt_ HB aD); have aV := mk_ hi107_0; have bL := mk_ aN; clear hi107_0 aN; replace aK := eq_true aK; replace aL := eq_true aL
             refine start_ (n := 30) (S := fun w' => w'.cell? ⟨aE, 0, none⟩ = some (.int .u64 a0_0) ∧ w'.cell? ⟨aE, 1, none⟩ = some (.int .i64 a0_1) ∧ w'.cell? ⟨aE, 2, none⟩ = some (.slice (some aI) l0_2.length c0_2) ∧ w'.cell? aI = some (.slice A107_0 (rd_L1 l0_2 0).length c107_0)) (ds := []) (mB 30 0) (by kernel_rfl) rfl rfl ⟨bc_ aA 0, bc_ aA 1, bc_ aA 2, ((HB.out.cell (World.block_lt_of_cell? w _ aC)).trans aC)⟩ (fun hHeld => ?_); refine with_tabW least_Right.tab6 least_Right.bits6 (fun HT_ HW_ => ?_); generalize wr.drew = dW at aA HB aV aD hHeld ⊢; refine pq_ 0 32 30 1 HT_ ?_
             refine pq_ 1 33 30 3 HT_ ?_
             refine pq_ 2 34 30 7 HT_ ?_
             refine pq_ 3 35 30 15 HT_ ?_
             refine pq_ 4 36 30 31 HT_ ?_
             refine pq_ 5 37 30 63 HT_ ?_
             refine pq_ 6 38 30 127 HT_ ?_
             refine pq_ 7 39 30 255 HT_ ?_
             refine pq_ 8 40 30 511 HT_ ?_
             refine pq_ 9 41 30 1023 HT_ ?_
             refine pq_ 10 42 30 2047 HT_ ?_
             refine pq_ 11 43 30 4095 HT_ ?_
             refine tq_ 12 44 30 8191 HT_ HW_ hHeld ?_
             refine pq_ 13 45 30 16383 HT_ ?_
             refine tq_ 14 46 30 32767 HT_ HW_ hHeld ?_
             refine pq_ 15 47 30 65535 HT_ ?_
             refine pq_ 16 48 30 131071 HT_ ?_
             refine pq_ 17 49 30 262143 HT_ ?_
             refine pq_ 18 50 30 524287 HT_ ?_
             refine un_ [(19, 51), (20, 52), (21, 53)] (fuel := 8) (a' := ?_) (mB 30 4194303) rfl HT_ (by kernel_rfl) (by kernel_rfl) (fun _ _ _ _ h => h) ?_ ?_; rotate_left
             ·simp only [unwA, Act.put, sa_, sb_, sc_, i64_w, i32_w]; rfl
             refine pq_ 22 54 30 8388607 HT_ ?_
             refine pq_ 23 55 30 16777215 HT_ ?_
             refine un_ [(24, 56), (25, 57), (26, 58), (27, 59), (28, 60)] (fuel := 1) (a' := ?_) (mB 30 536870911) rfl HT_ (by kernel_rfl) (by kernel_rfl) (fun _ _ _ _ h => h) ?_ ?_; rotate_left
             ·simp only [unwA, Act.put, sa_, sb_, sc_, i64_w, i32_w]; rfl
             refine pq_ 29 61 30 1073741823 HT_ ?_
             refine done_ (done_of HT_.out (by kernel_rfl)) ?_
             try go_wp2
             go_ret; exact ⟨by first | rfl | (simp [*] <;> rfl), bl_ HB⟩
           ·rw [if_neg bF] at H; exact absurd H (by simp)
        ·rw [if_neg bE] at H; exact absurd H (by simp)
       ·rw [if_neg bD] at H; exact absurd H (by simp)
      ·rw [if_neg aW] at H; have cV : decide (aB < (l0_2.length : Int)) = false := decide_eq_false aW; clear aW; obtain rfl := Option.some.inj H
       go_wp2
       go_ret; exact ⟨by first | rfl | (simp [*] <;> rfl), bl_ HB⟩

end Go.Proofs.Ytljmjjeghebdpaa.PElasticSeen
