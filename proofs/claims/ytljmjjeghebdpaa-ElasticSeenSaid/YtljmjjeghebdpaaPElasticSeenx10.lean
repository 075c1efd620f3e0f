/- The functions that a law uses, each as a plain function, with the proof that a call of the Go function comes to its answer. Condition of each: the arguments read as the data that it names, and the plain function has an answer. Written by a program of this session (standin.py). -/
import Derived.Test.YtljmjjeghebdpaaPElasticSeenx0
import Derived.Test.YtljmjjeghebdpaaPElasticSeenx9
import Derived.Test.YtljmjjeghebdpaaShort
import Derived.Lib.SliceRun
import Derived.Test.YtljmjjeghebdpaaFuns
import Derived.Test.YtljmjjeghebdpaaPressMore
namespace Go.Proofs.Ytljmjjeghebdpaa.PElasticSeen
open Go.RowKit Go.Proofs.YtljmjjeghebdpaaW.PrintWords Go.Proofs.YtljmjjeghebdpaaW.PrintLast Go.Proofs.YtljmjjeghebdpaaW.PrintMore Go.Proofs.Ytljmjjeghebdpaa.Short Go.Proofs.Ytljmjjeghebdpaa.Press Go.Proofs.Ytljmjjeghebdpaa.PressMore
attribute [local go_sem] max2_int min2_int max_two min_two max_three min_three max_four min_four   -- for this text's walks alone
set_option linter.unusedVariables false
set_option linter.unusedSimpArgs false

/-! ### heavy_Item_76: function 76 -/
mutual
def heavy_Item_76.l0 : Nat → List (S68) → Int → Int → Int → Option ((List (S68)))
  | 0, _, _, _, _ => none
  | k + 1, x0, x1, x2, x8 => if x8 < x2 then (heavy_Item_76.l1 k x0 x1 x2 x8 x8) else (some x0)
def heavy_Item_76.l1 : Nat → List (S68) → Int → Int → Int → Int → Option ((List (S68)))
  | 0, _, _, _, _, _ => none
  | k + 1, x0, x1, x2, x8, x9 => if x9 > x1 then (if 0 ≤ x9 then (if x9 < (x0.length : Int) then (if 0 ≤ (wrap64 (x9 - 1)) then (if (wrap64 (x9 - 1)) < (x0.length : Int) then ((elastic_List_1.f k ((rd_T68 x0 x9).f0) ((rd_T68 x0 x9).f1) ((rd_T68 x0 (wrap64 (x9 - 1))).f0) ((rd_T68 x0 (wrap64 (x9 - 1))).f1)).bind fun t282 => (if t282 < 0 then (heavy_Item_76.l1 k ((x0.set (x9 : Int).toNat (⟨(rd_T68 x0 (wrap64 (x9 - 1))).f0, (rd_T68 x0 (wrap64 (x9 - 1))).f1⟩ : S68)).set ((wrap64 (x9 - 1)) : Int).toNat (⟨(rd_T68 x0 x9).f0, (rd_T68 x0 x9).f1⟩ : S68)) x1 x2 x8 (wrap64 (x9 - 1))) else (heavy_Item_76.l0 k x0 x1 x2 (wrap64 (x8 + 1))))) else (none)) else (none)) else (none)) else (none)) else (heavy_Item_76.l0 k x0 x1 x2 (wrap64 (x8 + 1)))
end
def heavy_Item_76.f (k : Nat) (l0 : List (S68)) (a1 : Int) (a2 : Int) : Option ((List (S68))) := heavy_Item_76.l0 k l0 a1 a2 (wrap64 (a1 + 1))
theorem heavy_Item_76.mono_l : ∀ k, (∀ y0 y1 y2 y3, LeO (heavy_Item_76.l0 k y0 y1 y2 y3) (heavy_Item_76.l0 (k + 1) y0 y1 y2 y3)) ∧ (∀ y0 y1 y2 y3 y4, LeO (heavy_Item_76.l1 k y0 y1 y2 y3 y4) (heavy_Item_76.l1 (k + 1) y0 y1 y2 y3 y4))
  | 0 => ⟨fun _ _ _ _ r h => by simp [heavy_Item_76.l0] at h, fun _ _ _ _ _ r h => by simp [heavy_Item_76.l1] at h⟩
  | k + 1 => by
    obtain ⟨ih0, ih1⟩ := heavy_Item_76.mono_l k
    refine ⟨?_, ?_⟩ <;> intros
    all_goals first | unfold heavy_Item_76.l0 | unfold heavy_Item_76.l1
    all_goals repeat' first | (with_reducible first | exact ih0 _ _ _ _ | exact ih1 _ _ _ _ _ | exact elastic_List_1.mono _ _ _ _ _ | exact LeO.refl _ | exact LeO.none _ | refine LeO.ite ?_ ?_ | refine LeO.bind ?_ (fun _ => ?_)) | exact ih0 _ _ _ _ | exact ih1 _ _ _ _ _ | exact elastic_List_1.mono _ _ _ _ _ | exact LeO.none _ | refine LeO.ite ?_ ?_ | refine LeO.bind ?_ (fun _ => ?_)
theorem heavy_Item_76.mono : ∀ a0 a1 a2 k, LeO (heavy_Item_76.f k a0 a1 a2) (heavy_Item_76.f (k + 1) a0 a1 a2) := by
  intro a0 a1 a2 k
  obtain ⟨ih0, ih1⟩ := heavy_Item_76.mono_l k
  unfold heavy_Item_76.f
  repeat' first | (with_reducible first | exact ih0 _ _ _ _ | exact ih1 _ _ _ _ _ | exact elastic_List_1.mono _ _ _ _ _ | exact LeO.refl _ | exact LeO.none _ | refine LeO.ite ?_ ?_ | refine LeO.bind ?_ (fun _ => ?_)) | exact ih0 _ _ _ _ | exact ih1 _ _ _ _ _ | exact elastic_List_1.mono _ _ _ _ _ | exact LeO.none _ | refine LeO.ite ?_ ?_ | refine LeO.bind ?_ (fun _ => ?_)
def heavy_Item_76.T4 : Bool × List (List Nat × List Nat) := (true, [([], []), ([], []), ([0, 1], [0, 1]), ([2], [2]), ([3], [3]), ([3], [3]), ([3], [3]), ([5, 6, 3], [3, 5, 6]), ([7, 3], [3, 7]), ([3], [3]), ([3], [3]), ([10, 3], [3, 10]), ([9, 11, 3], [3, 9, 11]), ([12, 3], [3, 12]), ([4, 8, 13, 3, 3], [3, 4, 8, 13]), ([14, 3], [3, 14]), ([3, 15], [3, 15])])
def heavy_Item_76.B4 : List Nat := [0, 0, 3, 7, 15, 15, 15, 111, 239, 15, 15, 1039, 3599, 7695, 16383, 32767, 65535]
theorem heavy_Item_76.tab4 : rtab .any (opsOf Try.f76 4) = heavy_Item_76.T4 := by kernel_rfl
theorem heavy_Item_76.bits4 : waitsOk heavy_Item_76.T4.2 heavy_Item_76.B4 = true := by kernel_rfl
def heavy_Item_76.T6 : Bool × List (List Nat × List Nat) := (true, [([], []), ([], []), ([], []), ([], []), ([3], [3]), ([], []), ([], []), ([6], [6]), ([5, 7], [5, 7]), ([8], [8]), ([], []), ([], []), ([10, 11], [10, 11]), ([12], [12]), ([0, 1, 0, 1, 5, 6, 7, 8, 9, 13], [0, 1]), ([14, 9, 0, 1, 5, 6, 7, 8, 9, 13], [9, 14]), ([2, 4, 0, 1, 2, 3, 4, 5, 6, 7, 8, 9, 10, 11, 12, 13, 14, 15], [2, 4]), ([16, 13, 15, 0, 1, 2, 3, 4, 5, 6, 7, 8, 9, 10, 11, 12, 13, 14, 15], [13, 16])])
def heavy_Item_76.B6 : List Nat := [0, 0, 0, 0, 8, 0, 0, 64, 224, 480, 0, 0, 3072, 7168, 16355, 32739, 65535, 131071]
theorem heavy_Item_76.tab6 : rtab .any (opsOf Try.f76 6) = heavy_Item_76.T6 := by kernel_rfl
theorem heavy_Item_76.bits6 : waitsOk heavy_Item_76.T6.2 heavy_Item_76.B6 = true := by kernel_rfl
set_option maxHeartbeats 80000000 in
set_option maxRecDepth 100000 in
theorem heavy_Item_76.calls (k : Nat) (P0_ : Nat → Prop) (u9000_ : Value) (l0 : List (S68)) (a1 : Int) (a2 : Int) (r : List (S68)) (w0 w : World) (hB : Below w0.heap.size w0 w) (ho0 : Kd.R k68 68 w w0.heap.size P0_ u9000_ l0) (h : heavy_Item_76.f k l0 a1 a2 = some r) :
    Calls Try.prog 76 #[u9000_, .int .i64 a1, .int .i64 a2, .func (.func 35) #[] #[]] w fun e w' => e = .returned (.tuple #[]) ∧ Kd.R k68 68 w' w0.heap.size (fun k_ => (P0_ k_ ∨ w.heap.size ≤ k_)) u9000_ r ∧ Below w0.heap.size w0 w' ∧ Kept w w' (fun k_ => P0_ k_) := by
 have hu68 := Try.underlying68; have bK := mk_ (show Kd.R k68 68 w w0.heap.size (fun k_ => (P0_ k_ ∨ w.heap.size ≤ k_)) u9000_ l0 from Kd.R_mono ho0 (fun k_ hk => (.inl hk))); have HK := mk_ (Kept.refl w (fun k_ => P0_ k_)); have HW0 := mk_ hB.size; have HB := mk_ hB; clear hB; have H : (heavy_Item_76.l0 k l0 a1 a2 (wrap64 (a1 + 1))) = some r := h; clear h; have H' := mk_ H; clear H
 go_enter Try.func76, Try.ntmps76
 go_wp2
 go_loopg [8] k (fun kq v8 w' => ∃ (aP : List (S68)) (aE : Int), v8 = .int .i64 aE ∧ Aside0 (heavy_Item_76.l0 kq aP a1 a2 aE = some r) ∧ Aside0 (kq ≤ k) ∧ Aside0 (Kd.R k68 68 w' w0.heap.size (fun k_ => (P0_ k_ ∨ w.heap.size ≤ k_)) u9000_ aP) ∧ Aside0 (Kept w w' (fun k_ => P0_ k_)) ∧ Aside0 (Below w0.heap.size w0 w'))
 case atStart => exact ⟨(l0), (wrap64 (a1 + 1)), (by first | rfl | (simp; done) | (simp [*]; done)), H', ⟨Nat.le_refl _⟩, ⟨by (with_reducible repeat (first | apply Kd.R_alloc | apply Kd.R_drewN | apply Kd.R_drew)); exact bK.out⟩, ⟨kp_ HK⟩, ⟨bl_ HB⟩⟩
 case round =>
  clear H'; obtain ⟨aP, aE, rfl, HA, HK1, aC, HK, HB⟩ := hrel
  cases gk with
  | zero => exact absurd HA.out (by simp [heavy_Item_76.l0])
  | succ k1 =>
   have H := HA.out; clear HA; simp only [heavy_Item_76.l0] at H
   by_cases c4 : aE < a2
   ·rw [if_pos c4] at H; have bG : decide (aE < a2) = true := decide_eq_true c4; clear c4; have H' := mk_ H; clear H
    go_wp2
    go_loopg [9] k1 (fun kq v9 w' => ∃ (aA : List (S68)) (aB : Int), v9 = .int .i64 aB ∧ Aside0 (heavy_Item_76.l1 kq aA a1 a2 aE aB = some r) ∧ Aside0 (kq ≤ k1) ∧ Aside0 (Kd.R k68 68 w' w0.heap.size (fun k_ => (P0_ k_ ∨ w.heap.size ≤ k_)) u9000_ aA) ∧ Aside0 (Kept w w' (fun k_ => P0_ k_)) ∧ Aside0 (Below w0.heap.size w0 w'))
    case atStart => exact ⟨(aP), (aE), (by first | rfl | (simp; done) | (simp [*]; done)), H', ⟨Nat.le_refl _⟩, ⟨by (with_reducible repeat (first | apply Kd.R_alloc | apply Kd.R_drewN | apply Kd.R_drew)); exact aC.out⟩, ⟨kp_ HK⟩, ⟨bl_ HB⟩⟩
    case round =>
     clear H'; (try clear c4); (try clear bG); obtain ⟨aA, aB, rfl, HA, HK2, aC, HK, HB⟩ := hrel
     cases gk with
     | zero => exact absurd HA.out (by simp [heavy_Item_76.l1])
     | succ k2 =>
      have H := HA.out; clear HA; simp only [heavy_Item_76.l1] at H
      by_cases c5 : aB > a1
      ·rw [if_pos c5] at H; have bL : decide (a1 < aB) = true := decide_eq_true c5; clear c5
       by_cases c6 : 0 ≤ aB
       ·rw [if_pos c6] at H; have bU : decide (0 ≤ aB) = true := decide_eq_true c6; clear c6
        by_cases c7 : aB < (aA.length : Int)
        ·rw [if_pos c7] at H; have bV : decide (aB < (aA.length : Int)) = true := decide_eq_true c7; clear c7; obtain ⟨ji8, hji8⟩ : ∃ j_ : Int, (wrap64 (aB - 1)) = j_ := ⟨_, rfl⟩
         replace H : (if 0 ≤ (ji8) then (if (ji8) < (aA.length : Int) then ((elastic_List_1.f k2 ((rd_T68 aA aB).f0) ((rd_T68 aA aB).f1) ((rd_T68 aA (ji8)).f0) ((rd_T68 aA (ji8)).f1)).bind fun aF => (if aF < 0 then (heavy_Item_76.l1 k2 ((aA.set (aB : Int).toNat (⟨(rd_T68 aA (ji8)).f0, (rd_T68 aA (ji8)).f1⟩ : S68)).set ((ji8) : Int).toNat (⟨(rd_T68 aA aB).f0, (rd_T68 aA aB).f1⟩ : S68)) a1 a2 aE ji8) else (heavy_Item_76.l0 k2 aA a1 a2 (wrap64 (aE + 1))))) else (none)) else (none)) = some r := by first | (rw [hji8] at H; exact H) | (simp only [hji8] at H ⊢; exact H)
         have hji8w : (IntKind.i64.wrap (aB - 1)) = ji8 := (i64_w _).trans hji8
         by_cases c9 : 0 ≤ (ji8)
         ·rw [if_pos c9] at H; have bW : decide (0 ≤ (ji8)) = true := decide_eq_true c9; clear c9
          by_cases aQ : (ji8) < (aA.length : Int)
          ·rw [if_pos aQ] at H; have bX : decide ((ji8) < (aA.length : Int)) = true := decide_eq_true aQ; clear aQ; replace H := Option.bind_eq_some_iff.mp H; obtain ⟨aF, bH, H⟩ := H; replace H : (if aF < 0 then (heavy_Item_76.l1 k2 ((aA.set (aB : Int).toNat (⟨(rd_T68 aA (ji8)).f0, (rd_T68 aA (ji8)).f1⟩ : S68)).set ((ji8) : Int).toNat (⟨(rd_T68 aA aB).f0, (rd_T68 aA aB).f1⟩ : S68)) a1 a2 aE ji8) else (heavy_Item_76.l0 k2 aA a1 a2 (wrap64 (aE + 1)))) = some r := H; have bI := mk_ bH; clear bH
           by_cases aO : aF < 0
           ·rw [if_pos aO] at H; have bM : decide (aF < 0) = true := decide_eq_true aO; clear aO; obtain ⟨y285, hy285⟩ : ∃ y_ : List (S68), y_ = (aA.set (aB : Int).toNat (⟨(rd_T68 aA (ji8)).f0, (rd_T68 aA (ji8)).f1⟩ : S68)) := ⟨_, rfl⟩
            replace H : (heavy_Item_76.l1 k2 (y285.set ((ji8) : Int).toNat (⟨(rd_T68 aA aB).f0, (rd_T68 aA aB).f1⟩ : S68)) a1 a2 aE ji8) = some r := by first | (rw [hy285]; with_reducible exact H) | (have H2_ := (Option.bind_some _ _).symm.trans H; rw [hy285]; with_reducible exact H2_) | (have H2_ := (Option.bind_some _ _).symm.trans H; with_reducible exact H2_) | with_reducible exact H | (rw [hy285]; exact H) | exact H
            have bN := mk_ hy285; clear hy285; obtain ⟨y286, hy286⟩ : ∃ y_ : List (S68), y_ = (y285.set ((ji8) : Int).toNat (⟨(rd_T68 aA aB).f0, (rd_T68 aA aB).f1⟩ : S68)) := ⟨_, rfl⟩
            replace H : (heavy_Item_76.l1 k2 y286 a1 a2 aE ji8) = some r := by first | (rw [hy286]; with_reducible exact H) | (have H2_ := (Option.bind_some _ _).symm.trans H; rw [hy286]; with_reducible exact H2_) | (have H2_ := (Option.bind_some _ _).symm.trans H; with_reducible exact H2_) | with_reducible exact H | (rw [hy286]; exact H) | exact H
            have bO := mk_ hy286; clear hy286; have H' := mk_ H; clear H
            try go_wp2
            replace aC := mk_ (Kd.R_drew aC.out); replace HK := mk_ (Kept.drew HK.out); replace HB := mk_ (below_drew1 HB.out); obtain ⟨bY, bZ, eo16⟩ := Kd.R_slice aC.out
            (first | subst eo16 | (injection eo16 with f1_ f2_ f3_; have f4_ := f1_.symm; have f5_ := f3_.symm; clear f1_ f2_ f3_; subst f4_; subst f5_))
            have aG : 0 ≤ (aB : Int) := od_; have aH : aB < (aA.length : Int) := od_; obtain ⟨aD, e280, aI, aJ⟩ := at_T68 (Kd.R_reads' aC.out).2.2 aB aG aH
            cases e280; replace aG := eq_true aG; replace aH := eq_true aH; have aK : 0 ≤ ((ji8) : Int) := od_; have aL : (ji8) < (aA.length : Int) := od_; obtain ⟨aR, e281, aM, aN⟩ := at_T68 (Kd.R_reads' aC.out).2.2 (ji8) aK aL; obtain rfl : aD = aR := (by injection e281); replace aK := eq_true aK; replace aL := eq_true aL; refine start_ (n := 17) (S := fun w' => w'.cell? (aD.add ((aB).toNat * 2)) = some (.string ((rd_T68 aA aB).f0)) ∧ w'.cell? ⟨(aD.add ((aB).toNat * 2)).block, (aD.add ((aB).toNat * 2)).off + 1, none⟩ = some (.int .i64 ((rd_T68 aA aB).f1)) ∧ w'.cell? (aD.add (((ji8)).toNat * 2)) = some (.string ((rd_T68 aA (ji8)).f0)) ∧ w'.cell? ⟨(aD.add (((ji8)).toNat * 2)).block, (aD.add (((ji8)).toNat * 2)).off + 1, none⟩ = some (.int .i64 ((rd_T68 aA (ji8)).f1))) (ds := []) (mB 17 0) (by kernel_rfl) rfl rfl ⟨aI, aJ, aM, aN⟩ (fun hHeld => ?_); refine with_tabW heavy_Item_76.tab4 heavy_Item_76.bits4 (fun HT_ HW_ => ?_); generalize wr.drew = cA at aC HK HB aI aJ aM aN hHeld ⊢; refine pq_ 0 18 17 1 HT_ ?_
            refine pq_ 1 19 17 3 HT_ ?_
            refine pq_ 2 20 17 7 HT_ ?_
            refine pq_ 3 21 17 15 HT_ ?_
            refine pq_ 4 22 17 31 HT_ ?_
            refine pq_ 5 23 17 63 HT_ ?_
            refine pq_ 6 24 17 127 HT_ ?_
            refine pq_ 7 25 17 255 HT_ ?_
            refine pq_ 9 27 17 767 HT_ ?_
            refine pq_ 10 28 17 1791 HT_ ?_
            refine pq_ 11 29 17 3839 HT_ ?_
            refine pq_ 12 30 17 7935 HT_ ?_
            refine tq_ 8 26 17 8191 HT_ HW_ hHeld ?_
            refine tq_ 13 31 17 16383 HT_ HW_ hHeld ?_
            refine one_ (i := 14) (N := some 32) (mB 17 32767) rfl rfl (one_of HT_.out (by kernel_rfl)) (by decide) (fun K hK => ?_); refine Funs.goesv_ (c := .tmp 22) Try.func35 (by kernel_rfl) rfl #[.agg #[.string ((rd_T68 aA aB).f0), .int .i64 ((rd_T68 aA aB).f1)], .agg #[.string ((rd_T68 aA (ji8)).f0), .int .i64 ((rd_T68 aA (ji8)).f1)]] (by rfl) rfl rfl (by rfl) (by (try simp only [List.map_toArray, List.map_cons, List.map_nil]); first | done | (simp only [hji8]; rfl) | rfl | (simp only [List.length_drop, List.length_take]; rfl)) ?_; with_reducible refine (elastic_List_1.calls k2 ((rd_T68 aA aB).f0) ((rd_T68 aA aB).f1) ((rd_T68 aA (ji8)).f0) ((rd_T68 aA (ji8)).f1) aF _ bI.out).mono ?_
            rintro e bP ⟨rfl, hb⟩; have HS0_ := (hb.cell (World.block_lt_of_cell? _ _ (hHeld.1))).trans (hHeld.1); have HS1_ := (hb.cell (World.block_lt_of_cell? _ _ (hHeld.2.1))).trans (hHeld.2.1); have HS2_ := (hb.cell (World.block_lt_of_cell? _ _ (hHeld.2.2.1))).trans (hHeld.2.2.1); have HS3_ := (hb.cell (World.block_lt_of_cell? _ _ (hHeld.2.2.2))).trans (hHeld.2.2.2); refine ⟨_, rfl, ?_⟩; replace aC := mk_ (Kd.R_below (rk_ aC) hb); replace HK := mk_ (Kept.below (S := (fun k_ => P0_ k_)) (kp_ HK) hb); replace HB := bs_ HB hb; (try clear hb); refine hK.out _ _ ⟨HS0_, HS1_, HS2_, HS3_⟩ (fun hHeld => ?_); clear hK K; refine norm_ (a' := ?_) ?_ ?_; rotate_left
            ·show Act.put _ (some 32) _ = _
             simp only [Act.put, sa_, sb_, sc_, i64_w, i32_w]; rfl
            refine pq_ 15 33 17 65535 HT_ ?_
            refine pq_ 16 34 17 131071 HT_ ?_
            refine done_ (done_of HT_.out (by kernel_rfl)) ?_
            try go_wp2
            replace aC := mk_ (Kd.R_drew aC.out); replace HK := mk_ (Kept.drew HK.out); replace HB := mk_ (below_drew1 HB.out); have aS : 0 ≤ ((ji8) : Int) := od_; have aT : (ji8) < (aA.length : Int) := od_; obtain ⟨bQ, e283, aU, aV⟩ := at_T68 (Kd.R_reads' aC.out).2.2 (ji8) aS aT; obtain rfl : aD = bQ := (by injection e283); replace aS := eq_true aS; replace aT := eq_true aT; have aW : 0 ≤ (aB : Int) := od_; have aX : aB < (aA.length : Int) := od_; obtain ⟨bR, e284, aY, aZ⟩ := at_T68 (Kd.R_reads' aC.out).2.2 aB aW aX; obtain rfl : aD = bR := (by injection e284); replace aW := eq_true aW; replace aX := eq_true aX; have bA : 0 ≤ (aB : Int) := od_; have bB : (aB : Int) < ((aA.length : Int) : Int) := od_; obtain ⟨go13, cB, eo13, bJ, gl13, cl13, HG13⟩ := Kd.R_form aC.out (by omega)
            (first | cases eo13 | (injection eo13 with ea_ en_ ec_; (first | subst ea_ | (injection ea_ with ea_; subst ea_)); subst ec_; clear en_))
            have GB13 := mk_ bJ; have GG13 := mk_ HG13; clear bJ gl13 HG13; have HMgo13 := mk_ (show (P0_ go13 ∨ w.heap.size ≤ go13) from (aC.out.1 _ rfl))
            (first | simp only [add_plain] at aI | skip)
            (first | simp only [add_plain] at aJ | skip)
            (first | simp only [add_plain] at aM | skip)
            (first | simp only [add_plain] at aN | skip)
            (first | simp only [add_plain] at aU | skip)
            (first | simp only [add_plain] at aV | skip)
            (first | simp only [add_plain] at aY | skip)
            (first | simp only [add_plain] at aZ | skip)
            obtain ⟨ce13, hcl13, hM13, hcc13, hfr13⟩ := Kd.R_elem aC.out z68 (aB : Int) bA bB; obtain rfl := k68_openM hM13; have bS : World.cell? _ ⟨go13, (aB : Int).toNat * 2, none⟩ = some (.string ((rd_T68 aA aB).f0)) := hcc13 0 _ rfl; have bT : World.cell? _ ⟨go13, (aB : Int).toNat * 2 + 1, none⟩ = some (.int .i64 ((rd_T68 aA aB).f1)) := hcc13 1 _ rfl; have hf13_0 : World.frozen? _ ⟨go13, (aB : Int).toNat * 2, none⟩ = false := hfr13 0; have hf13_1 : World.frozen? _ ⟨go13, (aB : Int).toNat * 2 + 1, none⟩ = false := hfr13 1; clear hcl13 hcc13 hfr13; (try clear hM13); replace bA := eq_true bA; replace bB := eq_true bB; obtain ⟨ce19, hcl19, hM19, hcc19, hfr19⟩ := Kd.R_elem aC.out z68 (aB : Int) od_ (by have h_ : (aB : Int) < ((aA.length : Int) : Int) := od_; first | exact h_ | (have e_ := (Kd.R_reads' aC.out).1; omega) | simpa using h_); obtain rfl := k68_openM hM19
            have HP19 := (Kd.R_seg aC.out (aB : Int) od_ (by have h_ : (aB : Int) < ((aA.length : Int) : Int) := od_; first | exact h_ | (have e_ := (Kd.R_reads' aC.out).1; omega) | simpa using h_) (seg := [.string ((rd_T68 aA (ji8)).f0), .int .i64 ((rd_T68 aA (ji8)).f1)]) (j := 0) hcl19 hcc19 (show 2 ≤ 2 from by decide) (x' := (⟨(rd_T68 aA (ji8)).f0, (rd_T68 aA (ji8)).f1⟩ : S68)) (k68_mkM _ _ _ (⟨(rd_T68 aA (ji8)).f0, (rd_T68 aA (ji8)).f1⟩ : S68) ) (fun _ hk => hk)).1; rw [← bN.out] at HP19; have HQ19 := mk_ HP19; clear hcl19 hcc19 hfr19 hM19 HP19; have bC : 0 ≤ ((ji8) : Int) := od_; have bD : ((ji8) : Int) < ((aA.length : Int) : Int) := od_; obtain ⟨ce14, hcl14, hM14, hcc14, hfr14⟩ := Kd.R_elem HQ19.out z68 ((ji8) : Int) bC bD; obtain rfl := k68_openM hM14; have bE : World.cell? _ ⟨go13, ((ji8) : Int).toNat * 2, none⟩ = some (.string ((rd_T68 y285 (ji8)).f0)) := hcc14 0 _ rfl; have bF : World.cell? _ ⟨go13, ((ji8) : Int).toNat * 2 + 1, none⟩ = some (.int .i64 ((rd_T68 y285 (ji8)).f1)) := hcc14 1 _ rfl; have hf14_0 : World.frozen? _ ⟨go13, ((ji8) : Int).toNat * 2, none⟩ = false := hfr14 0
            have hf14_1 : World.frozen? _ ⟨go13, ((ji8) : Int).toNat * 2 + 1, none⟩ = false := hfr14 1; clear hcl14 hcc14 hfr14; (try clear hM14); replace bC := eq_true bC; replace bD := eq_true bD; obtain ⟨ce20, hcl20, hM20, hcc20, hfr20⟩ := Kd.R_elem HQ19.out z68 ((ji8) : Int) od_ (by have h_ : ((ji8) : Int) < ((aA.length : Int) : Int) := od_; first | exact h_ | (have e_ := (Kd.R_reads' aC.out).1; omega) | simpa using h_); obtain rfl := k68_openM hM20; have HP20 := (Kd.R_seg HQ19.out ((ji8) : Int) od_ (by have h_ : ((ji8) : Int) < ((aA.length : Int) : Int) := od_; first | exact h_ | (have e_ := (Kd.R_reads' aC.out).1; omega) | simpa using h_) (seg := [.string ((rd_T68 aA aB).f0), .int .i64 ((rd_T68 aA aB).f1)]) (j := 0) hcl20 hcc20 (show 2 ≤ 2 from by decide) (x' := (⟨(rd_T68 aA aB).f0, (rd_T68 aA aB).f1⟩ : S68)) (k68_mkM _ _ _ (⟨(rd_T68 aA aB).f0, (rd_T68 aA aB).f1⟩ : S68) ) (fun _ hk => hk)).1; rw [← bO.out] at HP20; have HQ20 := mk_ HP20; clear hcl20 hcc20 hfr20 hM20 HP20
            refine start_ (n := 18) (S := fun w' => w'.cell? ⟨go13, (((ji8)).toNat * 2), none⟩ = some (.string ((rd_T68 aA (ji8)).f0)) ∧ w'.cell? ⟨go13, (((ji8)).toNat * 2) + 1, none⟩ = some (.int .i64 ((rd_T68 aA (ji8)).f1)) ∧ w'.cell? ⟨go13, ((aB).toNat * 2), none⟩ = some (.string ((rd_T68 aA aB).f0)) ∧ w'.cell? ⟨go13, ((aB).toNat * 2) + 1, none⟩ = some (.int .i64 ((rd_T68 aA aB).f1))) (ds := [15, 17]) (mB 18 0) (by kernel_rfl) rfl rfl ⟨aU, aV, aY, aZ⟩ (fun hHeld => ?_); refine with_tabW heavy_Item_76.tab6 heavy_Item_76.bits6 (fun HT_ HW_ => ?_); generalize bP.drew = cC at aC HK HB GG13 HQ19 HQ20 hf13_0 hf13_1 hf14_0 hf14_1 bS bT bE bF aI aJ aM aN aU aV aY aZ hHeld ⊢; refine pq_ 0 37 18 1 HT_ ?_
            refine pq_ 1 38 18 3 HT_ ?_
            refine pq_ 2 39 18 7 HT_ ?_
            refine pq_ 3 40 18 15 HT_ ?_
            refine pq_ 4 41 18 31 HT_ ?_
            refine pq_ 5 42 18 63 HT_ ?_
            refine pq_ 6 43 18 127 HT_ ?_
            refine pq_ 7 44 18 255 HT_ ?_
            refine pq_ 8 45 18 511 HT_ ?_
            refine pq_ 10 47 18 1535 HT_ ?_
            refine pq_ 11 48 18 3583 HT_ ?_
            refine pq_ 12 49 18 7679 HT_ ?_
            refine tq_ 9 46 18 8191 HT_ HW_ hHeld ?_
            refine tq_ 13 50 18 16383 HT_ HW_ hHeld ?_
            refine pq_ 14 51 18 32767 HT_ ?_
            refine last_ (i := 15) (N := none) (mB 18 65535) rfl rfl (one_of HT_.out (by kernel_rfl)) (by decide) (fun K hK => ?_); refine skip_ (w1 := ?_) (by rfl) rfl ?_ ?_; rotate_left
            ·(try have hs_0 := bE); (try have hs_1 := bF); (try have hg_0 := hf14_0); (try have hg_1 := hf14_1); (try simp only [World.setCells, show k68.sz = 2 from rfl, Nat.add_zero] at hs_0 hs_1 hg_0 hg_1); (try rw [World.cell?_setCell_other _ _ _ _ (by intro h; simp only [Addr.mk.injEq] at h; omega)] at hs_0); (try simp only [World.frozen?_setCell] at hg_0 hg_1); go_simp; rfl
            refine hK.out _ _ ?_; clear hK K; refine pq_ 16 52 18 131071 HT_ ?_
            refine last_ (i := 17) (N := none) (mB 18 262143) rfl rfl (one_of HT_.out (by kernel_rfl)) (by decide) (fun K hK => ?_); refine skip_ (w1 := ?_) (by rfl) rfl ?_ ?_; rotate_left
            ·(try have hs_0 := bE); (try have hs_1 := bF); (try have hg_0 := hf14_0); (try have hg_1 := hf14_1); (try simp only [World.setCells, show k68.sz = 2 from rfl, Nat.add_zero] at hs_0 hs_1 hg_0 hg_1); (try rw [World.cell?_setCell_other _ _ _ _ (by intro h; simp only [Addr.mk.injEq] at h; omega)] at hs_0); (try simp only [World.frozen?_setCell] at hg_0 hg_1); go_simp; rfl
            refine hK.out _ _ ?_; clear hK K; refine done_ (done_of HT_.out (by kernel_rfl)) ?_
            try go_wp2
            go_roundg k2
            case measure => have := HK1.out; have := HK2.out; omega
            case rel => exact ⟨(y286), (ji8), (by first | rfl | (simp; done) | (simp only [← hji8] <;> (first | rfl | simp)) | (simp [*]; done)), H', ⟨by have := HK1.out; have := HK2.out; omega⟩, ⟨by (with_reducible repeat (first | apply Kd.R_alloc | apply Kd.R_drewN | apply Kd.R_drew)); exact HQ20.out⟩, ⟨by repeat (first | (with_reducible first | exact HK.out | apply Kept.alloc | apply Kept.drewN | apply Kept.drew | refine Kept.setCell ?_ HMgo13.out _ | refine Kept.setCell ?_ HMgo13.out _ | refine Kept.setCell ?_ HMgo13.out _ | refine Kept.setCell ?_ HMgo13.out _) | exact HK.out)⟩, ⟨bl_ HB⟩⟩
           ·rw [if_neg aO] at H; have bM : decide (aF < 0) = false := decide_eq_false aO; clear aO; have H' := mk_ H; clear H
            try go_wp2
            replace aC := mk_ (Kd.R_drew aC.out); replace HK := mk_ (Kept.drew HK.out); replace HB := mk_ (below_drew1 HB.out); obtain ⟨cD, cE, eo22⟩ := Kd.R_slice aC.out
            (first | subst eo22 | (injection eo22 with f1_ f2_ f3_; have f4_ := f1_.symm; have f5_ := f3_.symm; clear f1_ f2_ f3_; subst f4_; subst f5_))
            have aG : 0 ≤ (aB : Int) := od_; have aH : aB < (aA.length : Int) := od_; obtain ⟨aD, e280, aI, aJ⟩ := at_T68 (Kd.R_reads' aC.out).2.2 aB aG aH
            cases e280; replace aG := eq_true aG; replace aH := eq_true aH; have aK : 0 ≤ ((ji8) : Int) := od_; have aL : (ji8) < (aA.length : Int) := od_; obtain ⟨aR, e281, aM, aN⟩ := at_T68 (Kd.R_reads' aC.out).2.2 (ji8) aK aL; obtain rfl : aD = aR := (by injection e281); replace aK := eq_true aK; replace aL := eq_true aL; refine start_ (n := 17) (S := fun w' => w'.cell? (aD.add ((aB).toNat * 2)) = some (.string ((rd_T68 aA aB).f0)) ∧ w'.cell? ⟨(aD.add ((aB).toNat * 2)).block, (aD.add ((aB).toNat * 2)).off + 1, none⟩ = some (.int .i64 ((rd_T68 aA aB).f1)) ∧ w'.cell? (aD.add (((ji8)).toNat * 2)) = some (.string ((rd_T68 aA (ji8)).f0)) ∧ w'.cell? ⟨(aD.add (((ji8)).toNat * 2)).block, (aD.add (((ji8)).toNat * 2)).off + 1, none⟩ = some (.int .i64 ((rd_T68 aA (ji8)).f1))) (ds := []) (mB 17 0) (by kernel_rfl) rfl rfl ⟨aI, aJ, aM, aN⟩ (fun hHeld => ?_); refine with_tabW heavy_Item_76.tab4 heavy_Item_76.bits4 (fun HT_ HW_ => ?_); generalize wr.drew = cF at aC HK HB aI aJ aM aN hHeld ⊢; refine pq_ 0 18 17 1 HT_ ?_
            refine pq_ 1 19 17 3 HT_ ?_
            refine pq_ 2 20 17 7 HT_ ?_
            refine pq_ 3 21 17 15 HT_ ?_
            refine pq_ 4 22 17 31 HT_ ?_
            refine pq_ 5 23 17 63 HT_ ?_
            refine pq_ 6 24 17 127 HT_ ?_
            refine pq_ 7 25 17 255 HT_ ?_
            refine pq_ 9 27 17 767 HT_ ?_
            refine pq_ 10 28 17 1791 HT_ ?_
            refine pq_ 11 29 17 3839 HT_ ?_
            refine pq_ 12 30 17 7935 HT_ ?_
            refine tq_ 8 26 17 8191 HT_ HW_ hHeld ?_
            refine tq_ 13 31 17 16383 HT_ HW_ hHeld ?_
            refine one_ (i := 14) (N := some 32) (mB 17 32767) rfl rfl (one_of HT_.out (by kernel_rfl)) (by decide) (fun K hK => ?_); refine Funs.goesv_ (c := .tmp 22) Try.func35 (by kernel_rfl) rfl #[.agg #[.string ((rd_T68 aA aB).f0), .int .i64 ((rd_T68 aA aB).f1)], .agg #[.string ((rd_T68 aA (ji8)).f0), .int .i64 ((rd_T68 aA (ji8)).f1)]] (by rfl) rfl rfl (by rfl) (by (try simp only [List.map_toArray, List.map_cons, List.map_nil]); first | done | (simp only [hji8]; rfl) | rfl | (simp only [List.length_drop, List.length_take]; rfl)) ?_; with_reducible refine (elastic_List_1.calls k2 ((rd_T68 aA aB).f0) ((rd_T68 aA aB).f1) ((rd_T68 aA (ji8)).f0) ((rd_T68 aA (ji8)).f1) aF _ bI.out).mono ?_
            rintro e cG ⟨rfl, hb⟩; have HS0_ := (hb.cell (World.block_lt_of_cell? _ _ (hHeld.1))).trans (hHeld.1); have HS1_ := (hb.cell (World.block_lt_of_cell? _ _ (hHeld.2.1))).trans (hHeld.2.1); have HS2_ := (hb.cell (World.block_lt_of_cell? _ _ (hHeld.2.2.1))).trans (hHeld.2.2.1); have HS3_ := (hb.cell (World.block_lt_of_cell? _ _ (hHeld.2.2.2))).trans (hHeld.2.2.2); refine ⟨_, rfl, ?_⟩; replace aC := mk_ (Kd.R_below (rk_ aC) hb); replace HK := mk_ (Kept.below (S := (fun k_ => P0_ k_)) (kp_ HK) hb); replace HB := bs_ HB hb; (try clear hb); refine hK.out _ _ ⟨HS0_, HS1_, HS2_, HS3_⟩ (fun hHeld => ?_); clear hK K; refine norm_ (a' := ?_) ?_ ?_; rotate_left
            ·show Act.put _ (some 32) _ = _
             simp only [Act.put, sa_, sb_, sc_, i64_w, i32_w]; rfl
            refine pq_ 15 33 17 65535 HT_ ?_
            refine pq_ 16 34 17 131071 HT_ ?_
            refine done_ (done_of HT_.out (by kernel_rfl)) ?_
            try go_wp2
            go_roundg k2
            case measure => have := HK1.out; have := HK2.out; omega
            case rel => exact ⟨(aA), (wrap64 (aE + 1)), (by first | rfl | (simp; done) | (simp [*]; done)), H', ⟨by have := HK1.out; have := HK2.out; omega⟩, ⟨by (with_reducible repeat (first | apply Kd.R_alloc | apply Kd.R_drewN | apply Kd.R_drew)); exact aC.out⟩, ⟨kp_ HK⟩, ⟨bl_ HB⟩⟩
          ·rw [if_neg aQ] at H; exact absurd H (by simp)
         ·rw [if_neg c9] at H; exact absurd H (by simp)
        ·rw [if_neg c7] at H; exact absurd H (by simp)
       ·rw [if_neg c6] at H; exact absurd H (by simp)
      ·rw [if_neg c5] at H; have bL : decide (a1 < aB) = false := decide_eq_false c5; clear c5; have H' := mk_ H; clear H
       try go_wp2
       replace aC := mk_ (Kd.R_drew aC.out); replace HK := mk_ (Kept.drew HK.out); replace HB := mk_ (below_drew1 HB.out); refine start_ (n := 17) (S := fun w' => True) (ds := []) (mB 17 0) (by kernel_rfl) rfl rfl trivial (fun hHeld => ?_); refine with_tabW heavy_Item_76.tab4 heavy_Item_76.bits4 (fun HT_ HW_ => ?_); generalize wr.drew = cH at aC HK HB hHeld ⊢; refine pq_ 0 18 17 1 HT_ ?_
       refine pq_ 1 19 17 3 HT_ ?_
       refine pq_ 2 20 17 7 HT_ ?_
       refine pq_ 3 21 17 15 HT_ ?_
       refine un_ [(4, 22), (5, 23), (6, 24), (7, 25), (8, 26), (9, 27), (10, 28), (11, 29), (12, 30), (13, 31), (14, 32), (15, 33)] (fuel := 1) (a' := ?_) (mB 17 65535) rfl HT_ (by kernel_rfl) (by kernel_rfl) (fun _ _ _ _ h => h) ?_ ?_; rotate_left
       ·simp only [unwA, Act.put, sa_, sb_, sc_, i64_w, i32_w]; rfl
       refine pq_ 16 34 17 131071 HT_ ?_
       refine done_ (done_of HT_.out (by kernel_rfl)) ?_
       try go_wp2
       go_roundg k2
       case measure => have := HK1.out; have := HK2.out; omega
       case rel => exact ⟨(aA), (wrap64 (aE + 1)), (by first | rfl | (simp; done) | (simp [*]; done)), H', ⟨by have := HK1.out; have := HK2.out; omega⟩, ⟨by (with_reducible repeat (first | apply Kd.R_alloc | apply Kd.R_drewN | apply Kd.R_drew)); exact aC.out⟩, ⟨kp_ HK⟩, ⟨bl_ HB⟩⟩
   ·rw [if_neg c4] at H; have bG : decide (aE < a2) = false := decide_eq_false c4; clear c4; obtain rfl := Option.some.inj H
    go_wp2
    first | go_end0 | ((try simp only [Exit.inBlock, Exit.then]); refine bodyPost_ret (results_none rfl _ _ _) rfl ?_)
    exact ⟨by first | rfl | (simp [*] <;> rfl), by (with_reducible repeat (first | apply Kd.R_alloc | apply Kd.R_drewN | apply Kd.R_drew)); exact aC.out, bl_ HB, by repeat (first | (with_reducible first | exact HK.out | apply Kept.alloc | apply Kept.drewN | apply Kept.drew) | exact HK.out)⟩

end Go.Proofs.Ytljmjjeghebdpaa.PElasticSeen
