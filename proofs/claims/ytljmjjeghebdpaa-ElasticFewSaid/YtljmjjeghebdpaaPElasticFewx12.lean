/- The functions that a law uses, each as a plain function, with the proof that a call of the Go function comes to its answer. Condition of each: the arguments read as the data that it names, and the plain function has an answer. Written by a program of this session (standin.py). -/
import Derived.Test.YtljmjjeghebdpaaPElasticFewx0
import Derived.Test.YtljmjjeghebdpaaPElasticFewx11
import Derived.Test.YtljmjjeghebdpaaShort
import Derived.Lib.SliceRun
import Derived.Test.YtljmjjeghebdpaaPressMore
namespace Go.Proofs.Ytljmjjeghebdpaa.PElasticFew
open Go.RowKit Go.Proofs.YtljmjjeghebdpaaW.PrintWords Go.Proofs.YtljmjjeghebdpaaW.PrintLast Go.Proofs.YtljmjjeghebdpaaW.PrintMore Go.Proofs.Ytljmjjeghebdpaa.Short Go.Proofs.Ytljmjjeghebdpaa.Press Go.Proofs.Ytljmjjeghebdpaa.PressMore
attribute [local go_sem] max2_int min2_int max_two min_two max_three min_three max_four min_four   -- for this text's walks alone
set_option linter.unusedVariables false
set_option linter.unusedSimpArgs false

/-! ### rillmeterref02_words: function 82 -/
mutual
def rillmeterref02_words.l0 : Nat → ByteArray → Option (List Int)
  | 0, _ => none
  | k + 1, x0 => if ((x0.size : Int) % 4) = 0 then (rillmeterref02_words.l1 k x0 ([] : List Int) 0) else ((some (([0] : List Int) : List Int)).bind fun y378 => (if x0.size + (strOfNums y378).size ≤ 9223372036854775807 then (rillmeterref02_words.l0 k (x0 ++ (strOfNums y378))) else (none)))
def rillmeterref02_words.l1 : Nat → ByteArray → List Int → Int → Option (List Int)
  | 0, _, _, _ => none
  | k + 1, x0, x3, x4 => if x4 < (x0.size : Int) then (if 0 ≤ x4 then (if 0 ≤ (wrap64 (x4 + 1)) then (if (wrap64 (x4 + 1)) < (x0.size : Int) then (if 0 ≤ (wrap64 (x4 + 2)) then (if (wrap64 (x4 + 2)) < (x0.size : Int) then (if 0 ≤ (wrap64 (x4 + 3)) then (if (wrap64 (x4 + 3)) < (x0.size : Int) then (if x3.length < 17592186044416 then (rillmeterref02_words.l1 k x0 (x3 ++ [IntKind.u64.wrap ((IntKind.u64.wrap ((IntKind.u64.wrap ((IntKind.u64.wrap ((IntKind.u64.wrap (bt x0 x4)) * 16777216)) + (IntKind.u64.wrap ((IntKind.u64.wrap (bt x0 (wrap64 (x4 + 1)))) * 65536)))) + (IntKind.u64.wrap ((IntKind.u64.wrap (bt x0 (wrap64 (x4 + 2)))) * 256)))) + (IntKind.u64.wrap (bt x0 (wrap64 (x4 + 3)))))]) (wrap64 (x4 + 4))) else (none)) else (none)) else (none)) else (none)) else (none)) else (none)) else (none)) else (none)) else (some x3)
end
def rillmeterref02_words.f (k : Nat) (a0 : ByteArray) : Option (List Int) := rillmeterref02_words.l0 k a0
theorem rillmeterref02_words.mono_l : ∀ k, (∀ y0, LeO (rillmeterref02_words.l0 k y0) (rillmeterref02_words.l0 (k + 1) y0)) ∧ (∀ y0 y1 y2, LeO (rillmeterref02_words.l1 k y0 y1 y2) (rillmeterref02_words.l1 (k + 1) y0 y1 y2))
  | 0 => ⟨fun _ r h => by simp [rillmeterref02_words.l0] at h, fun _ _ _ r h => by simp [rillmeterref02_words.l1] at h⟩
  | k + 1 => by
    obtain ⟨ih0, ih1⟩ := rillmeterref02_words.mono_l k
    refine ⟨?_, ?_⟩
    · intro y0
      unfold rillmeterref02_words.l0
      repeat' first
      | (with_reducible exact ih0 _)
      | (with_reducible exact ih1 _ _ _)
      | (with_reducible exact LeO.refl _)
      | (with_reducible exact LeO.none _)
      | (with_reducible refine LeO.ite ?_ ?_)
      | (with_reducible refine LeO.bind ?_ (fun _ => ?_))
      | exact ih0 _
      | exact ih1 _ _ _
      | exact LeO.none _
      | refine LeO.ite ?_ ?_
      | refine LeO.bind ?_ (fun _ => ?_)
    · intro y0 y1 y2
      unfold rillmeterref02_words.l1
      repeat' first
      | (with_reducible exact ih0 _)
      | (with_reducible exact ih1 _ _ _)
      | (with_reducible exact LeO.refl _)
      | (with_reducible exact LeO.none _)
      | (with_reducible refine LeO.ite ?_ ?_)
      | (with_reducible refine LeO.bind ?_ (fun _ => ?_))
      | exact ih0 _
      | exact ih1 _ _ _
      | exact LeO.none _
      | refine LeO.ite ?_ ?_
      | refine LeO.bind ?_ (fun _ => ?_)
theorem rillmeterref02_words.mono : ∀ a0 k, LeO (rillmeterref02_words.f k a0) (rillmeterref02_words.f (k + 1) a0) := by
  intro a0 k
  obtain ⟨ih0, ih1⟩ := rillmeterref02_words.mono_l k
  unfold rillmeterref02_words.f
  repeat' first
      | (with_reducible exact ih0 _)
      | (with_reducible exact ih1 _ _ _)
      | (with_reducible exact LeO.refl _)
      | (with_reducible exact LeO.none _)
      | (with_reducible refine LeO.ite ?_ ?_)
      | (with_reducible refine LeO.bind ?_ (fun _ => ?_))
      | exact ih0 _
      | exact ih1 _ _ _
      | exact LeO.none _
      | refine LeO.ite ?_ ?_
      | refine LeO.bind ?_ (fun _ => ?_)
def rillmeterref02_words.T7 : Bool × List (List Nat × List Nat) := (true, [([], []), ([], []), ([], []), ([1, 2], [1, 2]), ([3], [3]), ([4], [4]), ([], []), ([], []), ([7], [7]), ([6, 8], [6, 8]), ([9], [9]), ([10], [10]), ([5, 11], [5, 11]), ([], []), ([], []), ([14], [14]), ([13, 15], [13, 15]), ([16], [16]), ([17], [17]), ([12, 18], [12, 18]), ([], []), ([], []), ([21], [21]), ([20, 22], [20, 22]), ([23], [23]), ([19, 24], [19, 24]), ([25], [25]), ([0, 26], [0, 26]), ([27, 27, 0, 1, 2, 3, 4, 5, 6, 7, 8, 9, 10, 11, 12, 13, 14, 15, 16, 17, 18, 19, 20, 21, 22, 23, 24, 25, 26, 27], [0, 27])])
def rillmeterref02_words.B7 : List Nat := [0, 0, 0, 6, 14, 30, 0, 0, 128, 448, 960, 1984, 4094, 0, 0, 16384, 57344, 122880, 253952, 524286, 0, 0, 2097152, 7340032, 15728640, 33554430, 67108862, 134217727, 268435455]
theorem rillmeterref02_words.tab7 : rtab .any (opsOf Try.f82 7) = rillmeterref02_words.T7 := by kernel_rfl
theorem rillmeterref02_words.bits7 : waitsOk rillmeterref02_words.T7.2 rillmeterref02_words.B7 = true := by kernel_rfl
set_option maxHeartbeats 80000000 in
set_option maxRecDepth 100000 in
theorem rillmeterref02_words.calls (k : Nat) (a0 : ByteArray) (r : List Int) (w : World) (h : rillmeterref02_words.f k a0 = some r) :
    Calls Try.prog 82 #[.string a0] w fun e w' => ∃ v0_ : Value, e = .returned (v0_) ∧ Kd.R (Kd.int .u64) 22 w' w.heap.size (fun _ => True) v0_ r ∧ Below w.heap.size w w' := by
 have HB := mk_ (Below.refl w.heap.size w); have H : (rillmeterref02_words.l0 k a0) = some r := h; clear h; have H' := mk_ H; clear H
 go_enter Try.func82, Try.ntmps82
 go_wp2
 go_loopg [0] k (fun kq v0 w' => ∃ (aA : ByteArray), v0 = .string aA ∧ Aside0 (rillmeterref02_words.l0 kq aA = some r) ∧ Aside0 (kq ≤ k) ∧ Aside0 (Below w.heap.size w w'))
 case atStart => exact ⟨(a0), (by first | rfl | (simp; done) | (simp [*]; done)), H', ⟨Nat.le_refl _⟩, ⟨bl_ HB⟩⟩
 case round =>
  clear H'; obtain ⟨aA, rfl, HA, HK1, HB⟩ := hrel
  cases gk with
  | zero => exact absurd HA.out (by simp [rillmeterref02_words.l0])
  | succ k1 =>
   have H := HA.out; clear HA; simp only [rillmeterref02_words.l0] at H
   by_cases c2 : ((aA.size : Int) % 4) = 0
   ·rw [if_pos c2] at H; have aN : (((aA.size : Int) % 4) == 0) = true := beq_iff_eq.mpr c2; have aQ : (((aA.size : Int) % 4) != 0) = false := bne_eq_false_iff_eq.mpr c2; clear c2; have H' := mk_ H; clear H
    go_wp2
    go_loopg [3, 4] k1 (fun kq v3 v4 w' => ∃ (aD : List Int) (aC : Int), v4 = .int .i64 aC ∧ Aside0 (rillmeterref02_words.l1 kq aA aD aC = some r) ∧ Aside0 (kq ≤ k1) ∧ Aside0 (Kd.R (Kd.int .u64) 22 w' w.heap.size (fun _ => True) v3 aD) ∧ Aside0 (Below w.heap.size w w'))
    case atStart => exact ⟨(([] : List Int)), (0), (by first | rfl | (simp; done) | (simp [*]; done)), H', ⟨Nat.le_refl _⟩, ⟨by first | exact Kd.R_nil _ _ _ _ _ | exact Kd.N_nil _ _ _ _ _ | exact Kd.V_nil _ _ _ _ _ | exact Kd.Q_nil _ _ _ _ _ | exact Kd.S_nil _ _ _ _ _⟩, ⟨bl_ HB⟩⟩
    case round =>
     clear H'; (try clear c2); (try clear aN); (try clear aQ); (try clear p2); obtain ⟨aD, aC, rfl, HA, HK2, aE, HB⟩ := hrel
     cases gk with
     | zero => exact absurd HA.out (by simp [rillmeterref02_words.l1])
     | succ k2 =>
      have H := HA.out; clear HA; simp only [rillmeterref02_words.l1] at H
      by_cases c3 : aC < (aA.size : Int)
      ·rw [if_pos c3] at H; have aX : decide (aC < (aA.size : Int)) = true := decide_eq_true c3; clear c3
       by_cases c4 : 0 ≤ aC
       ·rw [if_pos c4] at H; have bC : decide (0 ≤ aC) = true := decide_eq_true c4; clear c4; obtain ⟨ji6, hji6⟩ : ∃ j_ : Int, (wrap64 (aC + 1)) = j_ := ⟨_, rfl⟩
        replace H : (if 0 ≤ (ji6) then (if (ji6) < (aA.size : Int) then (if 0 ≤ (wrap64 (aC + 2)) then (if (wrap64 (aC + 2)) < (aA.size : Int) then (if 0 ≤ (wrap64 (aC + 3)) then (if (wrap64 (aC + 3)) < (aA.size : Int) then (if aD.length < 17592186044416 then (rillmeterref02_words.l1 k2 aA (aD ++ [IntKind.u64.wrap ((IntKind.u64.wrap ((IntKind.u64.wrap ((IntKind.u64.wrap ((IntKind.u64.wrap (bt aA aC)) * 16777216)) + (IntKind.u64.wrap ((IntKind.u64.wrap (bt aA (ji6))) * 65536)))) + (IntKind.u64.wrap ((IntKind.u64.wrap (bt aA (wrap64 (aC + 2)))) * 256)))) + (IntKind.u64.wrap (bt aA (wrap64 (aC + 3)))))]) (wrap64 (aC + 4))) else (none)) else (none)) else (none)) else (none)) else (none)) else (none)) else (none)) = some r := by first | (rw [hji6] at H; exact H) | (simp only [hji6] at H ⊢; exact H)
        have hji6w : (IntKind.i64.wrap (aC + 1)) = ji6 := (i64_w _).trans hji6
        by_cases c7 : 0 ≤ (ji6)
        ·rw [if_pos c7] at H; have bD : decide (0 ≤ (ji6)) = true := decide_eq_true c7; clear c7
         by_cases c8 : (ji6) < (aA.size : Int)
         ·rw [if_pos c8] at H; have bE : decide ((ji6) < (aA.size : Int)) = true := decide_eq_true c8; clear c8; obtain ⟨ji10, hji10⟩ : ∃ j_ : Int, (wrap64 (aC + 2)) = j_ := ⟨_, rfl⟩
          replace H : (if 0 ≤ (ji10) then (if (ji10) < (aA.size : Int) then (if 0 ≤ (wrap64 (aC + 3)) then (if (wrap64 (aC + 3)) < (aA.size : Int) then (if aD.length < 17592186044416 then (rillmeterref02_words.l1 k2 aA (aD ++ [IntKind.u64.wrap ((IntKind.u64.wrap ((IntKind.u64.wrap ((IntKind.u64.wrap ((IntKind.u64.wrap (bt aA aC)) * 16777216)) + (IntKind.u64.wrap ((IntKind.u64.wrap (bt aA (ji6))) * 65536)))) + (IntKind.u64.wrap ((IntKind.u64.wrap (bt aA (ji10))) * 256)))) + (IntKind.u64.wrap (bt aA (wrap64 (aC + 3)))))]) (wrap64 (aC + 4))) else (none)) else (none)) else (none)) else (none)) else (none)) = some r := by first | (rw [hji10] at H; exact H) | (simp only [hji10] at H ⊢; exact H)
          have hji10w : (IntKind.i64.wrap (aC + 2)) = ji10 := (i64_w _).trans hji10
          by_cases aH : 0 ≤ (ji10)
          ·rw [if_pos aH] at H; have bF : decide (0 ≤ (ji10)) = true := decide_eq_true aH; clear aH
           by_cases aI : (ji10) < (aA.size : Int)
           ·rw [if_pos aI] at H; have bG : decide ((ji10) < (aA.size : Int)) = true := decide_eq_true aI; clear aI; obtain ⟨ji14, hji14⟩ : ∃ j_ : Int, (wrap64 (aC + 3)) = j_ := ⟨_, rfl⟩
            replace H : (if 0 ≤ (ji14) then (if (ji14) < (aA.size : Int) then (if aD.length < 17592186044416 then (rillmeterref02_words.l1 k2 aA (aD ++ [IntKind.u64.wrap ((IntKind.u64.wrap ((IntKind.u64.wrap ((IntKind.u64.wrap ((IntKind.u64.wrap (bt aA aC)) * 16777216)) + (IntKind.u64.wrap ((IntKind.u64.wrap (bt aA (ji6))) * 65536)))) + (IntKind.u64.wrap ((IntKind.u64.wrap (bt aA (ji10))) * 256)))) + (IntKind.u64.wrap (bt aA (ji14))))]) (wrap64 (aC + 4))) else (none)) else (none)) else (none)) = some r := by first | (rw [hji14] at H; exact H) | (simp only [hji14] at H ⊢; exact H)
            have hji14w : (IntKind.i64.wrap (aC + 3)) = ji14 := (i64_w _).trans hji14
            by_cases aJ : 0 ≤ (ji14)
            ·rw [if_pos aJ] at H; have bH : decide (0 ≤ (ji14)) = true := decide_eq_true aJ; clear aJ
             by_cases aK : (ji14) < (aA.size : Int)
             ·rw [if_pos aK] at H; have bI : decide ((ji14) < (aA.size : Int)) = true := decide_eq_true aK; clear aK
              by_cases aM : aD.length < 17592186044416
              ·rw [if_pos aM] at H; have aY := mk_ aM; clear aM; obtain ⟨y381, hy381⟩ : ∃ y_ : List Int, y_ = (aD ++ [IntKind.u64.wrap ((IntKind.u64.wrap ((IntKind.u64.wrap ((IntKind.u64.wrap ((IntKind.u64.wrap (bt aA aC)) * 16777216)) + (IntKind.u64.wrap ((IntKind.u64.wrap (bt aA (ji6))) * 65536)))) + (IntKind.u64.wrap ((IntKind.u64.wrap (bt aA (ji10))) * 256)))) + (IntKind.u64.wrap (bt aA (ji14))))]) := ⟨_, rfl⟩
               replace H : (rillmeterref02_words.l1 k2 aA y381 (wrap64 (aC + 4))) = some r := by first | (rw [hy381]; with_reducible exact H) | (have H2_ := (Option.bind_some _ _).symm.trans H; rw [hy381]; with_reducible exact H2_) | (have H2_ := (Option.bind_some _ _).symm.trans H; with_reducible exact H2_) | with_reducible exact H | (rw [hy381]; exact H) | exact H
               have aZ := mk_ hy381; clear hy381; have H' := mk_ H; clear H
               try go_wp2
               replace aE := mk_ (Kd.R_drew aE.out); replace HB := mk_ (below_drew1 HB.out); have p5 : 0 ≤ (aC : Int) := of_decide_eq_true (by first | (with_reducible assumption) | assumption); have q5 : aC < (aA.size : Int) := of_decide_eq_true (by first | (with_reducible assumption) | assumption); have hx5 := bt_at aA aC; replace p5 := eq_true p5; replace q5 := eq_true q5; have p9 : 0 ≤ ((ji6) : Int) := of_decide_eq_true (by first | (with_reducible assumption) | assumption); have q9 : (ji6) < (aA.size : Int) := of_decide_eq_true (by first | (with_reducible assumption) | assumption); have hx9 := bt_at aA (ji6); replace p9 := eq_true p9; replace q9 := eq_true q9; have aR : 0 ≤ ((ji10) : Int) := of_decide_eq_true (by first | (with_reducible assumption) | assumption); have aT : (ji10) < (aA.size : Int) := of_decide_eq_true (by first | (with_reducible assumption) | assumption); have hx13 := bt_at aA (ji10); replace aR := eq_true aR; replace aT := eq_true aT; have aU : 0 ≤ ((ji14) : Int) := of_decide_eq_true (by first | (with_reducible assumption) | assumption); have aV : (ji14) < (aA.size : Int) := of_decide_eq_true (by first | (with_reducible assumption) | assumption); have hx17 := bt_at aA (ji14); replace aU := eq_true aU; replace aV := eq_true aV
               refine start_ (n := 29) (S := fun w' => True) (ds := []) (mB 29 0) (by kernel_rfl) rfl rfl trivial (fun hHeld => ?_); refine with_tabW rillmeterref02_words.tab7 rillmeterref02_words.bits7 (fun HT_ HW_ => ?_); generalize wr.drew = bJ at aE HB hHeld ⊢; refine pq_ 0 19 29 1 HT_ ?_
               refine pq_ 1 20 29 3 HT_ ?_
               refine pq_ 2 21 29 7 HT_ ?_
               refine pq_ 6 25 29 71 HT_ ?_
               refine pq_ 7 26 29 199 HT_ ?_
               refine pq_ 8 27 29 455 HT_ ?_
               refine pq_ 13 32 29 8647 HT_ ?_
               refine pq_ 14 33 29 25031 HT_ ?_
               refine pq_ 15 34 29 57799 HT_ ?_
               refine pq_ 20 39 29 1106375 HT_ ?_
               refine pq_ 21 40 29 3203527 HT_ ?_
               refine pq_ 22 41 29 7397831 HT_ ?_
               refine take_ (i := 3) (N := some 22) (v := ?_) (a' := ?_) (mB 29 7397839) rfl rfl (take_ofW HT_.out HW_.out (by kernel_rfl)) (fun _ _ _ h => h) (Or.inl ⟨by rfl, ?_⟩) hHeld ?_ ?_; rotate_left
               ·intro w' _; go_simp; with_reducible rfl
               rotate_left
               ·simp only [Act.put, sa_, sb_, sc_, i64_w, i32_w]; rfl
               refine pq_ 4 23 29 7397855 HT_ ?_
               refine pq_ 5 24 29 7397887 HT_ ?_
               refine take_ (i := 9) (N := some 28) (v := ?_) (a' := ?_) (mB 29 7398399) rfl rfl (take_ofW HT_.out HW_.out (by kernel_rfl)) (fun _ _ _ h => h) (Or.inl ⟨by rfl, ?_⟩) hHeld ?_ ?_; rotate_left
               ·intro w' _; go_simp; with_reducible rfl
               rotate_left
               ·simp only [Act.put, sa_, sb_, sc_, i64_w, i32_w]; rfl
               refine pq_ 10 29 29 7399423 HT_ ?_
               refine pq_ 11 30 29 7401471 HT_ ?_
               refine pq_ 12 31 29 7405567 HT_ ?_
               refine take_ (i := 16) (N := some 35) (v := ?_) (a' := ?_) (mB 29 7471103) rfl rfl (take_ofW HT_.out HW_.out (by kernel_rfl)) (fun _ _ _ h => h) (Or.inl ⟨by rfl, ?_⟩) hHeld ?_ ?_; rotate_left
               ·intro w' _; go_simp; with_reducible rfl
               rotate_left
               ·simp only [Act.put, sa_, sb_, sc_, i64_w, i32_w]; rfl
               refine pq_ 17 36 29 7602175 HT_ ?_
               refine pq_ 18 37 29 7864319 HT_ ?_
               refine pq_ 19 38 29 8388607 HT_ ?_
               refine take_ (i := 23) (N := some 42) (v := ?_) (a' := ?_) (mB 29 16777215) rfl rfl (take_ofW HT_.out HW_.out (by kernel_rfl)) (fun _ _ _ h => h) (Or.inl ⟨by rfl, ?_⟩) hHeld ?_ ?_; rotate_left
               ·intro w' _; go_simp; with_reducible rfl
               rotate_left
               ·simp only [Act.put, sa_, sb_, sc_, i64_w, i32_w]; rfl
               refine pq_ 24 43 29 33554431 HT_ ?_
               refine pq_ 25 44 29 67108863 HT_ ?_
               refine one_ (i := 26) (N := some 45) (mB 29 134217727) rfl rfl (one_of HT_.out (by kernel_rfl)) (by decide) (fun K hK => ?_); refine value_ (w1 := ?_) (v := ?_) (by rfl) rfl ?_ ?_; rotate_left 2
               ·go_simp
                constructor
                ·rfl
                ·rfl
               refine hK.out _ _ trivial (fun hHeld => ?_); clear hK K; refine norm_ (a' := ?_) ?_ ?_; rotate_left
               ·show Act.put _ (some 45) _ = _
                simp only [Act.put, sa_, sb_, sc_, i64_w, i32_w]; rfl
               refine one_ (i := 27) (N := some 46) (mB 29 268435455) rfl rfl (one_of HT_.out (by kernel_rfl)) (by decide) (fun K hK => ?_); refine Kd.R_append_step (Kd.int .u64) (w0 := w) w.heap.size (by rfl) (.tmp 19) (.tmp 45) 126 22 (.int .u64 0) 8 rfl Try.underlying126 info22 rfl (by decide) (by omega) u3 aD (IntKind.u64.wrap ((IntKind.u64.wrap ((IntKind.u64.wrap ((IntKind.u64.wrap ((IntKind.u64.wrap (bt aA aC)) * 16777216)) + (IntKind.u64.wrap ((IntKind.u64.wrap (bt aA (ji6))) * 65536)))) + (IntKind.u64.wrap ((IntKind.u64.wrap (bt aA (ji10))) * 256)))) + (IntKind.u64.wrap (bt aA (ji14))))) [.int .u64 (IntKind.u64.wrap ((IntKind.u64.wrap ((IntKind.u64.wrap ((IntKind.u64.wrap ((IntKind.u64.wrap (bt aA aC)) * 16777216)) + (IntKind.u64.wrap ((IntKind.u64.wrap (bt aA (ji6))) * 65536)))) + (IntKind.u64.wrap ((IntKind.u64.wrap (bt aA (ji10))) * 256)))) + (IntKind.u64.wrap (bt aA (ji14)))))] (fun _ => True) (fun _ => False) rfl rfl ?aP (fun _ hk => hk.elim) ?aF ?aO ?aB ?aS ?aL ?_; (case aP => exact rfl); (case aB => exact (bl_ HB)); (case aF => exact (fun _ _ => trivial)); (case aO => exact (by (with_reducible repeat (first | apply Kd.R_alloc | apply Kd.R_drewN | apply Kd.R_drew)); exact aE.out)); (case aS => exact (below_size (bl_ HB))); (case aL => have := aY.out; omega); intro bK bL ho hb hg hat; rw [← aZ.out] at ho; replace HB := mk_ (hb); have bA := mk_ (ho); clear aE; clear ho hb hg hat
               refine hK.out _ _ trivial (fun hHeld => ?_); clear hK K; refine norm_ (a' := ?_) ?_ ?_; rotate_left
               ·show Act.put _ (some 46) _ = _
                simp only [Act.put, sa_, sb_, sc_, i64_w, i32_w]; rfl
               refine pq_ 28 3 29 536870911 HT_ ?_
               refine done_ (done_of HT_.out (by kernel_rfl)) ?_
               try go_wp2
               go_roundg k2
               case measure => have := HK1.out; have := HK2.out; omega
               case rel => exact ⟨(y381), (wrap64 (aC + 4)), (by first | rfl | (simp; done) | (simp [*]; done)), H', ⟨by have := HK1.out; have := HK2.out; omega⟩, ⟨by (with_reducible repeat (first | apply Kd.R_alloc | apply Kd.R_drewN | apply Kd.R_drew)); exact bA.out⟩, ⟨bl_ HB⟩⟩
              ·rw [if_neg aM] at H; exact absurd H (by simp)
             ·rw [if_neg aK] at H; exact absurd H (by simp)
            ·rw [if_neg aJ] at H; exact absurd H (by simp)
           ·rw [if_neg aI] at H; exact absurd H (by simp)
          ·rw [if_neg aH] at H; exact absurd H (by simp)
         ·rw [if_neg c8] at H; exact absurd H (by simp)
        ·rw [if_neg c7] at H; exact absurd H (by simp)
       ·rw [if_neg c4] at H; exact absurd H (by simp)
      ·rw [if_neg c3] at H; have aX : decide (aC < (aA.size : Int)) = false := decide_eq_false c3; clear c3; obtain rfl := Option.some.inj H
       go_wp2
       go_ret; exact ⟨_, by first | rfl | (simp [errW_none, errW_some] <;> rfl) | (simp [*, errW_none, errW_some] <;> rfl), by (with_reducible repeat (first | apply Kd.R_alloc | apply Kd.R_drewN | apply Kd.R_drew)); exact aE.out, bl_ HB⟩
   ·rw [if_neg c2] at H; have aN : (((aA.size : Int) % 4) == 0) = false := beq_eq_false_iff_ne.mpr c2; have aQ : (((aA.size : Int) % 4) != 0) = true := bne_iff_ne.mpr c2; obtain ⟨y378, hy378⟩ : ∃ y_ : List Int, y_ = (([0] : List Int)) := ⟨_, rfl⟩
    replace H : (if aA.size + (strOfNums y378).size ≤ 9223372036854775807 then (rillmeterref02_words.l0 k1 (aA ++ (strOfNums y378))) else (none)) = some r := by first | (rw [hy378]; with_reducible exact H) | (have H2_ := (Option.bind_some _ _).symm.trans H; rw [hy378]; with_reducible exact H2_) | (have H2_ := (Option.bind_some _ _).symm.trans H; with_reducible exact H2_) | with_reducible exact H | (rw [hy378]; exact H) | exact H
    have aW := mk_ hy378; clear hy378
    by_cases aG : aA.size + (strOfNums y378).size ≤ 9223372036854775807
    ·rw [if_pos aG] at H; have bM := eq_true aG; have bN : decide (aA.size + (strOfNums y378).size ≤ 9223372036854775807) = true := decide_eq_true aG
     try have bO : (9223372036854775807 < aA.size + (strOfNums y378).size) = False := eq_false (Nat.not_lt.2 aG)
     have H' := mk_ H; clear H
     go_wp2_with (first | ((with_reducible refine gate_dst (N := 10) rfl ?_); refine Kd.R_lit (Kd.int .u8) _ 5 ?hg (N := 10) ?hd (xs := ([0] : List Int)) (inner := [.int .u8 0]) (ok := fun _ => True) (okp := fun _ => True) ?hr ?hp (fun _ hk => hk) trivial (Below.refl _ _) (Nat.le_refl _) (by simp) ?_; (case hd => rfl); (case hg => rfl); (case hr => first | (go_simp; done) | (go_simp; rfl)); (case hp => exact (Reps.one (show Kd.M (Kd.int .u8) _ _ _ 0 [.int .u8 0] from rfl) (Reps.none _ _))); intro bP bQ ho23 hb hg_ hnew_; clear hg_ hnew_; (first | rw [← aW.out] at ho23 | (simp only [Int.reduceToNat] at ho23; rw [← aW.out] at ho23)); have n0_ := mk_ (Kd.R_lower ho23 (below_size (bl_ HB))); have n1_ := bs_ HB hb; clear HB; have bB := n0_; have HB := n1_; clear n0_ n1_; clear hb ho23; have hcv24 := own_string (P := Try.prog) Try.underlying129 Try.underlying5 Try.underlying9 (Kd.own_of_R bB.out)))
     go_roundg k1
     case measure => have := HK1.out; omega
     case rel => exact ⟨(aA ++ (strOfNums y378)), (by first | rfl | (simp; done) | (simp [*]; done)), H', ⟨by have := HK1.out; omega⟩, ⟨bl_ HB⟩⟩
    ·rw [if_neg aG] at H; exact absurd H (by simp)

/-! ### rillmeterref02_Sum: function 73 -/
def rillmeterref02_Sum.l0 : Nat → Int → Int → List Int → Int → Option (Int)
  | 0, _, _, _, _ => none
  | k + 1, x5, x6, x7, x8 => if x8 < (x7.length : Int) then ((rillmeterref01_Mul.f k x5 x6).bind fun t389 => (if 0 ≤ x8 then ((rillmeterref01_Add.f (rd x7 x8) 1).bind fun t391 => ((rillmeterref01_Add.f t389 t391).bind fun t392 => (rillmeterref02_Sum.l0 k x5 t392 x7 (wrap64 (x8 + 1))))) else (none))) else ((rillmeterref01_Mul.f k x5 x6).bind fun t393 => ((rillmeterref01_Pow.f k t393 17).bind fun t394 => (some t394)))
def rillmeterref02_Sum.f (k : Nat) (a0 : Int) (a1 : ByteArray) : Option (Int) := (rillmeterref01_Add.f a0 2).bind fun t384 => ((rillmeterref01_Of.f (IntKind.u64.wrap ((a1.size : Int)))).bind fun t385 => ((rillmeterref02_words.f k a1).bind fun t386 => (rillmeterref02_Sum.l0 k t384 t385 t386 0)))
theorem rillmeterref02_Sum.mono_l : ∀ k, (∀ y0 y1 y2 y3, LeO (rillmeterref02_Sum.l0 k y0 y1 y2 y3) (rillmeterref02_Sum.l0 (k + 1) y0 y1 y2 y3))
  | 0 => fun _ _ _ _ r h => by simp [rillmeterref02_Sum.l0] at h
  | k + 1 => by
    have ih0 := rillmeterref02_Sum.mono_l k
    · intro y0 y1 y2 y3
      unfold rillmeterref02_Sum.l0
      repeat' first
      | (with_reducible exact ih0 _ _ _ _)
      | (with_reducible exact rillmeterref01_Mul.mono _ _ _)
      | (with_reducible exact rillmeterref01_Pow.mono _ _ _)
      | (with_reducible exact rillmeterref02_words.mono _ _)
      | (with_reducible exact LeO.refl _)
      | (with_reducible exact LeO.none _)
      | (with_reducible refine LeO.ite ?_ ?_)
      | (with_reducible refine LeO.bind ?_ (fun _ => ?_))
      | exact ih0 _ _ _ _
      | exact rillmeterref01_Mul.mono _ _ _
      | exact rillmeterref01_Pow.mono _ _ _
      | exact rillmeterref02_words.mono _ _
      | exact LeO.none _
      | refine LeO.ite ?_ ?_
      | refine LeO.bind ?_ (fun _ => ?_)
theorem rillmeterref02_Sum.mono : ∀ a0 a1 k, LeO (rillmeterref02_Sum.f k a0 a1) (rillmeterref02_Sum.f (k + 1) a0 a1) := by
  intro a0 a1 k
  have ih0 := rillmeterref02_Sum.mono_l k
  unfold rillmeterref02_Sum.f
  repeat' first
      | (with_reducible exact ih0 _ _ _ _)
      | (with_reducible exact rillmeterref01_Mul.mono _ _ _)
      | (with_reducible exact rillmeterref01_Pow.mono _ _ _)
      | (with_reducible exact rillmeterref02_words.mono _ _)
      | (with_reducible exact LeO.refl _)
      | (with_reducible exact LeO.none _)
      | (with_reducible refine LeO.ite ?_ ?_)
      | (with_reducible refine LeO.bind ?_ (fun _ => ?_))
      | exact ih0 _ _ _ _
      | exact rillmeterref01_Mul.mono _ _ _
      | exact rillmeterref01_Pow.mono _ _ _
      | exact rillmeterref02_words.mono _ _
      | exact LeO.none _
      | refine LeO.ite ?_ ?_
      | refine LeO.bind ?_ (fun _ => ?_)
set_option maxHeartbeats 80000000 in
set_option maxRecDepth 100000 in
theorem rillmeterref02_Sum.calls (k : Nat) (a0 : Int) (a1 : ByteArray) (r : Int) (w : World) (h : rillmeterref02_Sum.f k a0 a1 = some r) :
    Calls Try.prog 73 #[.int .u64 a0, .string a1] w fun e w' => e = .returned (.int .u64 r) ∧ Below w.heap.size w w' := by
 have HB := mk_ (Below.refl w.heap.size w); have H : ((rillmeterref01_Add.f a0 2).bind fun aD => ((rillmeterref01_Of.f (IntKind.u64.wrap ((a1.size : Int)))).bind fun aH => ((rillmeterref02_words.f k a1).bind fun aC => (rillmeterref02_Sum.l0 k aD aH aC 0)))) = some r := h; clear h; replace H := Option.bind_eq_some_iff.mp H; obtain ⟨aD, aZ, H⟩ := H; replace H : ((rillmeterref01_Of.f (IntKind.u64.wrap ((a1.size : Int)))).bind fun aH => ((rillmeterref02_words.f k a1).bind fun aC => (rillmeterref02_Sum.l0 k aD aH aC 0))) = some r := H; have A3 := mk_ aZ; clear aZ; replace H := Option.bind_eq_some_iff.mp H; obtain ⟨aH, bA, H⟩ := H; replace H : ((rillmeterref02_words.f k a1).bind fun aC => (rillmeterref02_Sum.l0 k aD aH aC 0)) = some r := H; have A4 := mk_ bA; clear bA; replace H := Option.bind_eq_some_iff.mp H; obtain ⟨aC, bB, H⟩ := H; replace H : (rillmeterref02_Sum.l0 k aD aH aC 0) = some r := H; have A5 := mk_ bB; clear bB; have H' := mk_ H; clear H
 go_enter Try.func73, Try.ntmps73
 go_wp2_with (first | (go_at_call 63; (with_reducible refine (rillmeterref01_Add.calls a0 2 aD _ A3.out).mono ?_); rintro e w' ⟨rfl, ⟨nd, rfl⟩⟩; (try first | exact ⟨rfl, _, World.drewN_drewN _ _ _⟩ | exact ⟨rfl, _, Eq.trans (World.drewN_drewN _ _ _) (congrArg (World.drewN _) (Nat.add_assoc _ _ _))⟩)) | (go_at_call 81; (with_reducible refine (rillmeterref01_Of.calls (IntKind.u64.wrap ((a1.size : Int))) aH _ A4.out).mono ?_); rintro e w' ⟨rfl, ⟨nd, rfl⟩⟩; (try first | exact ⟨rfl, _, World.drewN_drewN _ _ _⟩ | exact ⟨rfl, _, Eq.trans (World.drewN_drewN _ _ _) (congrArg (World.drewN _) (Nat.add_assoc _ _ _))⟩)) | (go_at_call 82; (with_reducible refine (rillmeterref02_words.calls k a1 aC _ A5.out).mono ?_); rintro e w6 ⟨aT, rfl, ho0, hb⟩; have n0_ := mk_ (Kd.R_lower ho0 (below_size (bl_ HB))); have n1_ := bs_ HB hb; clear HB; have aU := n0_; have HB := n1_; clear n0_ n1_; (try clear hb); (try clear hb2); (try clear hk); (try clear hi); (try clear ho0)))
 repeat (go_quiet (first | (go_at_call 63; (with_reducible refine (rillmeterref01_Add.calls a0 2 aD _ A3.out).mono ?_); rintro e w' ⟨rfl, ⟨nd, rfl⟩⟩; (try first | exact ⟨rfl, _, World.drewN_drewN _ _ _⟩ | exact ⟨rfl, _, Eq.trans (World.drewN_drewN _ _ _) (congrArg (World.drewN _) (Nat.add_assoc _ _ _))⟩)) | (go_at_call 81; (with_reducible refine (rillmeterref01_Of.calls (IntKind.u64.wrap ((a1.size : Int))) aH _ A4.out).mono ?_); rintro e w' ⟨rfl, ⟨nd, rfl⟩⟩; (try first | exact ⟨rfl, _, World.drewN_drewN _ _ _⟩ | exact ⟨rfl, _, Eq.trans (World.drewN_drewN _ _ _) (congrArg (World.drewN _) (Nat.add_assoc _ _ _))⟩)) | (go_at_call 82; (with_reducible refine (rillmeterref02_words.calls k a1 aC _ A5.out).mono ?_); rintro e w6 ⟨aT, rfl, ho0, hb⟩; have n0_ := mk_ (Kd.R_lower ho0 (below_size (bl_ HB))); have n1_ := bs_ HB hb; clear HB; have aU := n0_; have HB := n1_; clear n0_ n1_; (try clear hb); (try clear hb2); (try clear hk); (try clear hi); (try clear ho0))); try go_wp2_with (first | (go_at_call 63; (with_reducible refine (rillmeterref01_Add.calls a0 2 aD _ A3.out).mono ?_); rintro e w' ⟨rfl, ⟨nd, rfl⟩⟩; (try first | exact ⟨rfl, _, World.drewN_drewN _ _ _⟩ | exact ⟨rfl, _, Eq.trans (World.drewN_drewN _ _ _) (congrArg (World.drewN _) (Nat.add_assoc _ _ _))⟩)) | (go_at_call 81; (with_reducible refine (rillmeterref01_Of.calls (IntKind.u64.wrap ((a1.size : Int))) aH _ A4.out).mono ?_); rintro e w' ⟨rfl, ⟨nd, rfl⟩⟩; (try first | exact ⟨rfl, _, World.drewN_drewN _ _ _⟩ | exact ⟨rfl, _, Eq.trans (World.drewN_drewN _ _ _) (congrArg (World.drewN _) (Nat.add_assoc _ _ _))⟩)) | (go_at_call 82; (with_reducible refine (rillmeterref02_words.calls k a1 aC _ A5.out).mono ?_); rintro e w6 ⟨aT, rfl, ho0, hb⟩; have n0_ := mk_ (Kd.R_lower ho0 (below_size (bl_ HB))); have n1_ := bs_ HB hb; clear HB; have aU := n0_; have HB := n1_; clear n0_ n1_; (try clear hb); (try clear hb2); (try clear hk); (try clear hi); (try clear ho0))))
 go_loopg [6, 8] k (fun kq v6 v8 w' => ∃ (aI : Int) (aA : Int), v6 = .int .u64 aI ∧ v8 = .int .i64 aA ∧ Aside0 (rillmeterref02_Sum.l0 kq aD aI aC aA = some r) ∧ Aside0 (kq ≤ k) ∧ Aside0 (Kd.R (Kd.int .u64) 22 w' w.heap.size (fun _ => True) aT aC) ∧ Aside0 (Below w.heap.size w w'))
 case atStart => exact ⟨(aH), (0), (by first | rfl | (simp; done) | (simp [*]; done)), (by first | rfl | (simp; done) | (simp [*]; done)), H', ⟨Nat.le_refl _⟩, ⟨by (with_reducible repeat (first | apply Kd.R_alloc | apply Kd.R_drewN | apply Kd.R_drew)); exact aU.out⟩, ⟨bl_ HB⟩⟩
 case round =>
  clear H'; (try clear p2); obtain ⟨aI, aA, rfl, rfl, HA, HK1, aQ, HB⟩ := hrel
  cases gk with
  | zero => exact absurd HA.out (by simp [rillmeterref02_Sum.l0])
  | succ k1 =>
   have H := HA.out; clear HA; simp only [rillmeterref02_Sum.l0] at H
   by_cases c7 : aA < (aC.length : Int)
   ·rw [if_pos c7] at H; have bJ : decide (aA < (aC.length : Int)) = true := decide_eq_true c7; clear c7; replace H := Option.bind_eq_some_iff.mp H; obtain ⟨aM, bC, H⟩ := H; replace H : (if 0 ≤ aA then ((rillmeterref01_Add.f (rd aC aA) 1).bind fun aJ => ((rillmeterref01_Add.f aM aJ).bind fun aK => (rillmeterref02_Sum.l0 k1 aD aK aC (wrap64 (aA + 1))))) else (none)) = some r := H; have A8 := mk_ bC; clear bC
    by_cases c9 : 0 ≤ aA
    ·rw [if_pos c9] at H; have bK : decide (0 ≤ aA) = true := decide_eq_true c9; clear c9; replace H := Option.bind_eq_some_iff.mp H; obtain ⟨aJ, bD, H⟩ := H; replace H : ((rillmeterref01_Add.f aM aJ).bind fun aK => (rillmeterref02_Sum.l0 k1 aD aK aC (wrap64 (aA + 1)))) = some r := H; have aV := mk_ bD; clear bD; replace H := Option.bind_eq_some_iff.mp H; obtain ⟨aK, bE, H⟩ := H; replace H : (rillmeterref02_Sum.l0 k1 aD aK aC (wrap64 (aA + 1))) = some r := H; have aW := mk_ bE; clear bE; have H' := mk_ H; clear H; obtain ⟨bL, bM, eo12⟩ := Kd.R_slice aQ.out; subst eo12
     go_wp2_with (first | (go_at_call 62; (with_reducible refine (rillmeterref01_Mul.calls k1 aD aI aM _ A8.out).mono ?_); rintro e w' ⟨rfl, ⟨nd, rfl⟩⟩; (try first | exact ⟨rfl, _, World.drewN_drewN _ _ _⟩ | exact ⟨rfl, _, Eq.trans (World.drewN_drewN _ _ _) (congrArg (World.drewN _) (Nat.add_assoc _ _ _))⟩); have aE : 0 ≤ (aA : Int) := of_decide_eq_true (by first | (with_reducible assumption) | assumption); have aG : aA < (aC.length : Int) := of_decide_eq_true (by first | (with_reducible assumption) | assumption); obtain ⟨bF, e390, bG⟩ := Kd.at_int (Kd.R_reads' aQ.out).2.2 aA aE aG; cases e390; replace aE := eq_true aE; replace aG := eq_true aG) | (go_at_call 63; (with_reducible refine (rillmeterref01_Add.calls (rd aC aA) 1 aJ _ aV.out).mono ?_); rintro e w' ⟨rfl, ⟨nd, rfl⟩⟩; (try first | exact ⟨rfl, _, World.drewN_drewN _ _ _⟩ | exact ⟨rfl, _, Eq.trans (World.drewN_drewN _ _ _) (congrArg (World.drewN _) (Nat.add_assoc _ _ _))⟩)) | (go_at_call 63; (with_reducible refine (rillmeterref01_Add.calls aM aJ aK _ aW.out).mono ?_); rintro e w' ⟨rfl, ⟨nd, rfl⟩⟩; (try first | exact ⟨rfl, _, World.drewN_drewN _ _ _⟩ | exact ⟨rfl, _, Eq.trans (World.drewN_drewN _ _ _) (congrArg (World.drewN _) (Nat.add_assoc _ _ _))⟩)))
     repeat (go_quiet (first | (go_at_call 62; (with_reducible refine (rillmeterref01_Mul.calls k1 aD aI aM _ A8.out).mono ?_); rintro e w' ⟨rfl, ⟨nd, rfl⟩⟩; (try first | exact ⟨rfl, _, World.drewN_drewN _ _ _⟩ | exact ⟨rfl, _, Eq.trans (World.drewN_drewN _ _ _) (congrArg (World.drewN _) (Nat.add_assoc _ _ _))⟩); have aE : 0 ≤ (aA : Int) := of_decide_eq_true (by first | (with_reducible assumption) | assumption); have aG : aA < (aC.length : Int) := of_decide_eq_true (by first | (with_reducible assumption) | assumption); obtain ⟨bF, e390, bG⟩ := Kd.at_int (Kd.R_reads' aQ.out).2.2 aA aE aG; cases e390; replace aE := eq_true aE; replace aG := eq_true aG) | (go_at_call 63; (with_reducible refine (rillmeterref01_Add.calls (rd aC aA) 1 aJ _ aV.out).mono ?_); rintro e w' ⟨rfl, ⟨nd, rfl⟩⟩; (try first | exact ⟨rfl, _, World.drewN_drewN _ _ _⟩ | exact ⟨rfl, _, Eq.trans (World.drewN_drewN _ _ _) (congrArg (World.drewN _) (Nat.add_assoc _ _ _))⟩)) | (go_at_call 63; (with_reducible refine (rillmeterref01_Add.calls aM aJ aK _ aW.out).mono ?_); rintro e w' ⟨rfl, ⟨nd, rfl⟩⟩; (try first | exact ⟨rfl, _, World.drewN_drewN _ _ _⟩ | exact ⟨rfl, _, Eq.trans (World.drewN_drewN _ _ _) (congrArg (World.drewN _) (Nat.add_assoc _ _ _))⟩))); try go_wp2_with (first | (go_at_call 62; (with_reducible refine (rillmeterref01_Mul.calls k1 aD aI aM _ A8.out).mono ?_); rintro e w' ⟨rfl, ⟨nd, rfl⟩⟩; (try first | exact ⟨rfl, _, World.drewN_drewN _ _ _⟩ | exact ⟨rfl, _, Eq.trans (World.drewN_drewN _ _ _) (congrArg (World.drewN _) (Nat.add_assoc _ _ _))⟩); have aE : 0 ≤ (aA : Int) := of_decide_eq_true (by first | (with_reducible assumption) | assumption); have aG : aA < (aC.length : Int) := of_decide_eq_true (by first | (with_reducible assumption) | assumption); obtain ⟨bF, e390, bG⟩ := Kd.at_int (Kd.R_reads' aQ.out).2.2 aA aE aG; cases e390; replace aE := eq_true aE; replace aG := eq_true aG) | (go_at_call 63; (with_reducible refine (rillmeterref01_Add.calls (rd aC aA) 1 aJ _ aV.out).mono ?_); rintro e w' ⟨rfl, ⟨nd, rfl⟩⟩; (try first | exact ⟨rfl, _, World.drewN_drewN _ _ _⟩ | exact ⟨rfl, _, Eq.trans (World.drewN_drewN _ _ _) (congrArg (World.drewN _) (Nat.add_assoc _ _ _))⟩)) | (go_at_call 63; (with_reducible refine (rillmeterref01_Add.calls aM aJ aK _ aW.out).mono ?_); rintro e w' ⟨rfl, ⟨nd, rfl⟩⟩; (try first | exact ⟨rfl, _, World.drewN_drewN _ _ _⟩ | exact ⟨rfl, _, Eq.trans (World.drewN_drewN _ _ _) (congrArg (World.drewN _) (Nat.add_assoc _ _ _))⟩))))
     go_roundg k1
     case measure => have := HK1.out; omega
     case rel => exact ⟨(aK), (wrap64 (aA + 1)), (by first | rfl | (simp; done) | (simp [*]; done)), (by first | rfl | (simp; done) | (simp [*]; done)), H', ⟨by have := HK1.out; omega⟩, ⟨by (with_reducible repeat (first | apply Kd.R_alloc | apply Kd.R_drewN | apply Kd.R_drew)); exact aQ.out⟩, ⟨bl_ HB⟩⟩
    ·rw [if_neg c9] at H; exact absurd H (by simp)
   ·rw [if_neg c7] at H; have bJ : decide (aA < (aC.length : Int)) = false := decide_eq_false c7; clear c7; replace H := Option.bind_eq_some_iff.mp H; obtain ⟨aN, bH, H⟩ := H; replace H : ((rillmeterref01_Pow.f k1 aN 17).bind fun aR => (some aR)) = some r := H; have aX := mk_ bH; clear bH; replace H := Option.bind_eq_some_iff.mp H; obtain ⟨aR, bI, H⟩ := H; replace H : (some aR) = some r := H; have aY := mk_ bI; clear bI; obtain rfl := Option.some.inj H; obtain ⟨bN, bO, eo15⟩ := Kd.R_slice aQ.out; subst eo15
    go_wp2_with (first | (go_at_call 62; (with_reducible refine (rillmeterref01_Mul.calls k1 aD aI aN _ aX.out).mono ?_); rintro e w' ⟨rfl, ⟨nd, rfl⟩⟩; (try first | exact ⟨rfl, _, World.drewN_drewN _ _ _⟩ | exact ⟨rfl, _, Eq.trans (World.drewN_drewN _ _ _) (congrArg (World.drewN _) (Nat.add_assoc _ _ _))⟩)) | (go_at_call 64; (with_reducible refine (rillmeterref01_Pow.calls k1 aN 17 aR _ aY.out).mono ?_); rintro e w' ⟨rfl, ⟨nd, rfl⟩⟩; (try first | exact ⟨rfl, _, World.drewN_drewN _ _ _⟩ | exact ⟨rfl, _, Eq.trans (World.drewN_drewN _ _ _) (congrArg (World.drewN _) (Nat.add_assoc _ _ _))⟩)))
    repeat (go_quiet (first | (go_at_call 62; (with_reducible refine (rillmeterref01_Mul.calls k1 aD aI aN _ aX.out).mono ?_); rintro e w' ⟨rfl, ⟨nd, rfl⟩⟩; (try first | exact ⟨rfl, _, World.drewN_drewN _ _ _⟩ | exact ⟨rfl, _, Eq.trans (World.drewN_drewN _ _ _) (congrArg (World.drewN _) (Nat.add_assoc _ _ _))⟩)) | (go_at_call 64; (with_reducible refine (rillmeterref01_Pow.calls k1 aN 17 aR _ aY.out).mono ?_); rintro e w' ⟨rfl, ⟨nd, rfl⟩⟩; (try first | exact ⟨rfl, _, World.drewN_drewN _ _ _⟩ | exact ⟨rfl, _, Eq.trans (World.drewN_drewN _ _ _) (congrArg (World.drewN _) (Nat.add_assoc _ _ _))⟩))); try go_wp2_with (first | (go_at_call 62; (with_reducible refine (rillmeterref01_Mul.calls k1 aD aI aN _ aX.out).mono ?_); rintro e w' ⟨rfl, ⟨nd, rfl⟩⟩; (try first | exact ⟨rfl, _, World.drewN_drewN _ _ _⟩ | exact ⟨rfl, _, Eq.trans (World.drewN_drewN _ _ _) (congrArg (World.drewN _) (Nat.add_assoc _ _ _))⟩)) | (go_at_call 64; (with_reducible refine (rillmeterref01_Pow.calls k1 aN 17 aR _ aY.out).mono ?_); rintro e w' ⟨rfl, ⟨nd, rfl⟩⟩; (try first | exact ⟨rfl, _, World.drewN_drewN _ _ _⟩ | exact ⟨rfl, _, Eq.trans (World.drewN_drewN _ _ _) (congrArg (World.drewN _) (Nat.add_assoc _ _ _))⟩))))
    go_ret; exact ⟨by first | rfl | (simp [errW_none, errW_some] <;> rfl) | (simp [*, errW_none, errW_some] <;> rfl), bl_ HB⟩

/-! ### rillmeterref02_Cell: function 54 -/
def rillmeterref02_Cell.f (k : Nat) (a0 : Int) (a1 : ByteArray) (a2 : Int) : Option (Int) := if a2 < 1 then (some 0) else ((rillmeterref02_Sum.f k a0 a1).bind fun t395 => (if (IntKind.u64.wrap (a2)) = 0 then (none) else (some (wrap64 (Int.tmod t395 (IntKind.u64.wrap (a2)))))))
theorem rillmeterref02_Cell.mono : ∀ a0 a1 a2 k, LeO (rillmeterref02_Cell.f k a0 a1 a2) (rillmeterref02_Cell.f (k + 1) a0 a1 a2) := by
  intro a0 a1 a2 k
  unfold rillmeterref02_Cell.f
  repeat' first
      | (with_reducible exact rillmeterref02_Sum.mono _ _ _)
      | (with_reducible exact LeO.refl _)
      | (with_reducible exact LeO.none _)
      | (with_reducible refine LeO.ite ?_ ?_)
      | (with_reducible refine LeO.bind ?_ (fun _ => ?_))
      | exact rillmeterref02_Sum.mono _ _ _
      | exact LeO.none _
      | refine LeO.ite ?_ ?_
      | refine LeO.bind ?_ (fun _ => ?_)
set_option maxHeartbeats 80000000 in
set_option maxRecDepth 100000 in
theorem rillmeterref02_Cell.calls (k : Nat) (a0 : Int) (a1 : ByteArray) (a2 : Int) (r : Int) (w : World) (h : rillmeterref02_Cell.f k a0 a1 a2 = some r) :
    Calls Try.prog 54 #[.int .u64 a0, .string a1, .int .i64 a2] w fun e w' => e = .returned (.int .i64 r) ∧ Below w.heap.size w w' := by
 have HB := mk_ (Below.refl w.heap.size w); have H : (if a2 < 1 then (some 0) else ((rillmeterref02_Sum.f k a0 a1).bind fun aA => (if (IntKind.u64.wrap (a2)) = 0 then (none) else (some (wrap64 (Int.tmod aA (IntKind.u64.wrap (a2)))))))) = some r := h; clear h
 by_cases c4 : a2 < 1
 ·rw [if_pos c4] at H; have aD : decide (a2 < 1) = true := decide_eq_true c4; clear c4; obtain rfl := Option.some.inj H
  go_enter Try.func54, Try.ntmps54
  go_wp2
  go_ret; exact ⟨by first | rfl | (simp [errW_none, errW_some] <;> rfl) | (simp [*, errW_none, errW_some] <;> rfl), bl_ HB⟩
 ·rw [if_neg c4] at H; have aD : decide (a2 < 1) = false := decide_eq_false c4; clear c4; replace H := Option.bind_eq_some_iff.mp H; obtain ⟨aA, aC, H⟩ := H; replace H : (if (IntKind.u64.wrap (a2)) = 0 then (none) else (some (wrap64 (Int.tmod aA (IntKind.u64.wrap (a2)))))) = some r := H; have A5 := mk_ aC; clear aC
  by_cases c6 : (IntKind.u64.wrap (a2)) = 0
  ·rw [if_pos c6] at H; exact absurd H (by simp)
  ·rw [if_neg c6] at H; have aE : ((IntKind.u64.wrap (a2)) == 0) = false := beq_eq_false_iff_ne.mpr c6; have aG : ((IntKind.u64.wrap (a2)) != 0) = true := bne_iff_ne.mpr c6; obtain rfl := Option.some.inj H
   go_enter Try.func54, Try.ntmps54
   go_wp2_with (first | ((with_reducible refine gate_callee (f := 73) rfl ?_); refine goesL_ (some 11) rfl rfl Try.func73 (by kernel_rfl) rfl #[.int .u64 a0, .string a1] rfl (by (try simp only [List.map_toArray, List.map_cons, List.map_nil]); first | done | rfl | (simp only [List.length_drop, List.length_take]; rfl)) ?_; (with_reducible refine (rillmeterref02_Sum.calls k a0 a1 aA _ A5.out).mono ?_); rintro e w7 ⟨rfl, hb⟩; refine ⟨_, rfl, ?_⟩; have n0_ := bs_ HB hb; clear HB; have HB := n0_; clear n0_; (try clear hb); (try clear hb2); (try clear hk); (try clear hi)))
   go_ret; exact ⟨by first | rfl | (simp [errW_none, errW_some] <;> rfl) | (simp [*, errW_none, errW_some] <;> rfl), bl_ HB⟩

/-! ### rillmeterref15_Place: function 26 -/
def rillmeterref15_Place.f (k : Nat) (a0_0 : Int) (a0_1 : Int) (a0_2 : Int) (l0_3 : List (S74)) (a0_4 : Int) (a0_5 : Int) (l0_6 : List (List Int)) (a1 : ByteArray) : Option (Int) := (rillmeterref02_Row.f k a0_0 0).bind fun t397 => ((rillmeterref02_Cell.f k t397 a1 (l0_3.length : Int)).bind fun t398 => (some t398))
theorem rillmeterref15_Place.mono : ∀ a0 a1 a2 a3 a4 a5 a6 a7 k, LeO (rillmeterref15_Place.f k a0 a1 a2 a3 a4 a5 a6 a7) (rillmeterref15_Place.f (k + 1) a0 a1 a2 a3 a4 a5 a6 a7) := by
  intro a0 a1 a2 a3 a4 a5 a6 a7 k
  unfold rillmeterref15_Place.f
  repeat' first
      | (with_reducible exact rillmeterref02_Cell.mono _ _ _ _)
      | (with_reducible exact rillmeterref02_Row.mono _ _ _)
      | (with_reducible exact LeO.refl _)
      | (with_reducible exact LeO.none _)
      | (with_reducible refine LeO.ite ?_ ?_)
      | (with_reducible refine LeO.bind ?_ (fun _ => ?_))
      | exact rillmeterref02_Cell.mono _ _ _ _
      | exact rillmeterref02_Row.mono _ _ _
      | exact LeO.none _
      | refine LeO.ite ?_ ?_
      | refine LeO.bind ?_ (fun _ => ?_)
def rillmeterref15_Place.T1 : Bool × List (List Nat × List Nat) := (true, [([], []), ([0], [0]), ([1], [1]), ([], []), ([], []), ([4], [4]), ([5], [5]), ([2, 3, 6, 2], [2, 3, 6]), ([7, 7, 0, 1, 2, 3, 4, 5, 6, 7], [7])])
def rillmeterref15_Place.B1 : List Nat := [0, 1, 3, 0, 0, 16, 48, 127, 255]
theorem rillmeterref15_Place.tab1 : rtab .any (opsOf Try.f26 1) = rillmeterref15_Place.T1 := by kernel_rfl
theorem rillmeterref15_Place.bits1 : waitsOk rillmeterref15_Place.T1.2 rillmeterref15_Place.B1 = true := by kernel_rfl
set_option maxHeartbeats 80000000 in
set_option maxRecDepth 100000 in
theorem rillmeterref15_Place.calls (k : Nat) (a0_0 : Int) (a0_1 : Int) (a0_2 : Int) (A0_3 : Option Addr) (c0_3 : Nat) (l0_3 : List (S74)) (a0_4 : Int) (a0_5 : Int) (A0_6 : Option Addr) (c0_6 : Nat) (l0_6 : List (List Int)) (a1 : ByteArray) (r : Int) (w : World) (hr0_3 : Kd.C k74 w A0_3 l0_3.length l0_3) (hc0_3 : l0_3.length ≤ c0_3) (hr0_6 : Kd.C (Kd.slice 3 (Kd.int .i64)) w A0_6 l0_6.length l0_6) (hc0_6 : l0_6.length ≤ c0_6) (h : rillmeterref15_Place.f k a0_0 a0_1 a0_2 l0_3 a0_4 a0_5 l0_6 a1 = some r) :
    Calls Try.prog 26 #[.agg #[.int .u64 a0_0, .int .i64 a0_1, .int .i64 a0_2, .slice A0_3 l0_3.length c0_3, .int .u64 a0_4, .int .i64 a0_5, .slice A0_6 l0_6.length c0_6], .string a1] w fun e w' => e = .returned (.int .i64 r) ∧ Below w.heap.size w w' := by
 have hu32 := Try.underlying32; have aI := mk_ hr0_3; have aJ := mk_ hc0_3; clear hr0_3 hc0_3; have aK := mk_ hr0_6; have aM := mk_ hc0_6; clear hr0_6 hc0_6; have HB := mk_ (Below.refl w.heap.size w); have H : ((rillmeterref02_Row.f k a0_0 0).bind fun aD => ((rillmeterref02_Cell.f k aD a1 (l0_3.length : Int)).bind fun aE => (some aE))) = some r := h; clear h; replace H := Option.bind_eq_some_iff.mp H; obtain ⟨aD, aG, H⟩ := H; replace H : ((rillmeterref02_Cell.f k aD a1 (l0_3.length : Int)).bind fun aE => (some aE)) = some r := H; have A3 := mk_ aG; clear aG; replace H := Option.bind_eq_some_iff.mp H; obtain ⟨aE, aH, H⟩ := H; replace H : (some aE) = some r := H; have A4 := mk_ aH; clear aH; obtain rfl := Option.some.inj H
 go_enter Try.func26, Try.ntmps26
 try go_wp2_with (first | ((with_reducible refine gate_dst (N := 2) rfl ?_); refine box_event ?hg (N := 2) ?hd (cs := #[.int .u64 a0_0, .int .i64 a0_1, .int .i64 a0_2, .slice A0_3 l0_3.length c0_3, .int .u64 a0_4, .int .i64 a0_5, .slice A0_6 l0_6.length c0_6]) (t := 32) ?hr ?_; (case hd => rfl); (case hg => rfl); (case hr => first | (go_simp; done) | (go_simp; rfl)); intro aC hg w5 hbox hb; have n0_ := bs_ HB hb; have n1_ := mk_ (hbox); have n2_ := gx_ hg HB; have n3_ := gx_ hg HB; clear HB; have HB := n0_; have aA := n1_; have aN := n2_; have aQ := n3_; clear n0_ n1_ n2_ n3_; clear hb hbox hg))
 replace aA := bd_ aA; replace HB := mk_ (below_drew1 HB.out); refine start_ (n := 9) (S := fun w' => w'.cell? ⟨aC, 0, none⟩ = some (.int .u64 a0_0) ∧ w'.cell? ⟨aC, 1, none⟩ = some (.int .i64 a0_1) ∧ w'.cell? ⟨aC, 2, none⟩ = some (.int .i64 a0_2) ∧ w'.cell? ⟨aC, 3, none⟩ = some (.slice A0_3 l0_3.length c0_3) ∧ w'.cell? ⟨aC, 4, none⟩ = some (.int .u64 a0_4) ∧ w'.cell? ⟨aC, 5, none⟩ = some (.int .i64 a0_5) ∧ w'.cell? ⟨aC, 6, none⟩ = some (.slice A0_6 l0_6.length c0_6)) (ds := []) (mB 9 0) (by kernel_rfl) rfl rfl ⟨bc_ aA 0, bc_ aA 1, bc_ aA 2, bc_ aA 3, bc_ aA 4, bc_ aA 5, bc_ aA 6⟩ (fun hHeld => ?_); refine with_tabW rillmeterref15_Place.tab1 rillmeterref15_Place.bits1 (fun HT_ HW_ => ?_); generalize w5.drew = w6 at aA HB hHeld ⊢; refine pq_ 0 5 9 1 HT_ ?_
 refine pq_ 3 8 9 9 HT_ ?_
 refine pq_ 4 9 9 25 HT_ ?_
 refine tq_ 1 6 9 27 HT_ HW_ hHeld ?_
 refine tq_ 5 10 9 59 HT_ HW_ hHeld ?_
 refine pq_ 6 11 9 123 HT_ ?_
 refine one_ (i := 2) (N := some 7) (mB 9 127) rfl rfl (one_of HT_.out (by kernel_rfl)) (by decide) (fun K hK => ?_); refine goes_ Try.func40 (by kernel_rfl) rfl #[.int .u64 a0_0, .int .i64 0] (by rfl) rfl rfl (by (try simp only [List.map_toArray, List.map_cons, List.map_nil]); first | done | rfl | (simp only [List.length_drop, List.length_take]; rfl)) ?_; with_reducible refine (rillmeterref02_Row.calls k a0_0 0 aD _ A3.out).mono ?_
 rintro e w' ⟨rfl, ⟨nd, rfl⟩⟩; (try replace aA := mk_ (blk_drewN aA.out nd)); refine ⟨_, rfl, ?_⟩; refine hK.out _ _ ⟨bc_ aA 0, bc_ aA 1, bc_ aA 2, bc_ aA 3, bc_ aA 4, bc_ aA 5, bc_ aA 6⟩ (fun hHeld => ?_); clear hK K; refine norm_ (a' := ?_) ?_ ?_; rotate_left
 ·show Act.put _ (some 7) _ = _
  simp only [Act.put, sa_, sb_, sc_, i64_w, i32_w]; rfl
 refine one_ (i := 7) (N := some 12) (mB 9 255) rfl rfl (one_of HT_.out (by kernel_rfl)) (by decide) (fun K hK => ?_); refine goes_ Try.func54 (by kernel_rfl) rfl #[.int .u64 aD, .string a1, .int .i64 (l0_3.length : Int)] (by rfl) rfl rfl (by (try simp only [List.map_toArray, List.map_cons, List.map_nil]); first | done | rfl | (simp only [List.length_drop, List.length_take]; rfl)) ?_; with_reducible refine (rillmeterref02_Cell.calls k aD a1 (l0_3.length : Int) aE _ A4.out).mono ?_
 rintro e w7 ⟨rfl, hb⟩; refine ⟨_, rfl, ?_⟩; replace aA := bb_ aA hb; replace HB := bs_ HB hb; (try clear hb); refine hK.out _ _ ⟨bc_ aA 0, bc_ aA 1, bc_ aA 2, bc_ aA 3, bc_ aA 4, bc_ aA 5, bc_ aA 6⟩ (fun hHeld => ?_); clear hK K; refine norm_ (a' := ?_) ?_ ?_; rotate_left
 ·show Act.put _ (some 12) _ = _
  simp only [Act.put, sa_, sb_, sc_, i64_w, i32_w]; rfl
 refine pq_ 8 4 9 511 HT_ ?_
 refine done_ (done_of HT_.out (by kernel_rfl)) ?_
 try go_wp2
 go_ret; exact ⟨by first | rfl | (simp [errW_none, errW_some] <;> rfl) | (simp [*, errW_none, errW_some] <;> rfl), bl_ HB⟩

end Go.Proofs.Ytljmjjeghebdpaa.PElasticFew
