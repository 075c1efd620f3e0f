/- The functions that a law uses, each as a plain function, with the proof that a call of the Go function comes to its answer. Condition of each: the arguments read as the data that it names, and the plain function has an answer. Written by a program of this session (standin.py). -/
import Derived.Test.YtljmjjeghebdpaaPElasticSeenx0
import Derived.Test.YtljmjjeghebdpaaShort
import Derived.Lib.SliceRun
import Derived.Test.YtljmjjeghebdpaaFuns
import Derived.Test.YtljmjjeghebdpaaPressMore
namespace Go.Proofs.Ytljmjjeghebdpaa.PElasticSeen
open Go.RowKit Go.Proofs.YtljmjjeghebdpaaW.PrintWords Go.Proofs.YtljmjjeghebdpaaW.PrintLast Go.Proofs.YtljmjjeghebdpaaW.PrintMore Go.Proofs.Ytljmjjeghebdpaa.Short Go.Proofs.Ytljmjjeghebdpaa.Press Go.Proofs.Ytljmjjeghebdpaa.PressMore
attribute [local go_sem] max2_int min2_int max_two min_two max_three min_three max_four min_four   -- for this text's walks alone
set_option linter.unusedVariables false
set_option linter.unusedSimpArgs false

/-! ### heavy_Item_86: function 86 -/
def heavy_Item_86.l0 : Nat → List (S68) → Int → Int → Int → Int → Option ((List (S68)))
  | 0, _, _, _, _, _ => none
  | k + 1, x0, x1, x2, x3, x10 => if x10 < x3 then (if 0 ≤ (wrap64 (x2 + x10)) then (if (wrap64 (x2 + x10)) < (x0.length : Int) then (if 0 ≤ (wrap64 (x1 + x10)) then (if (wrap64 (x1 + x10)) < (x0.length : Int) then (heavy_Item_86.l0 k ((x0.set ((wrap64 (x1 + x10)) : Int).toNat (⟨(rd_T68 x0 (wrap64 (x2 + x10))).f0, (rd_T68 x0 (wrap64 (x2 + x10))).f1⟩ : S68)).set ((wrap64 (x2 + x10)) : Int).toNat (⟨(rd_T68 x0 (wrap64 (x1 + x10))).f0, (rd_T68 x0 (wrap64 (x1 + x10))).f1⟩ : S68)) x1 x2 x3 (wrap64 (x10 + 1))) else (none)) else (none)) else (none)) else (none)) else (some x0)
def heavy_Item_86.f (k : Nat) (l0 : List (S68)) (a1 : Int) (a2 : Int) (a3 : Int) : Option ((List (S68))) := heavy_Item_86.l0 k l0 a1 a2 a3 0
theorem heavy_Item_86.mono_l : ∀ k, (∀ y0 y1 y2 y3 y4, LeO (heavy_Item_86.l0 k y0 y1 y2 y3 y4) (heavy_Item_86.l0 (k + 1) y0 y1 y2 y3 y4))
  | 0 => fun _ _ _ _ _ r h => by simp [heavy_Item_86.l0] at h
  | k + 1 => by
    have ih0 := heavy_Item_86.mono_l k
    · intro y0 y1 y2 y3 y4
      unfold heavy_Item_86.l0
      repeat' first | (with_reducible first | exact ih0 _ _ _ _ _ | exact LeO.refl _ | exact LeO.none _ | refine LeO.ite ?_ ?_ | refine LeO.bind ?_ (fun _ => ?_)) | exact ih0 _ _ _ _ _ | exact LeO.none _ | refine LeO.ite ?_ ?_ | refine LeO.bind ?_ (fun _ => ?_)
theorem heavy_Item_86.mono : ∀ a0 a1 a2 a3 k, LeO (heavy_Item_86.f k a0 a1 a2 a3) (heavy_Item_86.f (k + 1) a0 a1 a2 a3) := by
  intro a0 a1 a2 a3 k
  have ih0 := heavy_Item_86.mono_l k
  unfold heavy_Item_86.f
  repeat' first | (with_reducible first | exact ih0 _ _ _ _ _ | exact LeO.refl _ | exact LeO.none _ | refine LeO.ite ?_ ?_ | refine LeO.bind ?_ (fun _ => ?_)) | exact ih0 _ _ _ _ _ | exact LeO.none _ | refine LeO.ite ?_ ?_ | refine LeO.bind ?_ (fun _ => ?_)
def heavy_Item_86.T3 : Bool × List (List Nat × List Nat) := (true, [([], []), ([], []), ([], []), ([1, 2], [1, 2]), ([], []), ([], []), ([], []), ([5, 6], [5, 6]), ([], []), ([], []), ([], []), ([9, 10], [9, 10]), ([8, 11], [8, 11]), ([12], [12]), ([], []), ([], []), ([], []), ([15, 16], [15, 16]), ([14, 17], [14, 17]), ([18], [18]), ([0, 3, 0, 1, 2, 3, 8, 9, 10, 11, 12, 13, 19], [0, 3]), ([20, 13, 0, 1, 2, 3, 8, 9, 10, 11, 12, 13, 19], [13, 20]), ([4, 7, 0, 1, 2, 3, 4, 5, 6, 7, 8, 9, 10, 11, 12, 13, 14, 15, 16, 17, 18, 19, 20, 21], [4, 7]), ([22, 19, 21, 0, 1, 2, 3, 4, 5, 6, 7, 8, 9, 10, 11, 12, 13, 14, 15, 16, 17, 18, 19, 20, 21], [19, 22])])
def heavy_Item_86.B3 : List Nat := [0, 0, 0, 6, 0, 0, 0, 96, 0, 0, 0, 1536, 3840, 7936, 0, 0, 0, 98304, 245760, 507904, 1048335, 2096911, 4194303, 8388607]
theorem heavy_Item_86.tab3 : rtab .any (opsOf Try.f86 3) = heavy_Item_86.T3 := by kernel_rfl
theorem heavy_Item_86.bits3 : waitsOk heavy_Item_86.T3.2 heavy_Item_86.B3 = true := by kernel_rfl
set_option maxHeartbeats 80000000 in
set_option maxRecDepth 100000 in
theorem heavy_Item_86.calls (k : Nat) (P0_ : Nat → Prop) (u9000_ : Value) (l0 : List (S68)) (a1 : Int) (a2 : Int) (a3 : Int) (r : List (S68)) (w0 w : World) (hB : Below w0.heap.size w0 w) (ho0 : Kd.R k68 68 w w0.heap.size P0_ u9000_ l0) (h : heavy_Item_86.f k l0 a1 a2 a3 = some r) :
    Calls Try.prog 86 #[u9000_, .int .i64 a1, .int .i64 a2, .int .i64 a3, .func (.func 35) #[] #[]] w fun e w' => e = .returned (.tuple #[]) ∧ Kd.R k68 68 w' w0.heap.size (fun k_ => (P0_ k_ ∨ w.heap.size ≤ k_)) u9000_ r ∧ Below w0.heap.size w0 w' ∧ Kept w w' (fun k_ => P0_ k_) := by
 have hu68 := Try.underlying68; have aU := mk_ (show Kd.R k68 68 w w0.heap.size (fun k_ => (P0_ k_ ∨ w.heap.size ≤ k_)) u9000_ l0 from Kd.R_mono ho0 (fun k_ hk => (.inl hk))); have HK := mk_ (Kept.refl w (fun k_ => P0_ k_)); have HW0 := mk_ hB.size; have HB := mk_ hB; clear hB; have H : (heavy_Item_86.l0 k l0 a1 a2 a3 0) = some r := h; clear h; have H' := mk_ H; clear H
 go_enter Try.func86, Try.ntmps86
 go_wp2
 go_loopg [10] k (fun kq aV w' => ∃ (aA : List (S68)) (aB : Int), aV = .int .i64 aB ∧ Aside0 (heavy_Item_86.l0 kq aA a1 a2 a3 aB = some r) ∧ Aside0 (kq ≤ k) ∧ Aside0 (Kd.R k68 68 w' w0.heap.size (fun k_ => (P0_ k_ ∨ w.heap.size ≤ k_)) u9000_ aA) ∧ Aside0 (Kept w w' (fun k_ => P0_ k_)) ∧ Aside0 (Below w0.heap.size w0 w'))
 case atStart => exact ⟨(l0), (0), (by first | rfl | (simp; done) | (simp [*]; done)), H', ⟨Nat.le_refl _⟩, ⟨by (with_reducible repeat (first | apply Kd.R_alloc | apply Kd.R_drewN | apply Kd.R_drew)); exact aU.out⟩, ⟨kp_ HK⟩, ⟨bl_ HB⟩⟩
 case round =>
  clear H'; obtain ⟨aA, aB, rfl, HA, HK1, aC, HK, HB⟩ := hrel
  cases gk with
  | zero => exact absurd HA.out (by simp [heavy_Item_86.l0])
  | succ k1 =>
   have H := HA.out; clear HA; simp only [heavy_Item_86.l0] at H
   by_cases c5 : aB < a3
   ·rw [if_pos c5] at H; have aW : decide (aB < a3) = true := decide_eq_true c5; clear c5; obtain ⟨ji6, hji6⟩ : ∃ j_ : Int, (wrap64 (a2 + aB)) = j_ := ⟨_, rfl⟩
    replace H : (if 0 ≤ (ji6) then (if (ji6) < (aA.length : Int) then (if 0 ≤ (wrap64 (a1 + aB)) then (if (wrap64 (a1 + aB)) < (aA.length : Int) then (heavy_Item_86.l0 k1 ((aA.set ((wrap64 (a1 + aB)) : Int).toNat (⟨(rd_T68 aA (ji6)).f0, (rd_T68 aA (ji6)).f1⟩ : S68)).set ((ji6) : Int).toNat (⟨(rd_T68 aA (wrap64 (a1 + aB))).f0, (rd_T68 aA (wrap64 (a1 + aB))).f1⟩ : S68)) a1 a2 a3 (wrap64 (aB + 1))) else (none)) else (none)) else (none)) else (none)) = some r := by first | (rw [hji6] at H; exact H) | (simp only [hji6] at H ⊢; exact H)
    have hji6w : (IntKind.i64.wrap (a2 + aB)) = ji6 := (i64_w _).trans hji6
    by_cases c7 : 0 ≤ (ji6)
    ·rw [if_pos c7] at H; have bD : decide (0 ≤ (ji6)) = true := decide_eq_true c7; clear c7
     by_cases c8 : (ji6) < (aA.length : Int)
     ·rw [if_pos c8] at H; have bE : decide ((ji6) < (aA.length : Int)) = true := decide_eq_true c8; clear c8; obtain ⟨ji9, hji9⟩ : ∃ j_ : Int, (wrap64 (a1 + aB)) = j_ := ⟨_, rfl⟩
      replace H : (if 0 ≤ (ji9) then (if (ji9) < (aA.length : Int) then (heavy_Item_86.l0 k1 ((aA.set ((ji9) : Int).toNat (⟨(rd_T68 aA (ji6)).f0, (rd_T68 aA (ji6)).f1⟩ : S68)).set ((ji6) : Int).toNat (⟨(rd_T68 aA (ji9)).f0, (rd_T68 aA (ji9)).f1⟩ : S68)) a1 a2 a3 (wrap64 (aB + 1))) else (none)) else (none)) = some r := by first | (rw [hji9] at H; exact H) | (simp only [hji9] at H ⊢; exact H)
      have hji9w : (IntKind.i64.wrap (a1 + aB)) = ji9 := (i64_w _).trans hji9; (try simp only [hji9] at hji6); (try simp only [hji9] at hji6w)
      by_cases aD : 0 ≤ (ji9)
      ·rw [if_pos aD] at H; have bF : decide (0 ≤ (ji9)) = true := decide_eq_true aD; clear aD
       by_cases aE : (ji9) < (aA.length : Int)
       ·rw [if_pos aE] at H; have bG : decide ((ji9) < (aA.length : Int)) = true := decide_eq_true aE; clear aE; obtain ⟨y289, hy289⟩ : ∃ y_ : List (S68), y_ = (aA.set ((ji9) : Int).toNat (⟨(rd_T68 aA (ji6)).f0, (rd_T68 aA (ji6)).f1⟩ : S68)) := ⟨_, rfl⟩
        replace H : (heavy_Item_86.l0 k1 (y289.set ((ji6) : Int).toNat (⟨(rd_T68 aA (ji9)).f0, (rd_T68 aA (ji9)).f1⟩ : S68)) a1 a2 a3 (wrap64 (aB + 1))) = some r := by first | (rw [hy289]; with_reducible exact H) | (have H2_ := (Option.bind_some _ _).symm.trans H; rw [hy289]; with_reducible exact H2_) | (have H2_ := (Option.bind_some _ _).symm.trans H; with_reducible exact H2_) | with_reducible exact H | (rw [hy289]; exact H) | exact H
        have aX := mk_ hy289; clear hy289; obtain ⟨y290, hy290⟩ : ∃ y_ : List (S68), y_ = (y289.set ((ji6) : Int).toNat (⟨(rd_T68 aA (ji9)).f0, (rd_T68 aA (ji9)).f1⟩ : S68)) := ⟨_, rfl⟩
        replace H : (heavy_Item_86.l0 k1 y290 a1 a2 a3 (wrap64 (aB + 1))) = some r := by first | (rw [hy290]; with_reducible exact H) | (have H2_ := (Option.bind_some _ _).symm.trans H; rw [hy290]; with_reducible exact H2_) | (have H2_ := (Option.bind_some _ _).symm.trans H; with_reducible exact H2_) | with_reducible exact H | (rw [hy290]; exact H) | exact H
        have aY := mk_ hy290; clear hy290; have H' := mk_ H; clear H
        try go_wp2
        replace aC := mk_ (Kd.R_drew aC.out); replace HK := mk_ (Kept.drew HK.out); replace HB := mk_ (below_drew1 HB.out); obtain ⟨bH, bI, eo15⟩ := Kd.R_slice aC.out
        (first | subst eo15 | (injection eo15 with f1_ f2_ f3_; have f4_ := f1_.symm; have f5_ := f3_.symm; clear f1_ f2_ f3_; subst f4_; subst f5_))
        have aF : 0 ≤ ((ji6) : Int) := od_; have aG : (ji6) < (aA.length : Int) := od_; obtain ⟨aZ, e287, aH, aI⟩ := at_T68 (Kd.R_reads' aC.out).2.2 (ji6) aF aG
        cases e287; replace aF := eq_true aF; replace aG := eq_true aG; have aJ : 0 ≤ ((ji9) : Int) := od_; have aK : (ji9) < (aA.length : Int) := od_; obtain ⟨bA, e288, aL, aM⟩ := at_T68 (Kd.R_reads' aC.out).2.2 (ji9) aJ aK; obtain rfl : aZ = bA := (by injection e288); replace aJ := eq_true aJ; replace aK := eq_true aK; have aN : 0 ≤ ((ji9) : Int) := od_; have aO : ((ji9) : Int) < ((aA.length : Int) : Int) := od_; obtain ⟨go12, bJ, eo12, aT, gl12, cl12, HG12⟩ := Kd.R_form aC.out (by omega)
        (first | cases eo12 | (injection eo12 with ea_ en_ ec_; (first | subst ea_ | (injection ea_ with ea_; subst ea_)); subst ec_; clear en_))
        have GB12 := mk_ aT; have GG12 := mk_ HG12; clear aT gl12 HG12; have HMgo12 := mk_ (show (P0_ go12 ∨ w.heap.size ≤ go12) from (aC.out.1 _ rfl))
        (first | simp only [add_plain] at aH | skip)
        (first | simp only [add_plain] at aI | skip)
        (first | simp only [add_plain] at aL | skip)
        (first | simp only [add_plain] at aM | skip)
        obtain ⟨ce12, hcl12, hM12, hcc12, hfr12⟩ := Kd.R_elem aC.out z68 ((ji9) : Int) aN aO; obtain rfl := k68_openM hM12; have bB : World.cell? _ ⟨go12, ((ji9) : Int).toNat * 2, none⟩ = some (.string ((rd_T68 aA (ji9)).f0)) := hcc12 0 _ rfl; have bC : World.cell? _ ⟨go12, ((ji9) : Int).toNat * 2 + 1, none⟩ = some (.int .i64 ((rd_T68 aA (ji9)).f1)) := hcc12 1 _ rfl; have hf12_0 : World.frozen? _ ⟨go12, ((ji9) : Int).toNat * 2, none⟩ = false := hfr12 0; have hf12_1 : World.frozen? _ ⟨go12, ((ji9) : Int).toNat * 2 + 1, none⟩ = false := hfr12 1; clear hcl12 hcc12 hfr12; (try clear hM12); replace aN := eq_true aN; replace aO := eq_true aO; obtain ⟨ce16, hcl16, hM16, hcc16, hfr16⟩ := Kd.R_elem aC.out z68 ((ji9) : Int) od_ (by have h_ : ((ji9) : Int) < ((aA.length : Int) : Int) := od_; first | exact h_ | (have e_ := (Kd.R_reads' aC.out).1; omega) | simpa using h_); obtain rfl := k68_openM hM16
        have HP16 := (Kd.R_seg aC.out ((ji9) : Int) od_ (by have h_ : ((ji9) : Int) < ((aA.length : Int) : Int) := od_; first | exact h_ | (have e_ := (Kd.R_reads' aC.out).1; omega) | simpa using h_) (seg := [.string ((rd_T68 aA (ji6)).f0), .int .i64 ((rd_T68 aA (ji6)).f1)]) (j := 0) hcl16 hcc16 (show 2 ≤ 2 from by decide) (x' := (⟨(rd_T68 aA (ji6)).f0, (rd_T68 aA (ji6)).f1⟩ : S68)) (k68_mkM _ _ _ (⟨(rd_T68 aA (ji6)).f0, (rd_T68 aA (ji6)).f1⟩ : S68) ) (fun _ hk => hk)).1; rw [← aX.out] at HP16; have HQ16 := mk_ HP16; clear hcl16 hcc16 hfr16 hM16 HP16; have aP : 0 ≤ ((ji6) : Int) := od_; have aQ : ((ji6) : Int) < ((aA.length : Int) : Int) := od_; obtain ⟨ce13, hcl13, hM13, hcc13, hfr13⟩ := Kd.R_elem HQ16.out z68 ((ji6) : Int) aP aQ; obtain rfl := k68_openM hM13; have aR : World.cell? _ ⟨go12, ((ji6) : Int).toNat * 2, none⟩ = some (.string ((rd_T68 y289 (ji6)).f0)) := hcc13 0 _ rfl; have aS : World.cell? _ ⟨go12, ((ji6) : Int).toNat * 2 + 1, none⟩ = some (.int .i64 ((rd_T68 y289 (ji6)).f1)) := hcc13 1 _ rfl; have hf13_0 : World.frozen? _ ⟨go12, ((ji6) : Int).toNat * 2, none⟩ = false := hfr13 0
        have hf13_1 : World.frozen? _ ⟨go12, ((ji6) : Int).toNat * 2 + 1, none⟩ = false := hfr13 1; clear hcl13 hcc13 hfr13; (try clear hM13); replace aP := eq_true aP; replace aQ := eq_true aQ; obtain ⟨ce17, hcl17, hM17, hcc17, hfr17⟩ := Kd.R_elem HQ16.out z68 ((ji6) : Int) od_ (by have h_ : ((ji6) : Int) < ((aA.length : Int) : Int) := od_; first | exact h_ | (have e_ := (Kd.R_reads' aC.out).1; omega) | simpa using h_); obtain rfl := k68_openM hM17; have HP17 := (Kd.R_seg HQ16.out ((ji6) : Int) od_ (by have h_ : ((ji6) : Int) < ((aA.length : Int) : Int) := od_; first | exact h_ | (have e_ := (Kd.R_reads' aC.out).1; omega) | simpa using h_) (seg := [.string ((rd_T68 aA (ji9)).f0), .int .i64 ((rd_T68 aA (ji9)).f1)]) (j := 0) hcl17 hcc17 (show 2 ≤ 2 from by decide) (x' := (⟨(rd_T68 aA (ji9)).f0, (rd_T68 aA (ji9)).f1⟩ : S68)) (k68_mkM _ _ _ (⟨(rd_T68 aA (ji9)).f0, (rd_T68 aA (ji9)).f1⟩ : S68) ) (fun _ hk => hk)).1; rw [← aY.out] at HP17; have HQ17 := mk_ HP17; clear hcl17 hcc17 hfr17 hM17 HP17
        refine start_ (n := 24) (S := fun w' => w'.cell? ⟨go12, (((ji6)).toNat * 2), none⟩ = some (.string ((rd_T68 aA (ji6)).f0)) ∧ w'.cell? ⟨go12, (((ji6)).toNat * 2) + 1, none⟩ = some (.int .i64 ((rd_T68 aA (ji6)).f1)) ∧ w'.cell? ⟨go12, (((ji9)).toNat * 2), none⟩ = some (.string ((rd_T68 aA (ji9)).f0)) ∧ w'.cell? ⟨go12, (((ji9)).toNat * 2) + 1, none⟩ = some (.int .i64 ((rd_T68 aA (ji9)).f1))) (ds := [21, 23]) (mB 24 0) (by kernel_rfl) rfl rfl ⟨aH, aI, aL, aM⟩ (fun hHeld => ?_); refine with_tabW heavy_Item_86.tab3 heavy_Item_86.bits3 (fun HT_ HW_ => ?_); generalize wr.drew = bK at aC HK HB GG12 HQ16 HQ17 hf12_0 hf12_1 hf13_0 hf13_1 bB bC aR aS aH aI aL aM hHeld ⊢; refine pq_ 0 16 24 1 HT_ ?_
        refine pq_ 1 17 24 3 HT_ ?_
        refine pq_ 2 18 24 7 HT_ ?_
        refine pq_ 3 19 24 15 HT_ ?_
        refine pq_ 4 20 24 31 HT_ ?_
        refine pq_ 5 21 24 63 HT_ ?_
        refine pq_ 6 22 24 127 HT_ ?_
        refine pq_ 7 23 24 255 HT_ ?_
        refine pq_ 8 24 24 511 HT_ ?_
        refine pq_ 9 25 24 1023 HT_ ?_
        refine pq_ 10 26 24 2047 HT_ ?_
        refine pq_ 11 27 24 4095 HT_ ?_
        refine pq_ 12 28 24 8191 HT_ ?_
        refine pq_ 14 30 24 24575 HT_ ?_
        refine pq_ 15 31 24 57343 HT_ ?_
        refine pq_ 16 32 24 122879 HT_ ?_
        refine pq_ 17 33 24 253951 HT_ ?_
        refine pq_ 18 34 24 516095 HT_ ?_
        refine tq_ 13 29 24 524287 HT_ HW_ hHeld ?_
        refine tq_ 19 35 24 1048575 HT_ HW_ hHeld ?_
        refine pq_ 20 36 24 2097151 HT_ ?_
        refine last_ (i := 21) (N := none) (mB 24 4194303) rfl rfl (one_of HT_.out (by kernel_rfl)) (by decide) (fun K hK => ?_); refine skip_ (w1 := ?_) (by rfl) rfl ?_ ?_; rotate_left
        ·(try have hs_0 := aR); (try have hs_1 := aS); (try have hg_0 := hf13_0); (try have hg_1 := hf13_1); (try simp only [World.setCells, show k68.sz = 2 from rfl, Nat.add_zero] at hs_0 hs_1 hg_0 hg_1); (try rw [World.cell?_setCell_other _ _ _ _ (by intro h; simp only [Addr.mk.injEq] at h; omega)] at hs_0); (try simp only [World.frozen?_setCell] at hg_0 hg_1); go_simp; rfl
        refine hK.out _ _ ?_; clear hK K; refine pq_ 22 37 24 8388607 HT_ ?_
        refine last_ (i := 23) (N := none) (mB 24 16777215) rfl rfl (one_of HT_.out (by kernel_rfl)) (by decide) (fun K hK => ?_); refine skip_ (w1 := ?_) (by rfl) rfl ?_ ?_; rotate_left
        ·(try have hs_0 := aR); (try have hs_1 := aS); (try have hg_0 := hf13_0); (try have hg_1 := hf13_1); (try simp only [World.setCells, show k68.sz = 2 from rfl, Nat.add_zero] at hs_0 hs_1 hg_0 hg_1); (try rw [World.cell?_setCell_other _ _ _ _ (by intro h; simp only [Addr.mk.injEq] at h; omega)] at hs_0); (try simp only [World.frozen?_setCell] at hg_0 hg_1); go_simp; rfl
        refine hK.out _ _ ?_; clear hK K; refine done_ (done_of HT_.out (by kernel_rfl)) ?_
        try go_wp2
        go_roundg k1
        case measure => have := HK1.out; omega
        case rel => exact ⟨(y290), (wrap64 (aB + 1)), (by first | rfl | (simp; done) | (simp [*]; done)), H', ⟨by have := HK1.out; omega⟩, ⟨by (with_reducible repeat (first | apply Kd.R_alloc | apply Kd.R_drewN | apply Kd.R_drew)); exact HQ17.out⟩, ⟨by repeat (first | (with_reducible first | exact HK.out | apply Kept.alloc | apply Kept.drewN | apply Kept.drew | refine Kept.setCell ?_ HMgo12.out _ | refine Kept.setCell ?_ HMgo12.out _ | refine Kept.setCell ?_ HMgo12.out _ | refine Kept.setCell ?_ HMgo12.out _) | exact HK.out)⟩, ⟨bl_ HB⟩⟩
       ·rw [if_neg aE] at H; exact absurd H (by simp)
      ·rw [if_neg aD] at H; exact absurd H (by simp)
     ·rw [if_neg c8] at H; exact absurd H (by simp)
    ·rw [if_neg c7] at H; exact absurd H (by simp)
   ·rw [if_neg c5] at H; have aW : decide (aB < a3) = false := decide_eq_false c5; clear c5; obtain rfl := Option.some.inj H
    go_wp2
    first | go_end0 | ((try simp only [Exit.inBlock, Exit.then]); refine bodyPost_ret (results_none rfl _ _ _) rfl ?_)
    exact ⟨by first | rfl | (simp [*] <;> rfl), by (with_reducible repeat (first | apply Kd.R_alloc | apply Kd.R_drewN | apply Kd.R_drew)); exact aC.out, bl_ HB, by repeat (first | (with_reducible first | exact HK.out | apply Kept.alloc | apply Kept.drewN | apply Kept.drew) | exact HK.out)⟩

/-! ### heavy_Item_85: function 85 -/
def heavy_Item_85.l0 : Nat → List (S68) → Int → Int → Int → Option ((List (S68)))
  | 0, _, _, _, _ => none
  | k + 1, x0, x2, x10, x11 => if x10 = x11 then ((heavy_Item_86.f k x0 (wrap64 (x2 - x10)) x2 x10).bind fun t291 => (some t291)) else (if x10 > x11 then ((heavy_Item_86.f k x0 (wrap64 (x2 - x10)) x2 x11).bind fun t292 => (heavy_Item_85.l0 k t292 x2 (wrap64 (x10 - x11)) x11)) else ((heavy_Item_86.f k x0 (wrap64 (x2 - x10)) (wrap64 ((wrap64 (x2 + x11)) - x10)) x10).bind fun t293 => (heavy_Item_85.l0 k t293 x2 x10 (wrap64 (x11 - x10)))))
def heavy_Item_85.f (k : Nat) (l0 : List (S68)) (a1 : Int) (a2 : Int) (a3 : Int) : Option ((List (S68))) := heavy_Item_85.l0 k l0 a2 (wrap64 (a2 - a1)) (wrap64 (a3 - a2))
theorem heavy_Item_85.mono_l : ∀ k, (∀ y0 y1 y2 y3, LeO (heavy_Item_85.l0 k y0 y1 y2 y3) (heavy_Item_85.l0 (k + 1) y0 y1 y2 y3))
  | 0 => fun _ _ _ _ r h => by simp [heavy_Item_85.l0] at h
  | k + 1 => by
    have ih0 := heavy_Item_85.mono_l k
    · intro y0 y1 y2 y3
      unfold heavy_Item_85.l0
      repeat' first | (with_reducible first | exact ih0 _ _ _ _ | exact heavy_Item_86.mono _ _ _ _ _ | exact LeO.refl _ | exact LeO.none _ | refine LeO.ite ?_ ?_ | refine LeO.bind ?_ (fun _ => ?_)) | exact ih0 _ _ _ _ | exact heavy_Item_86.mono _ _ _ _ _ | exact LeO.none _ | refine LeO.ite ?_ ?_ | refine LeO.bind ?_ (fun _ => ?_)
theorem heavy_Item_85.mono : ∀ a0 a1 a2 a3 k, LeO (heavy_Item_85.f k a0 a1 a2 a3) (heavy_Item_85.f (k + 1) a0 a1 a2 a3) := by
  intro a0 a1 a2 a3 k
  have ih0 := heavy_Item_85.mono_l k
  unfold heavy_Item_85.f
  repeat' first | (with_reducible first | exact ih0 _ _ _ _ | exact heavy_Item_86.mono _ _ _ _ _ | exact LeO.refl _ | exact LeO.none _ | refine LeO.ite ?_ ?_ | refine LeO.bind ?_ (fun _ => ?_)) | exact ih0 _ _ _ _ | exact heavy_Item_86.mono _ _ _ _ _ | exact LeO.none _ | refine LeO.ite ?_ ?_ | refine LeO.bind ?_ (fun _ => ?_)
set_option maxHeartbeats 80000000 in
set_option maxRecDepth 100000 in
theorem heavy_Item_85.calls (k : Nat) (P0_ : Nat → Prop) (u9000_ : Value) (l0 : List (S68)) (a1 : Int) (a2 : Int) (a3 : Int) (r : List (S68)) (w0 w : World) (hB : Below w0.heap.size w0 w) (ho0 : Kd.R k68 68 w w0.heap.size P0_ u9000_ l0) (h : heavy_Item_85.f k l0 a1 a2 a3 = some r) :
    Calls Try.prog 85 #[u9000_, .int .i64 a1, .int .i64 a2, .int .i64 a3, .func (.func 35) #[] #[]] w fun e w' => e = .returned (.tuple #[]) ∧ Kd.R k68 68 w' w0.heap.size (fun k_ => (P0_ k_ ∨ w.heap.size ≤ k_)) u9000_ r ∧ Below w0.heap.size w0 w' ∧ Kept w w' (fun k_ => P0_ k_) := by
 have aR := mk_ (show Kd.R k68 68 w w0.heap.size (fun k_ => (P0_ k_ ∨ w.heap.size ≤ k_)) u9000_ l0 from Kd.R_mono ho0 (fun k_ hk => (.inl hk))); have HK := mk_ (Kept.refl w (fun k_ => P0_ k_)); have HW0 := mk_ hB.size; have HB := mk_ hB; clear hB; have H : (heavy_Item_85.l0 k l0 a2 (wrap64 (a2 - a1)) (wrap64 (a3 - a2))) = some r := h; clear h; have H' := mk_ H; clear H
 go_enter Try.func85, Try.ntmps85
 go_wp2
 go_loopg [10, 11] k (fun kq aS aT w' => ∃ (aD : List (S68)) (aA : Int) (aB : Int), aS = .int .i64 aA ∧ aT = .int .i64 aB ∧ Aside0 (heavy_Item_85.l0 kq aD a2 aA aB = some r) ∧ Aside0 (kq ≤ k) ∧ Aside0 (Kd.R k68 68 w' w0.heap.size (fun k_ => (P0_ k_ ∨ w.heap.size ≤ k_)) u9000_ aD) ∧ Aside0 (Kept w w' (fun k_ => P0_ k_)) ∧ Aside0 (Below w0.heap.size w0 w'))
 case atStart => exact ⟨(l0), (wrap64 (a2 - a1)), (wrap64 (a3 - a2)), (by first | rfl | (simp; done) | (simp [*]; done)), (by first | rfl | (simp; done) | (simp [*]; done)), H', ⟨Nat.le_refl _⟩, ⟨by (with_reducible repeat (first | apply Kd.R_alloc | apply Kd.R_drewN | apply Kd.R_drew)); exact aR.out⟩, ⟨kp_ HK⟩, ⟨bl_ HB⟩⟩
 case round =>
  clear H'; obtain ⟨aD, aA, aB, rfl, rfl, HA, HK1, aC, HK, HB⟩ := hrel
  cases gk with
  | zero => exact absurd HA.out (by simp [heavy_Item_85.l0])
  | succ k1 =>
   have H := HA.out; clear HA; simp only [heavy_Item_85.l0] at H
   by_cases c5 : aA = aB
   ·rw [if_pos c5] at H; have aU : (aA == aB) = true := beq_iff_eq.mpr c5; have aV : (aA != aB) = false := bne_eq_false_iff_eq.mpr c5; clear c5; replace H := Option.bind_eq_some_iff.mp H; obtain ⟨aN, aO, H⟩ := H; replace H : (some aN) = some r := H; have A6 := mk_ aO; clear aO; obtain rfl := Option.some.inj H; obtain ⟨aF, aG, eo7⟩ := Kd.R_slice aC.out; subst eo7
    go_wp2_with (first | ((with_reducible refine gate_callee (f := 86) rfl ?_); refine gs_ (some 57) Try.func86 #[.slice aF aD.length aG, .int .i64 (wrap64 (a2 - aA)), .int .i64 a2, .int .i64 aA, .func (.func 35) #[] #[]] ?_; (with_reducible refine (heavy_Item_86.calls k1 (fun k_ => some k_ = (.slice aF aD.length aG : Value).ownBlock) (.slice aF aD.length aG) aD (wrap64 (a2 - aA)) a2 aA aN w0 _ ?side1 ?side2 A6.out).mono ?_); (case side1 => exact bl_ HB); (case side2 => exact Kd.R_tight rfl aC.out); rintro e w8 ⟨rfl, hy0, hb, hkp⟩; refine ⟨_, rfl, ?_⟩; replace HK := mk_ (Kept.then_ (S := (fun k_ => P0_ k_)) (kp_ HK) hkp (fun k_ aE => (fun e_ => (aC.out.1 k_ e_.symm)) aE)); replace aC := mk_ (Kd.R_reok rfl hy0 (fun k_ e_ => aC.out.1 k_ e_)); replace HB := mk_ (hb); (try clear hb); (try clear hkp); (try clear hy0)))
    first | go_end0 | ((try simp only [Exit.inBlock, Exit.then]); refine bodyPost_ret (results_none rfl _ _ _) rfl ?_)
    exact ⟨by first | rfl | (simp [*] <;> rfl), by (with_reducible repeat (first | apply Kd.R_alloc | apply Kd.R_drewN | apply Kd.R_drew)); exact aC.out, bl_ HB, by repeat (first | (with_reducible first | exact HK.out | apply Kept.alloc | apply Kept.drewN | apply Kept.drew) | exact HK.out)⟩
   ·rw [if_neg c5] at H; have aU : (aA == aB) = false := beq_eq_false_iff_ne.mpr c5; have aV : (aA != aB) = true := bne_iff_ne.mpr c5
    by_cases c9 : aA > aB
    ·rw [if_pos c9] at H; have aW : decide (aB < aA) = true := decide_eq_true c9; clear c9; replace H := Option.bind_eq_some_iff.mp H; obtain ⟨aH, aP, H⟩ := H; replace H : (heavy_Item_85.l0 k1 aH a2 (wrap64 (aA - aB)) aB) = some r := H; have aX := mk_ aP; clear aP; have H' := mk_ H; clear H; obtain ⟨aI, aJ, eo11⟩ := Kd.R_slice aC.out; subst eo11
     go_wp2_with (first | ((with_reducible refine gate_callee (f := 86) rfl ?_); refine gs_ (some 31) Try.func86 #[.slice aI aD.length aJ, .int .i64 (wrap64 (a2 - aA)), .int .i64 a2, .int .i64 aB, .func (.func 35) #[] #[]] ?_; (with_reducible refine (heavy_Item_86.calls k1 (fun k_ => some k_ = (.slice aI aD.length aJ : Value).ownBlock) (.slice aI aD.length aJ) aD (wrap64 (a2 - aA)) a2 aB aH w0 _ ?side1 ?side2 aX.out).mono ?_); (case side1 => exact bl_ HB); (case side2 => exact Kd.R_tight rfl aC.out); rintro e aZ ⟨rfl, hy0, hb, hkp⟩; refine ⟨_, rfl, ?_⟩; replace HK := mk_ (Kept.then_ (S := (fun k_ => P0_ k_)) (kp_ HK) hkp (fun k_ aE => (fun e_ => (aC.out.1 k_ e_.symm)) aE)); replace aC := mk_ (Kd.R_reok rfl hy0 (fun k_ e_ => aC.out.1 k_ e_)); replace HB := mk_ (hb); (try clear hb); (try clear hkp); (try clear hy0)))
     go_roundg k1
     case measure => have := HK1.out; omega
     case rel => exact ⟨(aH), (wrap64 (aA - aB)), (aB), (by first | rfl | (simp; done) | (simp [*]; done)), (by first | rfl | (simp; done) | (simp [*]; done)), H', ⟨by have := HK1.out; omega⟩, ⟨by (with_reducible repeat (first | apply Kd.R_alloc | apply Kd.R_drewN | apply Kd.R_drew)); exact aC.out⟩, ⟨kp_ HK⟩, ⟨bl_ HB⟩⟩
    ·rw [if_neg c9] at H; have aW : decide (aB < aA) = false := decide_eq_false c9; clear c9; replace H := Option.bind_eq_some_iff.mp H; obtain ⟨aK, aQ, H⟩ := H; replace H : (heavy_Item_85.l0 k1 aK a2 aA (wrap64 (aB - aA))) = some r := H; have aY := mk_ aQ; clear aQ; have H' := mk_ H; clear H; obtain ⟨aL, aM, eo14⟩ := Kd.R_slice aC.out; subst eo14
     go_wp2_with (first | ((with_reducible refine gate_callee (f := 86) rfl ?_); refine gs_ (some 46) Try.func86 #[.slice aL aD.length aM, .int .i64 (wrap64 (a2 - aA)), .int .i64 (wrap64 ((wrap64 (a2 + aB)) - aA)), .int .i64 aA, .func (.func 35) #[] #[]] ?_; (with_reducible refine (heavy_Item_86.calls k1 (fun k_ => some k_ = (.slice aL aD.length aM : Value).ownBlock) (.slice aL aD.length aM) aD (wrap64 (a2 - aA)) (wrap64 ((wrap64 (a2 + aB)) - aA)) aA aK w0 _ ?side1 ?side2 aY.out).mono ?_); (case side1 => exact bl_ HB); (case side2 => exact Kd.R_tight rfl aC.out); rintro e bA ⟨rfl, hy0, hb, hkp⟩; refine ⟨_, rfl, ?_⟩; replace HK := mk_ (Kept.then_ (S := (fun k_ => P0_ k_)) (kp_ HK) hkp (fun k_ aE => (fun e_ => (aC.out.1 k_ e_.symm)) aE)); replace aC := mk_ (Kd.R_reok rfl hy0 (fun k_ e_ => aC.out.1 k_ e_)); replace HB := mk_ (hb); (try clear hb); (try clear hkp); (try clear hy0)))
     go_roundg k1
     case measure => have := HK1.out; omega
     case rel => exact ⟨(aK), (aA), (wrap64 (aB - aA)), (by first | rfl | (simp; done) | (simp [*]; done)), (by first | rfl | (simp; done) | (simp [*]; done)), H', ⟨by have := HK1.out; omega⟩, ⟨by (with_reducible repeat (first | apply Kd.R_alloc | apply Kd.R_drewN | apply Kd.R_drew)); exact aC.out⟩, ⟨kp_ HK⟩, ⟨bl_ HB⟩⟩

end Go.Proofs.Ytljmjjeghebdpaa.PElasticSeen
