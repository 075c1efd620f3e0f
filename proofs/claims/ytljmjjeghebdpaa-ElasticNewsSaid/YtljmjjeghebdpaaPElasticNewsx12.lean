/- The functions that a law uses, each as a plain function, with the proof that a call of the Go function comes to its answer. Condition of each: the arguments read as the data that it names, and the plain function has an answer. Written by a program of this session (standin.py). -/
import Derived.Test.YtljmjjeghebdpaaPElasticNewsx0
import Derived.Test.YtljmjjeghebdpaaPElasticNewsx11
import Derived.Test.YtljmjjeghebdpaaShort
import Derived.Lib.SliceRun
import Derived.Test.YtljmjjeghebdpaaPressMore
namespace Go.Proofs.Ytljmjjeghebdpaa.PElasticNews
open Go.RowKit Go.Proofs.YtljmjjeghebdpaaW.PrintWords Go.Proofs.YtljmjjeghebdpaaW.PrintLast Go.Proofs.YtljmjjeghebdpaaW.PrintMore Go.Proofs.Ytljmjjeghebdpaa.Short Go.Proofs.Ytljmjjeghebdpaa.Press Go.Proofs.Ytljmjjeghebdpaa.PressMore
attribute [local go_sem] max2_int min2_int max_two min_two max_three min_three max_four min_four   -- for this text's walks alone
set_option linter.unusedVariables false
set_option linter.unusedSimpArgs false

/-! ### rillmeterref01_Add: function 63 -/
def rillmeterref01_Add.f (a0 : Int) (a1 : Int) : Option (Int) := some (Int.tmod (IntKind.u64.wrap ((Int.tmod a0 2305843009213693951) + (Int.tmod a1 2305843009213693951))) 2305843009213693951)
set_option maxHeartbeats 80000000 in
set_option maxRecDepth 100000 in
theorem rillmeterref01_Add.calls (a0 : Int) (a1 : Int) (r : Int) (w : World) (h : rillmeterref01_Add.f a0 a1 = some r) :
    Calls Try.prog 63 #[.int .u64 a0, .int .u64 a1] w fun e w' => e = .returned (.int .u64 r) ∧ Drawn0 w w' := by
 have H : (some (Int.tmod (IntKind.u64.wrap ((Int.tmod a0 2305843009213693951) + (Int.tmod a1 2305843009213693951))) 2305843009213693951)) = some r := h; clear h; obtain rfl := Option.some.inj H
 go_enter Try.func63, Try.ntmps63
 go_wp2
 go_ret; exact ⟨by first | rfl | (simp; done) | (simp [*]; done), by repeat (first | exact Drawn0.refl _ | apply Drawn0.step)⟩

/-! ### rillmeterref01_Pow: function 64 -/
def rillmeterref01_Pow.f : Nat → Int → Int → Option (Int)
  | 0, _, _ => none
  | k + 1, a0, a1 => if a1 = 0 then (some 1) else ((rillmeterref01_Pow.f k a0 (IntKind.u64.wrap (Int.tdiv a1 2))).bind fun t360 => ((rillmeterref01_Mul.f k t360 t360).bind fun t361 => (if (Int.tmod a1 2) = 1 then ((rillmeterref01_Mul.f k t361 a0).bind fun t362 => (some t362)) else (some t361))))
theorem rillmeterref01_Pow.mono_l : ∀ k, (∀ y0 y1, LeO (rillmeterref01_Pow.f k y0 y1) (rillmeterref01_Pow.f (k + 1) y0 y1))
  | 0 => fun _ _ r h => by simp [rillmeterref01_Pow.f] at h
  | k + 1 => by
    have ih0 := rillmeterref01_Pow.mono_l k
    · intro y0 y1
      unfold rillmeterref01_Pow.f
      repeat' first
      | (with_reducible exact ih0 _ _)
      | (with_reducible exact rillmeterref01_Mul.mono _ _ _)
      | (with_reducible exact LeO.refl _)
      | (with_reducible exact LeO.none _)
      | (with_reducible refine LeO.ite ?_ ?_)
      | (with_reducible refine LeO.bind ?_ (fun _ => ?_))
      | exact ih0 _ _
      | exact rillmeterref01_Mul.mono _ _ _
      | exact LeO.none _
      | refine LeO.ite ?_ ?_
      | refine LeO.bind ?_ (fun _ => ?_)
theorem rillmeterref01_Pow.mono : ∀ a0 a1 k, LeO (rillmeterref01_Pow.f k a0 a1) (rillmeterref01_Pow.f (k + 1) a0 a1) := by
  intro a0 a1 k
  have ih0 := rillmeterref01_Pow.mono_l k
  exact ih0 a0 a1
set_option maxHeartbeats 80000000 in
set_option maxRecDepth 100000 in
theorem rillmeterref01_Pow.calls (k : Nat) : ∀ (a0 : Int) (a1 : Int) (r : Int) (w : World) (h : rillmeterref01_Pow.f k a0 a1 = some r),
    Calls Try.prog 64 #[.int .u64 a0, .int .u64 a1] w fun e w' => e = .returned (.int .u64 r) ∧ Drawn0 w w' := by
 induction k using Nat.strongRecOn with
 | _ k ih =>
 intro a0 a1 r w h
 cases k with
 | zero => exact absurd h (by simp [rillmeterref01_Pow.f])
 | succ k =>
 simp only [rillmeterref01_Pow.f] at h; have H : (if a1 = 0 then (some 1) else ((rillmeterref01_Pow.f k a0 (IntKind.u64.wrap (Int.tdiv a1 2))).bind fun aA => ((rillmeterref01_Mul.f k aA aA).bind fun aB => (if (Int.tmod a1 2) = 1 then ((rillmeterref01_Mul.f k aB a0).bind fun aC => (some aC)) else (some aB))))) = some r := h; clear h
 by_cases c3 : a1 = 0
 ·rw [if_pos c3] at H; have aG : (a1 == 0) = true := beq_iff_eq.mpr c3; have aH : (a1 != 0) = false := bne_eq_false_iff_eq.mpr c3; clear c3; obtain rfl := Option.some.inj H
  go_enter Try.func64, Try.ntmps64
  go_wp2
  go_ret; exact ⟨by first | rfl | (simp; done) | (simp [*]; done), by repeat (first | exact Drawn0.refl _ | apply Drawn0.step)⟩
 ·rw [if_neg c3] at H; have aG : (a1 == 0) = false := beq_eq_false_iff_ne.mpr c3; have aH : (a1 != 0) = true := bne_iff_ne.mpr c3; replace H := Option.bind_eq_some_iff.mp H; obtain ⟨aA, aD, H⟩ := H; replace H : ((rillmeterref01_Mul.f k aA aA).bind fun aB => (if (Int.tmod a1 2) = 1 then ((rillmeterref01_Mul.f k aB a0).bind fun aC => (some aC)) else (some aB))) = some r := H; have A4 := mk_ aD; clear aD; replace H := Option.bind_eq_some_iff.mp H; obtain ⟨aB, aE, H⟩ := H; replace H : (if (Int.tmod a1 2) = 1 then ((rillmeterref01_Mul.f k aB a0).bind fun aC => (some aC)) else (some aB)) = some r := H; have A5 := mk_ aE; clear aE
  by_cases c6 : (Int.tmod a1 2) = 1
  ·rw [if_pos c6] at H; have aI : ((Int.tmod a1 2) == 1) = true := beq_iff_eq.mpr c6; have aJ : ((Int.tmod a1 2) != 1) = false := bne_eq_false_iff_eq.mpr c6; clear c6; replace H := Option.bind_eq_some_iff.mp H; obtain ⟨aC, aF, H⟩ := H; replace H : (some aC) = some r := H; have A7 := mk_ aF; clear aF; obtain rfl := Option.some.inj H
   go_enter Try.func64, Try.ntmps64
   go_wp2_with (first | ((with_reducible refine gate_callee (f := 64) rfl ?_); refine goesL_ (some 11) rfl rfl Try.func64 (by kernel_rfl) rfl #[.int .u64 a0, .int .u64 (IntKind.u64.wrap (Int.tdiv a1 2))] rfl (by (try simp only [List.map_toArray, List.map_cons, List.map_nil]); first | done | rfl | (simp only [List.length_drop, List.length_take]; rfl)) ?_; (with_reducible refine (ih k (by omega) a0 (IntKind.u64.wrap (Int.tdiv a1 2)) aA _ A4.out).mono ?_); rintro e w' ⟨rfl, ⟨nd, rfl⟩⟩; refine ⟨_, rfl, ?_⟩) | ((with_reducible refine gate_callee (f := 62) rfl ?_); refine goesL_ (some 14) rfl rfl Try.func62 (by kernel_rfl) rfl #[.int .u64 aA, .int .u64 aA] rfl (by (try simp only [List.map_toArray, List.map_cons, List.map_nil]); first | done | rfl | (simp only [List.length_drop, List.length_take]; rfl)) ?_; (with_reducible refine (rillmeterref01_Mul.calls k aA aA aB _ A5.out).mono ?_); rintro e w' ⟨rfl, ⟨nd, rfl⟩⟩; refine ⟨_, rfl, ?_⟩) | ((with_reducible refine gate_callee (f := 62) rfl ?_); refine goesL_ (some 20) rfl rfl Try.func62 (by kernel_rfl) rfl #[.int .u64 aB, .int .u64 a0] rfl (by (try simp only [List.map_toArray, List.map_cons, List.map_nil]); first | done | rfl | (simp only [List.length_drop, List.length_take]; rfl)) ?_; (with_reducible refine (rillmeterref01_Mul.calls k aB a0 aC _ A7.out).mono ?_); rintro e w' ⟨rfl, ⟨nd, rfl⟩⟩; refine ⟨_, rfl, ?_⟩))
   go_ret; exact ⟨by first | rfl | (simp; done) | (simp [*]; done), by repeat (first | exact Drawn0.refl _ | apply Drawn0.step)⟩
  ·rw [if_neg c6] at H; have aI : ((Int.tmod a1 2) == 1) = false := beq_eq_false_iff_ne.mpr c6; have aJ : ((Int.tmod a1 2) != 1) = true := bne_iff_ne.mpr c6; obtain rfl := Option.some.inj H
   go_enter Try.func64, Try.ntmps64
   go_wp2_with (first | ((with_reducible refine gate_callee (f := 64) rfl ?_); refine goesL_ (some 11) rfl rfl Try.func64 (by kernel_rfl) rfl #[.int .u64 a0, .int .u64 (IntKind.u64.wrap (Int.tdiv a1 2))] rfl (by (try simp only [List.map_toArray, List.map_cons, List.map_nil]); first | done | rfl | (simp only [List.length_drop, List.length_take]; rfl)) ?_; (with_reducible refine (ih k (by omega) a0 (IntKind.u64.wrap (Int.tdiv a1 2)) aA _ A4.out).mono ?_); rintro e w' ⟨rfl, ⟨nd, rfl⟩⟩; refine ⟨_, rfl, ?_⟩) | ((with_reducible refine gate_callee (f := 62) rfl ?_); refine goesL_ (some 14) rfl rfl Try.func62 (by kernel_rfl) rfl #[.int .u64 aA, .int .u64 aA] rfl (by (try simp only [List.map_toArray, List.map_cons, List.map_nil]); first | done | rfl | (simp only [List.length_drop, List.length_take]; rfl)) ?_; (with_reducible refine (rillmeterref01_Mul.calls k aA aA aB _ A5.out).mono ?_); rintro e w' ⟨rfl, ⟨nd, rfl⟩⟩; refine ⟨_, rfl, ?_⟩))
   go_ret; exact ⟨by first | rfl | (simp; done) | (simp [*]; done), by repeat (first | exact Drawn0.refl _ | apply Drawn0.step)⟩

/-! ### rillmeterref02_Row: function 40 -/
def rillmeterref02_Row.j0 : Nat → Int → Int → Option (Int)
  | 0, _, _ => none
  | k + 1, x0, x1 => (rillmeterref01_Add.f x0 3).bind fun t363 => ((rillmeterref01_Add.f (IntKind.u64.wrap (x1)) 2).bind fun t364 => ((rillmeterref01_Mul.f k t363 t364).bind fun t365 => ((rillmeterref01_Add.f t365 5).bind fun t366 => ((rillmeterref01_Pow.f k t366 2).bind fun t367 => (some t367)))))
def rillmeterref02_Row.f (k : Nat) (a0 : Int) (a1 : Int) : Option (Int) := if a1 < 0 then (rillmeterref02_Row.j0 k a0 0) else (rillmeterref02_Row.j0 k a0 a1)
theorem rillmeterref02_Row.mono_l : ∀ k, (∀ y0 y1, LeO (rillmeterref02_Row.j0 k y0 y1) (rillmeterref02_Row.j0 (k + 1) y0 y1))
  | 0 => fun _ _ r h => by simp [rillmeterref02_Row.j0] at h
  | k + 1 => by
    have ih0 := rillmeterref02_Row.mono_l k
    · intro y0 y1
      unfold rillmeterref02_Row.j0
      repeat' first
      | (with_reducible exact ih0 _ _)
      | (with_reducible exact rillmeterref01_Mul.mono _ _ _)
      | (with_reducible exact rillmeterref01_Pow.mono _ _ _)
      | (with_reducible exact LeO.refl _)
      | (with_reducible exact LeO.none _)
      | (with_reducible refine LeO.ite ?_ ?_)
      | (with_reducible refine LeO.bind ?_ (fun _ => ?_))
      | exact ih0 _ _
      | exact rillmeterref01_Mul.mono _ _ _
      | exact rillmeterref01_Pow.mono _ _ _
      | exact LeO.none _
      | refine LeO.ite ?_ ?_
      | refine LeO.bind ?_ (fun _ => ?_)
theorem rillmeterref02_Row.mono : ∀ a0 a1 k, LeO (rillmeterref02_Row.f k a0 a1) (rillmeterref02_Row.f (k + 1) a0 a1) := by
  intro a0 a1 k
  have ih0 := rillmeterref02_Row.mono_l k
  unfold rillmeterref02_Row.f
  repeat' first
      | (with_reducible exact ih0 _ _)
      | (with_reducible exact rillmeterref01_Mul.mono _ _ _)
      | (with_reducible exact rillmeterref01_Pow.mono _ _ _)
      | (with_reducible exact LeO.refl _)
      | (with_reducible exact LeO.none _)
      | (with_reducible refine LeO.ite ?_ ?_)
      | (with_reducible refine LeO.bind ?_ (fun _ => ?_))
      | exact ih0 _ _
      | exact rillmeterref01_Mul.mono _ _ _
      | exact rillmeterref01_Pow.mono _ _ _
      | exact LeO.none _
      | refine LeO.ite ?_ ?_
      | refine LeO.bind ?_ (fun _ => ?_)
set_option maxHeartbeats 80000000 in
set_option maxRecDepth 100000 in
theorem rillmeterref02_Row.calls (k : Nat) (a0 : Int) (a1 : Int) (r : Int) (w : World) (h : rillmeterref02_Row.f k a0 a1 = some r) :
    Calls Try.prog 40 #[.int .u64 a0, .int .i64 a1] w fun e w' => e = .returned (.int .u64 r) ∧ Drawn0 w w' := by
 have H : (if a1 < 0 then (rillmeterref02_Row.j0 k a0 0) else (rillmeterref02_Row.j0 k a0 a1)) = some r := h; clear h; have HC3 := mk_ H; clear H
 go_enter Try.func40, Try.ntmps40
 go_upto_if 7 with (fail)
 go_cut [1] (fun v1 wc => ∃ (kq : Nat) (aE : Int), v1 = .int .i64 aE ∧ Aside0 (rillmeterref02_Row.j0 kq a0 aE = some r) ∧ Aside0 (kq ≤ k) ∧ Drawn0 w wc)
 case first =>
  have H := HC3.out; clear HC3
  by_cases c4 : a1 < 0
  ·rw [if_pos c4] at H; have aF : decide (a1 < 0) = true := decide_eq_true c4; clear c4
   (first | rw [aF] | (simp only [i64_w, i32_w]; rw [aF]) | skip)
   have H' := mk_ H; clear H
   go_wp2
   go_meet
   case rel => exact ⟨_, (0), (by first | rfl | (simp; done) | (simp [*]; done)), H', ⟨by first | omega | exact Nat.le_refl _⟩, by repeat (first | exact Drawn0.refl _ | apply Drawn0.step)⟩
  ·rw [if_neg c4] at H; have aF : decide (a1 < 0) = false := decide_eq_false c4; clear c4
   (first | rw [aF] | (simp only [i64_w, i32_w]; rw [aF]) | skip)
   have H' := mk_ H; clear H
   go_wp2
   go_meet
   case rel => exact ⟨_, (a1), (by first | rfl | (simp; done) | (simp [*]; done)), H', ⟨by first | omega | exact Nat.le_refl _⟩, by repeat (first | exact Drawn0.refl _ | apply Drawn0.step)⟩
 case rest =>
  clear HC3; (try clear p2); (try clear c4); (try clear aF); obtain ⟨kq, aE, rfl, HA, HJ2, ⟨mc2, rfl⟩⟩ := hcut
  cases kq with
  | zero => exact absurd HA.out (by simp [rillmeterref02_Row.j0])
  | succ aC =>
   have H := HA.out; clear HA; simp only [rillmeterref02_Row.j0] at H; replace H := Option.bind_eq_some_iff.mp H; obtain ⟨aH, aI, H⟩ := H; replace H : ((rillmeterref01_Add.f (IntKind.u64.wrap (aE)) 2).bind fun aG => ((rillmeterref01_Mul.f aC aH aG).bind fun aD => ((rillmeterref01_Add.f aD 5).bind fun aA => ((rillmeterref01_Pow.f aC aA 2).bind fun aB => (some aB))))) = some r := H; have A5 := mk_ aI; clear aI; replace H := Option.bind_eq_some_iff.mp H; obtain ⟨aG, aJ, H⟩ := H; replace H : ((rillmeterref01_Mul.f aC aH aG).bind fun aD => ((rillmeterref01_Add.f aD 5).bind fun aA => ((rillmeterref01_Pow.f aC aA 2).bind fun aB => (some aB)))) = some r := H; have A6 := mk_ aJ; clear aJ; replace H := Option.bind_eq_some_iff.mp H; obtain ⟨aD, aK, H⟩ := H; replace H : ((rillmeterref01_Add.f aD 5).bind fun aA => ((rillmeterref01_Pow.f aC aA 2).bind fun aB => (some aB))) = some r := H; have A7 := mk_ aK; clear aK; replace H := Option.bind_eq_some_iff.mp H; obtain ⟨aA, aL, H⟩ := H; replace H : ((rillmeterref01_Pow.f aC aA 2).bind fun aB => (some aB)) = some r := H; have A8 := mk_ aL; clear aL; replace H := Option.bind_eq_some_iff.mp H; obtain ⟨aB, aM, H⟩ := H; replace H : (some aB) = some r := H; have A9 := mk_ aM; clear aM; obtain rfl := Option.some.inj H
   go_wp2_with (first | ((with_reducible refine gate_callee (f := 63) rfl ?_); refine goesL_ (some 9) rfl rfl Try.func63 (by kernel_rfl) rfl #[.int .u64 a0, .int .u64 3] rfl (by (try simp only [List.map_toArray, List.map_cons, List.map_nil]); first | done | rfl | (simp only [List.length_drop, List.length_take]; rfl)) ?_; (with_reducible refine (rillmeterref01_Add.calls a0 3 aH _ A5.out).mono ?_); rintro e w' ⟨rfl, ⟨nd, rfl⟩⟩; refine ⟨_, rfl, ?_⟩) | ((with_reducible refine gate_callee (f := 63) rfl ?_); refine goesL_ (some 12) rfl rfl Try.func63 (by kernel_rfl) rfl #[.int .u64 (IntKind.u64.wrap (aE)), .int .u64 2] rfl (by (try simp only [List.map_toArray, List.map_cons, List.map_nil]); first | done | rfl | (simp only [List.length_drop, List.length_take]; rfl)) ?_; (with_reducible refine (rillmeterref01_Add.calls (IntKind.u64.wrap (aE)) 2 aG _ A6.out).mono ?_); rintro e w' ⟨rfl, ⟨nd, rfl⟩⟩; refine ⟨_, rfl, ?_⟩) | ((with_reducible refine gate_callee (f := 62) rfl ?_); refine goesL_ (some 13) rfl rfl Try.func62 (by kernel_rfl) rfl #[.int .u64 aH, .int .u64 aG] rfl (by (try simp only [List.map_toArray, List.map_cons, List.map_nil]); first | done | rfl | (simp only [List.length_drop, List.length_take]; rfl)) ?_; (with_reducible refine (rillmeterref01_Mul.calls aC aH aG aD _ A7.out).mono ?_); rintro e w' ⟨rfl, ⟨nd, rfl⟩⟩; refine ⟨_, rfl, ?_⟩) | ((with_reducible refine gate_callee (f := 63) rfl ?_); refine goesL_ (some 15) rfl rfl Try.func63 (by kernel_rfl) rfl #[.int .u64 aD, .int .u64 5] rfl (by (try simp only [List.map_toArray, List.map_cons, List.map_nil]); first | done | rfl | (simp only [List.length_drop, List.length_take]; rfl)) ?_; (with_reducible refine (rillmeterref01_Add.calls aD 5 aA _ A8.out).mono ?_); rintro e w' ⟨rfl, ⟨nd, rfl⟩⟩; refine ⟨_, rfl, ?_⟩) | ((with_reducible refine gate_callee (f := 64) rfl ?_); refine goesL_ (some 16) rfl rfl Try.func64 (by kernel_rfl) rfl #[.int .u64 aA, .int .u64 2] rfl (by (try simp only [List.map_toArray, List.map_cons, List.map_nil]); first | done | rfl | (simp only [List.length_drop, List.length_take]; rfl)) ?_; (with_reducible refine (rillmeterref01_Pow.calls aC aA 2 aB _ A9.out).mono ?_); rintro e w' ⟨rfl, ⟨nd, rfl⟩⟩; refine ⟨_, rfl, ?_⟩))
   go_ret; exact ⟨by first | rfl | (simp; done) | (simp [*]; done), by repeat (first | exact Drawn0.refl _ | apply Drawn0.step)⟩

/-! ### rillmeterref15_At: function 41 -/
def rillmeterref15_At.l0 : Nat → ByteArray → Int → List (S77) → Int → Option (Int)
  | 0, _, _, _, _ => none
  | k + 1, x1, x5, x369000, x369001 => if x5 < (x369000.length : Int) then (if 0 ≤ x5 then (if ((rd_T77 x369000 x5).f0).toList = x1.toList then (some x5) else (rillmeterref15_At.l0 k x1 (wrap64 (x5 + 1)) x369000 x369001)) else (none)) else (some (-1))
def rillmeterref15_At.f (k : Nat) (l0_0 : List (S77)) (a0_1 : Int) (a1 : ByteArray) : Option (Int) := rillmeterref15_At.l0 k a1 0 l0_0 a0_1
theorem rillmeterref15_At.mono_l : ∀ k, (∀ y0 y1 y2 y3, LeO (rillmeterref15_At.l0 k y0 y1 y2 y3) (rillmeterref15_At.l0 (k + 1) y0 y1 y2 y3))
  | 0 => fun _ _ _ _ r h => by simp [rillmeterref15_At.l0] at h
  | k + 1 => by
    have ih0 := rillmeterref15_At.mono_l k
    · intro y0 y1 y2 y3
      unfold rillmeterref15_At.l0
      repeat' first
      | (with_reducible exact ih0 _ _ _ _)
      | (with_reducible exact LeO.refl _)
      | (with_reducible exact LeO.none _)
      | (with_reducible refine LeO.ite ?_ ?_)
      | (with_reducible refine LeO.bind ?_ (fun _ => ?_))
      | exact ih0 _ _ _ _
      | exact LeO.none _
      | refine LeO.ite ?_ ?_
      | refine LeO.bind ?_ (fun _ => ?_)
theorem rillmeterref15_At.mono : ∀ a0 a1 a2 k, LeO (rillmeterref15_At.f k a0 a1 a2) (rillmeterref15_At.f (k + 1) a0 a1 a2) := by
  intro a0 a1 a2 k
  have ih0 := rillmeterref15_At.mono_l k
  unfold rillmeterref15_At.f
  repeat' first
      | (with_reducible exact ih0 _ _ _ _)
      | (with_reducible exact LeO.refl _)
      | (with_reducible exact LeO.none _)
      | (with_reducible refine LeO.ite ?_ ?_)
      | (with_reducible refine LeO.bind ?_ (fun _ => ?_))
      | exact ih0 _ _ _ _
      | exact LeO.none _
      | refine LeO.ite ?_ ?_
      | refine LeO.bind ?_ (fun _ => ?_)
set_option maxHeartbeats 80000000 in
set_option maxRecDepth 100000 in
theorem rillmeterref15_At.calls (k : Nat) (A0_0 : Option Addr) (c0_0 : Nat) (l0_0 : List (S77)) (a0_1 : Int) (a1 : ByteArray) (r : Int) (w : World) (hr0_0 : Kd.C k77 w A0_0 l0_0.length l0_0) (hc0_0 : l0_0.length ≤ c0_0) (h : rillmeterref15_At.f k l0_0 a0_1 a1 = some r) :
    Calls Try.prog 41 #[.agg #[.slice A0_0 l0_0.length c0_0, .int .i64 a0_1], .string a1] w fun e w' => e = .returned (.int .i64 r) ∧ Below w.heap.size w w' := by
 have hu74 := Try.underlying74; have aI := mk_ hr0_0; have aN := mk_ hc0_0; clear hr0_0 hc0_0; have HB := mk_ (Below.refl w.heap.size w); have H : (rillmeterref15_At.l0 k a1 0 l0_0 a0_1) = some r := h; clear h; have H' := mk_ H; clear H
 go_enter Try.func41, Try.ntmps41
 go_wp2_with (first | ((with_reducible refine gate_dst (N := 2) rfl ?_); refine box_event ?hg (N := 2) ?hd (cs := #[.slice A0_0 l0_0.length c0_0, .int .i64 a0_1]) (t := 74) ?hr ?_; (case hd => rfl); (case hg => rfl); (case hr => first | (go_simp; done) | (go_simp; rfl)); intro aC hg w3 hbox hb; have n0_ := bs_ HB hb; have n1_ := mk_ (hbox); have n2_ := gx_ hg HB; have n3_ := gx_ hg HB; clear HB; have HB := n0_; have aB := n1_; have aO := n2_; have aP := n3_; clear n0_ n1_ n2_ n3_; clear hb hbox hg))
 go_loopg [5] k (fun kq v5 w' => ∃ (aA : Int), v5 = .int .i64 aA ∧ Aside0 (rillmeterref15_At.l0 kq a1 aA l0_0 a0_1 = some r) ∧ Aside0 (kq ≤ k) ∧ Aside0 (w'.heap[aC]? = some (.cells #[(.slice A0_0 l0_0.length c0_0), .int .i64 a0_1] 74 (0, 0))) ∧ Aside0 (Below w.heap.size w w'))
 case atStart => exact ⟨(0), (by first | rfl | (simp; done) | (simp [*]; done)), H', ⟨Nat.le_refl _⟩, ⟨bk_ aB⟩, ⟨bl_ HB⟩⟩
 case round =>
  clear H'; (try clear p2); obtain ⟨aA, rfl, HA, HK1, aB, HB⟩ := hrel
  cases gk with
  | zero => exact absurd HA.out (by simp [rillmeterref15_At.l0])
  | succ k1 =>
   have H := HA.out; clear HA; simp only [rillmeterref15_At.l0] at H
   by_cases c4 : aA < (l0_0.length : Int)
   ·rw [if_pos c4] at H; have aJ : decide (aA < (l0_0.length : Int)) = true := decide_eq_true c4; clear c4
    by_cases c5 : 0 ≤ aA
    ·rw [if_pos c5] at H; have aQ : decide (0 ≤ aA) = true := decide_eq_true c5; clear c5
     by_cases c6 : ((rd_T77 l0_0 aA).f0).toList = a1.toList
     ·rw [if_pos c6] at H; have aK : (((rd_T77 l0_0 aA).f0).toList == a1.toList) = true := beq_iff_eq.mpr c6; have aL : (((rd_T77 l0_0 aA).f0).toList != a1.toList) = false := bne_eq_false_iff_eq.mpr c6; clear c6; obtain rfl := Option.some.inj H; obtain ⟨aR, aS⟩ := cz2_ aB; obtain ⟨aT, aU⟩ := fz2_ aB; have aD : 0 ≤ (aA : Int) := of_decide_eq_true (by first | (with_reducible assumption) | assumption); have aE : aA < (l0_0.length : Int) := of_decide_eq_true (by first | (with_reducible assumption) | assumption); obtain ⟨aM, e369, aF, aG, aH⟩ := at_T77 aI.out aA aD aE
      cases e369; (try replace aF := bt_ HB aF); (try replace aG := bt_ HB aG); (try replace aH := bt_ HB aH); replace aD := eq_true aD; replace aE := eq_true aE
      go_wp2
      go_ret; exact ⟨by first | rfl | (simp [errW_none, errW_some] <;> rfl) | (simp [*, errW_none, errW_some] <;> rfl), bl_ HB⟩
     ·rw [if_neg c6] at H; have aK : (((rd_T77 l0_0 aA).f0).toList == a1.toList) = false := beq_eq_false_iff_ne.mpr c6; have aL : (((rd_T77 l0_0 aA).f0).toList != a1.toList) = true := bne_iff_ne.mpr c6; have H' := mk_ H; clear H; obtain ⟨aV, aW⟩ := cz2_ aB; obtain ⟨aX, aY⟩ := fz2_ aB; have aD : 0 ≤ (aA : Int) := of_decide_eq_true (by first | (with_reducible assumption) | assumption); have aE : aA < (l0_0.length : Int) := of_decide_eq_true (by first | (with_reducible assumption) | assumption); obtain ⟨aM, e369, aF, aG, aH⟩ := at_T77 aI.out aA aD aE
      cases e369; (try replace aF := bt_ HB aF); (try replace aG := bt_ HB aG); (try replace aH := bt_ HB aH); replace aD := eq_true aD; replace aE := eq_true aE
      go_wp2
      go_roundg k1
      case measure => have := HK1.out; omega
      case rel => exact ⟨(wrap64 (aA + 1)), (by first | rfl | (simp; done) | (simp [*]; done)), H', ⟨by have := HK1.out; omega⟩, ⟨bk_ aB⟩, ⟨bl_ HB⟩⟩
    ·rw [if_neg c5] at H; exact absurd H (by simp)
   ·rw [if_neg c4] at H; have aJ : decide (aA < (l0_0.length : Int)) = false := decide_eq_false c4; clear c4; obtain rfl := Option.some.inj H; obtain ⟨aZ, bA⟩ := cz2_ aB; obtain ⟨bB, bC⟩ := fz2_ aB
    go_wp2
    go_ret; exact ⟨by first | rfl | (simp [errW_none, errW_some] <;> rfl) | (simp [*, errW_none, errW_some] <;> rfl), bl_ HB⟩

end Go.Proofs.Ytljmjjeghebdpaa.PElasticNews
