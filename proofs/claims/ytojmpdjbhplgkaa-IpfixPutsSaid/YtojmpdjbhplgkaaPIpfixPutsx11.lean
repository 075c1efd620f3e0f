/- The functions that a law uses, each as a plain function, with the proof that a call of the Go function comes to its answer. Condition of each: the arguments read as the data that it names, and the plain function has an answer. Written by a program of this session (standin.py). -/
import Derived.Test.YtojmpdjbhplgkaaPIpfixPutsx0
import Derived.Test.YtojmpdjbhplgkaaPIpfixPutsx2
import Derived.Test.YtojmpdjbhplgkaaShort
import Derived.Lib.SliceRun
import Derived.Test.YtojmpdjbhplgkaaPressMore
namespace Go.Proofs.Ytojmpdjbhplgkaa.PIpfixPuts
open Go.RowKit Go.Proofs.YtojmpdjbhplgkaaW.PrintWords Go.Proofs.YtojmpdjbhplgkaaW.PrintLast Go.Proofs.YtojmpdjbhplgkaaW.PrintMore Go.Proofs.Ytojmpdjbhplgkaa.Short Go.Proofs.Ytojmpdjbhplgkaa.Press Go.Proofs.Ytojmpdjbhplgkaa.PressMore
attribute [local go_sem] max2_int min2_int max_two min_two max_three min_three max_four min_four   -- for this text's walks alone
set_option linter.unusedVariables false
set_option linter.unusedSimpArgs false

/-! ### octet_Cut: function 51 -/
def octet_Cut.f (a0 : ByteArray) (a1 : Int) : Option (ByteArray × ByteArray × Int) := if a1 < 0 then (some ((⟨#[]⟩ : ByteArray), (⟨#[]⟩ : ByteArray), 1)) else (if (a0.size : Int) < a1 then (some ((⟨#[]⟩ : ByteArray), (⟨#[]⟩ : ByteArray), 2)) else (if 0 ≤ a1 then (if a1 ≤ (a0.size : Int) then (some (a0.extract 0 (a1 : Int).toNat, a0.extract (a1 : Int).toNat a0.size, 0)) else (none)) else (none)))
set_option maxHeartbeats 80000000 in
set_option maxRecDepth 100000 in
theorem octet_Cut.calls (a0 : ByteArray) (a1 : Int) (r1 : ByteArray) (r2 : ByteArray) (r3 : Int) (w : World) (h : octet_Cut.f a0 a1 = some (r1, r2, r3)) :
    Calls Try.prog 51 #[.string a0, .int .i64 a1] w fun e w' => e = .returned (.tuple #[.string r1, .string r2, .int .i64 r3]) ∧ Drawn0 w w' := by
 have H : (if a1 < 0 then (some ((⟨#[]⟩ : ByteArray), (⟨#[]⟩ : ByteArray), 1)) else (if (a0.size : Int) < a1 then (some ((⟨#[]⟩ : ByteArray), (⟨#[]⟩ : ByteArray), 2)) else (if 0 ≤ a1 then (if a1 ≤ (a0.size : Int) then (some (a0.extract 0 (a1 : Int).toNat, a0.extract (a1 : Int).toNat a0.size, 0)) else (none)) else (none)))) = some (r1, r2, r3) := h; clear h
 by_cases c3 : a1 < 0
 ·rw [if_pos c3] at H; have aA : decide (a1 < 0) = true := decide_eq_true c3; clear c3; simp only [Option.some.injEq, Prod.mk.injEq] at H; obtain ⟨rfl, rfl, rfl⟩ := H
  go_enter Try.func51, Try.ntmps51
  go_wp2
  repeat (go_quiet (fail); try go_wp2)
  go_ret3
  exact ⟨by first | rfl | (simp; done) | (simp [*]; done), by repeat (first | exact Drawn0.refl _ | apply Drawn0.step)⟩
 ·rw [if_neg c3] at H; have aA : decide (a1 < 0) = false := decide_eq_false c3; clear c3
  by_cases c4 : (a0.size : Int) < a1
  ·rw [if_pos c4] at H; have aB : decide ((a0.size : Int) < a1) = true := decide_eq_true c4; clear c4; simp only [Option.some.injEq, Prod.mk.injEq] at H; obtain ⟨rfl, rfl, rfl⟩ := H
   go_enter Try.func51, Try.ntmps51
   go_wp2
   repeat (go_quiet (fail); try go_wp2)
   go_ret3
   exact ⟨by first | rfl | (simp; done) | (simp [*]; done), by repeat (first | exact Drawn0.refl _ | apply Drawn0.step)⟩
  ·rw [if_neg c4] at H; have aB : decide ((a0.size : Int) < a1) = false := decide_eq_false c4; clear c4
   by_cases c5 : 0 ≤ a1
   ·rw [if_pos c5] at H; have aC := eq_true c5; have aD : decide (0 ≤ a1) = true := decide_eq_true c5; clear c5
    by_cases c6 : a1 ≤ (a0.size : Int)
    ·rw [if_pos c6] at H; have aE := eq_true c6; have aF : decide (a1 ≤ (a0.size : Int)) = true := decide_eq_true c6; clear c6; have aG := eq_true (of_decide_eq_true (by first | (with_reducible assumption) | assumption) : 0 ≤ a1); have aH := eq_true (of_decide_eq_true (by first | (with_reducible assumption) | assumption) : a1 ≤ (a0.size : Int)); simp only [Option.some.injEq, Prod.mk.injEq] at H; obtain ⟨rfl, rfl, rfl⟩ := H
     go_enter Try.func51, Try.ntmps51
     go_wp2
     repeat (go_quiet (fail); try go_wp2)
     go_ret3
     exact ⟨by first | rfl | (simp; done) | (simp [*]; done), by repeat (first | exact Drawn0.refl _ | apply Drawn0.step)⟩
    ·rw [if_neg c6] at H; exact absurd H (by simp)
   ·rw [if_neg c5] at H; exact absurd H (by simp)

/-! ### octet_Take: function 50 -/
mutual
def octet_Take.j0 : Nat → ByteArray → Int → Bool → Option (Int × ByteArray × Int)
  | 0, _, _, _ => none
  | k + 1, x0, x1, x17 => if x17 = true then (some (0, (⟨#[]⟩ : ByteArray), 1)) else ((octet_Cut.f x0 x1).bind fun bt313 => (if bt313.2.2 = 0 then (octet_Take.l0 k bt313.1 bt313.2.1 0 (bt313.1.size : Int) 0) else (some (0, (⟨#[]⟩ : ByteArray), bt313.2.2))))
def octet_Take.l0 : Nat → ByteArray → ByteArray → Int → Int → Int → Option (Int × ByteArray × Int)
  | 0, _, _, _, _, _ => none
  | k + 1, x7, x8, x10, x29, x30 => if x30 < x29 then (if 0 ≤ x30 then (if x30 < (x7.size : Int) then (octet_Take.l0 k x7 x8 (Go.bits .or .i64 (wrap64 (x10 * 256)) (wrap64 (bt x7 x30))) x29 (wrap64 (x30 + 1))) else (none)) else (none)) else (some (x10, x8, 0))
end
def octet_Take.f (k : Nat) (a0 : ByteArray) (a1 : Int) : Option (Int × ByteArray × Int) := if a1 < 1 then (octet_Take.j0 k a0 a1 true) else (octet_Take.j0 k a0 a1 (decide (a1 > 7)))
theorem octet_Take.mono_l : ∀ k, (∀ y0 y1 y2, LeO (octet_Take.j0 k y0 y1 y2) (octet_Take.j0 (k + 1) y0 y1 y2)) ∧ (∀ y0 y1 y2 y3 y4, LeO (octet_Take.l0 k y0 y1 y2 y3 y4) (octet_Take.l0 (k + 1) y0 y1 y2 y3 y4))
  | 0 => ⟨fun _ _ _ r h => by simp [octet_Take.j0] at h, fun _ _ _ _ _ r h => by simp [octet_Take.l0] at h⟩
  | k + 1 => by
    obtain ⟨ih0, ih1⟩ := octet_Take.mono_l k
    refine ⟨?_, ?_⟩
    · intro y0 y1 y2
      unfold octet_Take.j0
      repeat' first
      | (with_reducible exact ih0 _ _ _)
      | (with_reducible exact ih1 _ _ _ _ _)
      | (with_reducible exact LeO.refl _)
      | (with_reducible exact LeO.none _)
      | (with_reducible refine LeO.ite ?_ ?_)
      | (with_reducible refine LeO.bind ?_ (fun _ => ?_))
      | exact ih0 _ _ _
      | exact ih1 _ _ _ _ _
      | exact LeO.none _
      | refine LeO.ite ?_ ?_
      | refine LeO.bind ?_ (fun _ => ?_)
    · intro y0 y1 y2 y3 y4
      unfold octet_Take.l0
      repeat' first
      | (with_reducible exact ih0 _ _ _)
      | (with_reducible exact ih1 _ _ _ _ _)
      | (with_reducible exact LeO.refl _)
      | (with_reducible exact LeO.none _)
      | (with_reducible refine LeO.ite ?_ ?_)
      | (with_reducible refine LeO.bind ?_ (fun _ => ?_))
      | exact ih0 _ _ _
      | exact ih1 _ _ _ _ _
      | exact LeO.none _
      | refine LeO.ite ?_ ?_
      | refine LeO.bind ?_ (fun _ => ?_)
theorem octet_Take.mono : ∀ a0 a1 k, LeO (octet_Take.f k a0 a1) (octet_Take.f (k + 1) a0 a1) := by
  intro a0 a1 k
  obtain ⟨ih0, ih1⟩ := octet_Take.mono_l k
  unfold octet_Take.f
  repeat' first
      | (with_reducible exact ih0 _ _ _)
      | (with_reducible exact ih1 _ _ _ _ _)
      | (with_reducible exact LeO.refl _)
      | (with_reducible exact LeO.none _)
      | (with_reducible refine LeO.ite ?_ ?_)
      | (with_reducible refine LeO.bind ?_ (fun _ => ?_))
      | exact ih0 _ _ _
      | exact ih1 _ _ _ _ _
      | exact LeO.none _
      | refine LeO.ite ?_ ?_
      | refine LeO.bind ?_ (fun _ => ?_)
set_option maxHeartbeats 80000000 in
set_option maxRecDepth 100000 in
theorem octet_Take.calls (k : Nat) (a0 : ByteArray) (a1 : Int) (r1 : Int) (r2 : ByteArray) (r3 : Int) (w : World) (h : octet_Take.f k a0 a1 = some (r1, r2, r3)) :
    Calls Try.prog 50 #[.string a0, .int .i64 a1] w fun e w' => e = .returned (.tuple #[.int .i64 r1, .string r2, .int .i64 r3]) ∧ Drawn0 w w' := by
 have H : (if a1 < 1 then (octet_Take.j0 k a0 a1 true) else (octet_Take.j0 k a0 a1 (decide (a1 > 7)))) = some (r1, r2, r3) := h; clear h; have HC3 := mk_ H; clear H
 go_enter Try.func50, Try.ntmps50
 go_upto_region 1 with (fail)
 go_cut [17] (fun aO wc => ∃ (kq : Nat) (aE : Bool), aO = .bool aE ∧ Aside0 (octet_Take.j0 kq a0 a1 aE = some (r1, r2, r3)) ∧ Aside0 (kq ≤ k) ∧ Drawn0 w wc)
 case first =>
  have H := HC3.out; clear HC3
  by_cases c4 : a1 < 1
  ·rw [if_pos c4] at H; have aD : decide (a1 < 1) = true := decide_eq_true c4; clear c4
   (first | rw [aD] | (simp only [i64_w, i32_w]; rw [aD]) | skip)
   have H' := mk_ H; clear H
   go_wp2
   go_meet
   case rel => exact ⟨_, (true), (by first | rfl | (simp; done) | (simp [*]; done)), H', ⟨by first | omega | exact Nat.le_refl _⟩, by repeat (first | exact Drawn0.refl _ | apply Drawn0.step)⟩
  ·rw [if_neg c4] at H; have aD : decide (a1 < 1) = false := decide_eq_false c4; clear c4
   (first | rw [aD] | (simp only [i64_w, i32_w]; rw [aD]) | skip)
   have H' := mk_ H; clear H
   go_wp2
   go_meet
   case rel => exact ⟨_, (decide (a1 > 7)), (by first | rfl | (simp; done) | (simp [*]; done)), H', ⟨by first | omega | exact Nat.le_refl _⟩, by repeat (first | exact Drawn0.refl _ | apply Drawn0.step)⟩
 case rest =>
  clear HC3; (try clear p2); (try clear c4); (try clear aD); obtain ⟨kq, aE, rfl, HA, HJ2, ⟨mc2, rfl⟩⟩ := hcut
  cases kq with
  | zero => exact absurd HA.out (by simp [octet_Take.j0])
  | succ aF =>
   have H := HA.out; clear HA; simp only [octet_Take.j0] at H
   by_cases c5 : aE = true
   ·subst c5
    have H1 : (some (0, (⟨#[]⟩ : ByteArray), 1)) = some (r1, r2, r3) := by rw [if_pos rfl] at H; exact H
    clear H; have H := H1; clear H1; simp only [Option.some.injEq, Prod.mk.injEq] at H; obtain ⟨rfl, rfl, rfl⟩ := H
    go_wp2
    go_ret3
    exact ⟨by first | rfl | (simp; done) | (simp [*]; done), by repeat (first | exact Drawn0.refl _ | apply Drawn0.step)⟩
   ·replace c5 := Bool.eq_false_iff.mpr c5; subst c5
    have H1 : ((octet_Cut.f a0 a1).bind fun bt313 => (if bt313.2.2 = 0 then (octet_Take.l0 aF bt313.1 bt313.2.1 0 (bt313.1.size : Int) 0) else (some (0, (⟨#[]⟩ : ByteArray), bt313.2.2)))) = some (r1, r2, r3) := by rw [if_neg (show ¬ (false = true) by decide)] at H; exact H
    clear H; have H := H1; clear H1; replace H := Option.bind_eq_some_iff.mp H; obtain ⟨⟨aB, aG, aC⟩, aJ, H⟩ := H; replace H : (if aC = 0 then (octet_Take.l0 aF aB aG 0 (aB.size : Int) 0) else (some (0, (⟨#[]⟩ : ByteArray), aC))) = some (r1, r2, r3) := H; have A6 := mk_ aJ; clear aJ
    by_cases c7 : aC = 0
    ·rw [if_pos c7] at H; have aK : (aC == 0) = true := beq_iff_eq.mpr c7; have aL : (aC != 0) = false := bne_eq_false_iff_eq.mpr c7; clear c7; have H' := mk_ H; clear H
     go_wp2_with (first | ((with_reducible refine gate_callee (f := 51) rfl ?_); refine goesL_ (some 21) rfl rfl Try.func51 (by kernel_rfl) rfl #[.string a0, .int .i64 a1] rfl (by (try simp only [List.map_toArray, List.map_cons, List.map_nil]); first | done | rfl | (simp only [List.length_drop, List.length_take]; rfl)) ?_; (with_reducible refine (octet_Cut.calls a0 a1 aB aG aC _ A6.out).mono ?_); rintro e w' ⟨rfl, ⟨nd, rfl⟩⟩; refine ⟨_, rfl, ?_⟩))
     go_loopg [10, 30] aF (fun kq aP aQ w' => ∃ (aH : Int) (aA : Int), aP = .int .i64 aH ∧ aQ = .int .i64 aA ∧ Aside0 (octet_Take.l0 kq aB aG aH (aB.size : Int) aA = some (r1, r2, r3)) ∧ Aside0 (kq ≤ aF) ∧ Drawn0 w w')
     case atStart => exact ⟨(0), (0), (by first | rfl | (simp; done) | (simp [*]; done)), (by first | rfl | (simp; done) | (simp [*]; done)), H', ⟨Nat.le_refl _⟩, by repeat (first | exact Drawn0.refl _ | apply Drawn0.step)⟩
     case round =>
      clear H'; (try clear c2); (try clear p2); (try clear c4); (try clear aD); (try clear c5); (try clear c7); (try clear aK); (try clear aL); (try clear p2); obtain ⟨aH, aA, rfl, rfl, HA, HK2, ⟨m2, rfl⟩⟩ := hrel
      cases gk with
      | zero => exact absurd HA.out (by simp [octet_Take.l0])
      | succ k2 =>
       have H := HA.out; clear HA; simp only [octet_Take.l0] at H
       by_cases c8 : aA < (aB.size : Int)
       ·rw [if_pos c8] at H; have aR : decide (aA < (aB.size : Int)) = true := decide_eq_true c8; clear c8
        by_cases c9 : 0 ≤ aA
        ·rw [if_pos c9] at H; have aS : decide (0 ≤ aA) = true := decide_eq_true c9; clear c9
         by_cases aI : aA < (aB.size : Int)
         ·rw [if_pos aI] at H; have aT : decide (aA < (aB.size : Int)) = true := decide_eq_true aI; clear aI; have H' := mk_ H; clear H; have aM : 0 ≤ (aA : Int) := of_decide_eq_true (by first | (with_reducible assumption) | assumption); have aN : aA < (aB.size : Int) := of_decide_eq_true (by first | (with_reducible assumption) | assumption); have hx11 := bt_at aB aA; replace aM := eq_true aM; replace aN := eq_true aN
          go_wp2
          go_roundg k2
          case measure => have := HJ2.out; have := HK2.out; omega
          case rel => exact ⟨(Go.bits .or .i64 (wrap64 (aH * 256)) (wrap64 (bt aB aA))), (wrap64 (aA + 1)), (by first | rfl | (simp; done) | (simp [*]; done)), (by first | rfl | (simp; done) | (simp [*]; done)), H', ⟨by have := HJ2.out; have := HK2.out; omega⟩, by repeat (first | exact Drawn0.refl _ | apply Drawn0.step)⟩
         ·rw [if_neg aI] at H; exact absurd H (by simp)
        ·rw [if_neg c9] at H; exact absurd H (by simp)
       ·rw [if_neg c8] at H; have aR : decide (aA < (aB.size : Int)) = false := decide_eq_false c8; clear c8; simp only [Option.some.injEq, Prod.mk.injEq] at H; obtain ⟨rfl, rfl, rfl⟩ := H
        go_wp2
        go_ret3
        exact ⟨by first | rfl | (simp; done) | (simp [*]; done), by repeat (first | exact Drawn0.refl _ | apply Drawn0.step)⟩
    ·rw [if_neg c7] at H; have aK : (aC == 0) = false := beq_eq_false_iff_ne.mpr c7; have aL : (aC != 0) = true := bne_iff_ne.mpr c7; simp only [Option.some.injEq, Prod.mk.injEq] at H; obtain ⟨rfl, rfl, rfl⟩ := H
     go_wp2_with (first | ((with_reducible refine gate_callee (f := 51) rfl ?_); refine goesL_ (some 21) rfl rfl Try.func51 (by kernel_rfl) rfl #[.string a0, .int .i64 a1] rfl (by (try simp only [List.map_toArray, List.map_cons, List.map_nil]); first | done | rfl | (simp only [List.length_drop, List.length_take]; rfl)) ?_; (with_reducible refine (octet_Cut.calls a0 a1 aB aG aC _ A6.out).mono ?_); rintro e w' ⟨rfl, ⟨nd, rfl⟩⟩; refine ⟨_, rfl, ?_⟩))
     go_ret3
     exact ⟨by first | rfl | (simp; done) | (simp [*]; done), by repeat (first | exact Drawn0.refl _ | apply Drawn0.step)⟩

/-! ### ipfix_reader_num: function 35 -/
def ipfix_reader_num.f (k : Nat) (s0_0 : ByteArray) (s0_1 : Bool) (a1 : Int) : Option (Int × ByteArray × Bool) := (octet_Take.f k s0_0 a1).bind fun bt316 => (if bt316.2.2 = 0 then (some (bt316.1, bt316.2.1, s0_1)) else (some (0, (⟨#[]⟩ : ByteArray), true)))
theorem ipfix_reader_num.mono : ∀ a0 a1 a2 k, LeO (ipfix_reader_num.f k a0 a1 a2) (ipfix_reader_num.f (k + 1) a0 a1 a2) := by
  intro a0 a1 a2 k
  unfold ipfix_reader_num.f
  repeat' first
      | (with_reducible exact octet_Take.mono _ _ _)
      | (with_reducible exact LeO.refl _)
      | (with_reducible exact LeO.none _)
      | (with_reducible refine LeO.ite ?_ ?_)
      | (with_reducible refine LeO.bind ?_ (fun _ => ?_))
      | exact octet_Take.mono _ _ _
      | exact LeO.none _
      | refine LeO.ite ?_ ?_
      | refine LeO.bind ?_ (fun _ => ?_)
set_option maxHeartbeats 80000000 in
set_option maxRecDepth 100000 in
theorem ipfix_reader_num.calls (k : Nat) (g : Nat) (s0_0 : ByteArray) (s0_1 : Bool) (a1 : Int) (r1 : Int) (r2 : ByteArray) (r3 : Bool) (w0 w : World) (hI : IsS85 w0 w g s0_0 s0_1) (hB : Below w0.heap.size w0 w) (h : ipfix_reader_num.f k s0_0 s0_1 a1 = some (r1, r2, r3)) :
    Calls Try.prog 35 #[.pointer (some ⟨g, 0, none⟩), .int .i64 a1] w fun e w' => e = .returned (.int .i64 r1) ∧ IsS85 w0 w' g r2 r3 ∧ Below w0.heap.size w0 w' ∧ KeepBut w w' g none := by
 have HI0 := mk_ hI; have HK := mk_ (KeepBut.refl w g none); have HL := mk_ hB.size; clear hI; have HW0 := mk_ hB.size; have HB := mk_ hB; clear hB; have H : ((octet_Take.f k s0_0 a1).bind fun bt316 => (if bt316.2.2 = 0 then (some (bt316.1, bt316.2.1, s0_1)) else (some (0, (⟨#[]⟩ : ByteArray), true)))) = some (r1, r2, r3) := h; clear h; replace H := Option.bind_eq_some_iff.mp H; obtain ⟨⟨aB, aC, aA⟩, aD, H⟩ := H; replace H : (if aA = 0 then (some (aB, aC, s0_1)) else (some (0, (⟨#[]⟩ : ByteArray), true))) = some (r1, r2, r3) := H; have A3 := mk_ aD; clear aD
 by_cases c4 : aA = 0
 ·rw [if_pos c4] at H; have aE : (aA == 0) = true := beq_iff_eq.mpr c4; have aF : (aA != 0) = false := bne_eq_false_iff_eq.mpr c4; clear c4; simp only [Option.some.injEq, Prod.mk.injEq] at H; obtain ⟨rfl, rfl, rfl⟩ := H; obtain ⟨HGz5, hgz5⟩ := HI0.out; have aG := cellS85_0 HGz5; have aH := cellS85_1 HGz5; have aI := blk_frozen HGz5 0; have aJ := blk_frozen HGz5 1; clear HGz5 hgz5
  go_enter Try.func35, Try.ntmps35
  go_wp2_with (first | ((with_reducible refine gate_callee (f := 50) rfl ?_); refine goesL_ (some 14) rfl rfl Try.func50 (by kernel_rfl) rfl #[.string s0_0, .int .i64 a1] rfl (by (try simp only [List.map_toArray, List.map_cons, List.map_nil]); first | done | rfl | (simp only [List.length_drop, List.length_take]; rfl)) ?_; (with_reducible refine (octet_Take.calls k s0_0 a1 aB aC aA _ A3.out).mono ?_); rintro e w' ⟨rfl, ⟨nd, rfl⟩⟩; refine ⟨_, rfl, ?_⟩; (try (rw [drewN_self w]; generalize hq_ : World.drewN w _ = wd_; have n0_ : Aside0 (IsS85 w0 wd_ g s0_0 s0_1) := ⟨by rw [← hq_]; exact (by repeat (first | (with_reducible first | exact HI0.out | apply IsS85.alloc | apply IsS85.drewN | apply IsS85.drew | apply IsS85.set_0 | apply IsS85.set_1) | exact HI0.out))⟩; have n1_ : Aside0 (KeepBut w wd_ g none) := ⟨by rw [← hq_]; exact (by repeat (first | (with_reducible first | exact HK.out | apply KeepBut.set_ | apply keep_drewN | apply keep_drew | apply keep_alloc) | exact HK.out))⟩; have n2_ : Aside0 (Below w0.heap.size w0 wd_) := ⟨by rw [← hq_]; exact (by repeat (first | (with_reducible first | exact HB.out | apply below_alloc | apply pw_below_drewN | apply below_drew1 | refine below_set ?_ (IsS85.ge HI0.out)) | exact HB.out))⟩; clear HI0 HK HB hq_; have HI0 := n0_; have HK := n1_; have HB := n2_; clear n0_ n1_ n2_; obtain ⟨HGy_, hgy_⟩ := HI0.out; have hcy_0 := cellS85_0 HGy_; have hcy_1 := cellS85_1 HGy_; have hfy_0 := blk_frozen HGy_ 0; have hfy_1 := blk_frozen HGy_ 1; clear HGy_ hgy_))))
  go_ret; exact ⟨by first | rfl | (simp [errW_none, errW_some] <;> rfl) | (simp [*, errW_none, errW_some] <;> rfl), by repeat (first | (with_reducible first | exact HI0.out | apply IsS85.alloc | apply IsS85.drewN | apply IsS85.drew | apply IsS85.set_0 | apply IsS85.set_1) | exact HI0.out), by repeat (first | (with_reducible first | exact HB.out | apply below_alloc | apply pw_below_drewN | apply below_drew1 | refine below_set ?_ (IsS85.ge HI0.out)) | exact HB.out), by repeat (first | (with_reducible first | exact HK.out | apply KeepBut.set_ | apply keep_drewN | apply keep_drew | apply keep_alloc) | exact HK.out)⟩
 ·rw [if_neg c4] at H; have aE : (aA == 0) = false := beq_eq_false_iff_ne.mpr c4; have aF : (aA != 0) = true := bne_iff_ne.mpr c4; simp only [Option.some.injEq, Prod.mk.injEq] at H; obtain ⟨rfl, rfl, rfl⟩ := H; obtain ⟨HGz6, hgz6⟩ := HI0.out; have aK := cellS85_0 HGz6; have aL := cellS85_1 HGz6; have aM := blk_frozen HGz6 0; have aN := blk_frozen HGz6 1; clear HGz6 hgz6
  go_enter Try.func35, Try.ntmps35
  go_wp2_with (first | ((with_reducible refine gate_callee (f := 50) rfl ?_); refine goesL_ (some 14) rfl rfl Try.func50 (by kernel_rfl) rfl #[.string s0_0, .int .i64 a1] rfl (by (try simp only [List.map_toArray, List.map_cons, List.map_nil]); first | done | rfl | (simp only [List.length_drop, List.length_take]; rfl)) ?_; (with_reducible refine (octet_Take.calls k s0_0 a1 aB aC aA _ A3.out).mono ?_); rintro e w' ⟨rfl, ⟨nd, rfl⟩⟩; refine ⟨_, rfl, ?_⟩; (try (rw [drewN_self w]; generalize hq_ : World.drewN w _ = wd_; have n0_ : Aside0 (IsS85 w0 wd_ g s0_0 s0_1) := ⟨by rw [← hq_]; exact (by repeat (first | (with_reducible first | exact HI0.out | apply IsS85.alloc | apply IsS85.drewN | apply IsS85.drew | apply IsS85.set_0 | apply IsS85.set_1) | exact HI0.out))⟩; have n1_ : Aside0 (KeepBut w wd_ g none) := ⟨by rw [← hq_]; exact (by repeat (first | (with_reducible first | exact HK.out | apply KeepBut.set_ | apply keep_drewN | apply keep_drew | apply keep_alloc) | exact HK.out))⟩; have n2_ : Aside0 (Below w0.heap.size w0 wd_) := ⟨by rw [← hq_]; exact (by repeat (first | (with_reducible first | exact HB.out | apply below_alloc | apply pw_below_drewN | apply below_drew1 | refine below_set ?_ (IsS85.ge HI0.out)) | exact HB.out))⟩; clear HI0 HK HB hq_; have HI0 := n0_; have HK := n1_; have HB := n2_; clear n0_ n1_ n2_; obtain ⟨HGy_, hgy_⟩ := HI0.out; have hcy_0 := cellS85_0 HGy_; have hcy_1 := cellS85_1 HGy_; have hfy_0 := blk_frozen HGy_ 0; have hfy_1 := blk_frozen HGy_ 1; clear HGy_ hgy_))))
  go_ret; exact ⟨by first | rfl | (simp [errW_none, errW_some] <;> rfl) | (simp [*, errW_none, errW_some] <;> rfl), by repeat (first | (with_reducible first | exact HI0.out | apply IsS85.alloc | apply IsS85.drewN | apply IsS85.drew | apply IsS85.set_0 | apply IsS85.set_1) | exact HI0.out), by repeat (first | (with_reducible first | exact HB.out | apply below_alloc | apply pw_below_drewN | apply below_drew1 | refine below_set ?_ (IsS85.ge HI0.out)) | exact HB.out), by repeat (first | (with_reducible first | exact HK.out | apply KeepBut.set_ | apply keep_drewN | apply keep_drew | apply keep_alloc) | exact HK.out)⟩

/-! ### ipfix_reader_text: function 36 -/
def ipfix_reader_text.f (s0_0 : ByteArray) (s0_1 : Bool) (a1 : Int) : Option (ByteArray × ByteArray × Bool) := (octet_Cut.f s0_0 a1).bind fun bt319 => (if bt319.2.2 = 0 then (some (bt319.1, bt319.2.1, s0_1)) else (some ((⟨#[]⟩ : ByteArray), (⟨#[]⟩ : ByteArray), true)))
set_option maxHeartbeats 80000000 in
set_option maxRecDepth 100000 in
theorem ipfix_reader_text.calls (g : Nat) (s0_0 : ByteArray) (s0_1 : Bool) (a1 : Int) (r1 : ByteArray) (r2 : ByteArray) (r3 : Bool) (w0 w : World) (hI : IsS85 w0 w g s0_0 s0_1) (hB : Below w0.heap.size w0 w) (h : ipfix_reader_text.f s0_0 s0_1 a1 = some (r1, r2, r3)) :
    Calls Try.prog 36 #[.pointer (some ⟨g, 0, none⟩), .int .i64 a1] w fun e w' => e = .returned (.string r1) ∧ IsS85 w0 w' g r2 r3 ∧ Below w0.heap.size w0 w' ∧ KeepBut w w' g none := by
 have HI0 := mk_ hI; have HK := mk_ (KeepBut.refl w g none); have HL := mk_ hB.size; clear hI; have HW0 := mk_ hB.size; have HB := mk_ hB; clear hB; have H : ((octet_Cut.f s0_0 a1).bind fun bt319 => (if bt319.2.2 = 0 then (some (bt319.1, bt319.2.1, s0_1)) else (some ((⟨#[]⟩ : ByteArray), (⟨#[]⟩ : ByteArray), true)))) = some (r1, r2, r3) := h; clear h; replace H := Option.bind_eq_some_iff.mp H; obtain ⟨⟨aB, aC, aA⟩, aD, H⟩ := H; replace H : (if aA = 0 then (some (aB, aC, s0_1)) else (some ((⟨#[]⟩ : ByteArray), (⟨#[]⟩ : ByteArray), true))) = some (r1, r2, r3) := H; have A3 := mk_ aD; clear aD
 by_cases c4 : aA = 0
 ·rw [if_pos c4] at H; have aE : (aA == 0) = true := beq_iff_eq.mpr c4; have aF : (aA != 0) = false := bne_eq_false_iff_eq.mpr c4; clear c4; simp only [Option.some.injEq, Prod.mk.injEq] at H; obtain ⟨rfl, rfl, rfl⟩ := H; obtain ⟨HGz5, hgz5⟩ := HI0.out; have aG := cellS85_0 HGz5; have aH := cellS85_1 HGz5; have aI := blk_frozen HGz5 0; have aJ := blk_frozen HGz5 1; clear HGz5 hgz5
  go_enter Try.func36, Try.ntmps36
  go_wp2_with (first | ((with_reducible refine gate_callee (f := 51) rfl ?_); refine goesL_ (some 14) rfl rfl Try.func51 (by kernel_rfl) rfl #[.string s0_0, .int .i64 a1] rfl (by (try simp only [List.map_toArray, List.map_cons, List.map_nil]); first | done | rfl | (simp only [List.length_drop, List.length_take]; rfl)) ?_; (with_reducible refine (octet_Cut.calls s0_0 a1 aB aC aA _ A3.out).mono ?_); rintro e w' ⟨rfl, ⟨nd, rfl⟩⟩; refine ⟨_, rfl, ?_⟩; (try (rw [drewN_self w]; generalize hq_ : World.drewN w _ = wd_; have n0_ : Aside0 (IsS85 w0 wd_ g s0_0 s0_1) := ⟨by rw [← hq_]; exact (by repeat (first | (with_reducible first | exact HI0.out | apply IsS85.alloc | apply IsS85.drewN | apply IsS85.drew | apply IsS85.set_0 | apply IsS85.set_1) | exact HI0.out))⟩; have n1_ : Aside0 (KeepBut w wd_ g none) := ⟨by rw [← hq_]; exact (by repeat (first | (with_reducible first | exact HK.out | apply KeepBut.set_ | apply keep_drewN | apply keep_drew | apply keep_alloc) | exact HK.out))⟩; have n2_ : Aside0 (Below w0.heap.size w0 wd_) := ⟨by rw [← hq_]; exact (by repeat (first | (with_reducible first | exact HB.out | apply below_alloc | apply pw_below_drewN | apply below_drew1 | refine below_set ?_ (IsS85.ge HI0.out)) | exact HB.out))⟩; clear HI0 HK HB hq_; have HI0 := n0_; have HK := n1_; have HB := n2_; clear n0_ n1_ n2_; obtain ⟨HGy_, hgy_⟩ := HI0.out; have hcy_0 := cellS85_0 HGy_; have hcy_1 := cellS85_1 HGy_; have hfy_0 := blk_frozen HGy_ 0; have hfy_1 := blk_frozen HGy_ 1; clear HGy_ hgy_))))
  go_ret; exact ⟨by first | rfl | (simp [errW_none, errW_some] <;> rfl) | (simp [*, errW_none, errW_some] <;> rfl), by repeat (first | (with_reducible first | exact HI0.out | apply IsS85.alloc | apply IsS85.drewN | apply IsS85.drew | apply IsS85.set_0 | apply IsS85.set_1) | exact HI0.out), by repeat (first | (with_reducible first | exact HB.out | apply below_alloc | apply pw_below_drewN | apply below_drew1 | refine below_set ?_ (IsS85.ge HI0.out)) | exact HB.out), by repeat (first | (with_reducible first | exact HK.out | apply KeepBut.set_ | apply keep_drewN | apply keep_drew | apply keep_alloc) | exact HK.out)⟩
 ·rw [if_neg c4] at H; have aE : (aA == 0) = false := beq_eq_false_iff_ne.mpr c4; have aF : (aA != 0) = true := bne_iff_ne.mpr c4; simp only [Option.some.injEq, Prod.mk.injEq] at H; obtain ⟨rfl, rfl, rfl⟩ := H; obtain ⟨HGz6, hgz6⟩ := HI0.out; have aK := cellS85_0 HGz6; have aL := cellS85_1 HGz6; have aM := blk_frozen HGz6 0; have aN := blk_frozen HGz6 1; clear HGz6 hgz6
  go_enter Try.func36, Try.ntmps36
  go_wp2_with (first | ((with_reducible refine gate_callee (f := 51) rfl ?_); refine goesL_ (some 14) rfl rfl Try.func51 (by kernel_rfl) rfl #[.string s0_0, .int .i64 a1] rfl (by (try simp only [List.map_toArray, List.map_cons, List.map_nil]); first | done | rfl | (simp only [List.length_drop, List.length_take]; rfl)) ?_; (with_reducible refine (octet_Cut.calls s0_0 a1 aB aC aA _ A3.out).mono ?_); rintro e w' ⟨rfl, ⟨nd, rfl⟩⟩; refine ⟨_, rfl, ?_⟩; (try (rw [drewN_self w]; generalize hq_ : World.drewN w _ = wd_; have n0_ : Aside0 (IsS85 w0 wd_ g s0_0 s0_1) := ⟨by rw [← hq_]; exact (by repeat (first | (with_reducible first | exact HI0.out | apply IsS85.alloc | apply IsS85.drewN | apply IsS85.drew | apply IsS85.set_0 | apply IsS85.set_1) | exact HI0.out))⟩; have n1_ : Aside0 (KeepBut w wd_ g none) := ⟨by rw [← hq_]; exact (by repeat (first | (with_reducible first | exact HK.out | apply KeepBut.set_ | apply keep_drewN | apply keep_drew | apply keep_alloc) | exact HK.out))⟩; have n2_ : Aside0 (Below w0.heap.size w0 wd_) := ⟨by rw [← hq_]; exact (by repeat (first | (with_reducible first | exact HB.out | apply below_alloc | apply pw_below_drewN | apply below_drew1 | refine below_set ?_ (IsS85.ge HI0.out)) | exact HB.out))⟩; clear HI0 HK HB hq_; have HI0 := n0_; have HK := n1_; have HB := n2_; clear n0_ n1_ n2_; obtain ⟨HGy_, hgy_⟩ := HI0.out; have hcy_0 := cellS85_0 HGy_; have hcy_1 := cellS85_1 HGy_; have hfy_0 := blk_frozen HGy_ 0; have hfy_1 := blk_frozen HGy_ 1; clear HGy_ hgy_))))
  go_ret; exact ⟨by first | rfl | (simp [errW_none, errW_some] <;> rfl) | (simp [*, errW_none, errW_some] <;> rfl), by repeat (first | (with_reducible first | exact HI0.out | apply IsS85.alloc | apply IsS85.drewN | apply IsS85.drew | apply IsS85.set_0 | apply IsS85.set_1) | exact HI0.out), by repeat (first | (with_reducible first | exact HB.out | apply below_alloc | apply pw_below_drewN | apply below_drew1 | refine below_set ?_ (IsS85.ge HI0.out)) | exact HB.out), by repeat (first | (with_reducible first | exact HK.out | apply KeepBut.set_ | apply keep_drewN | apply keep_drew | apply keep_alloc) | exact HK.out)⟩

end Go.Proofs.Ytojmpdjbhplgkaa.PIpfixPuts
