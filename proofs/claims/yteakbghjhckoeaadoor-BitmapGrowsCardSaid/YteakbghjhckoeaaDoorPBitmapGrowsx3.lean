/- The functions that a law uses, each as a plain function, with the proof that a call of the Go function comes to its answer. Condition of each: the arguments read as the data that it names, and the plain function has an answer. Written by a program of this session (standin.py). -/
import Derived.Test.YteakbghjhckoeaaDoorPBitmapGrowsx0
import Derived.Test.YteakbghjhckoeaaDoorPBitmapGrowsx2
import Derived.Test.YteakbghjhckoeaaDoorShort
import Derived.Laws.Bits64b
import Derived.Lib.SliceRun
import Derived.Shelf.Abstract
import Derived.Test.YteakbghjhckoeaaDoorTabs
import Derived.WalkKit
import Derived.Test.YteakbghjhckoeaaDoorTabs
import Derived.Test.YteakbghjhckoeaaDoorPress
namespace Go.Proofs.YteakbghjhckoeaaDoor.PBitmapGrows
open Go.RowKit Go.Proofs.YteakbghjhckoeaaDoorW.PrintWords Go.Proofs.YteakbghjhckoeaaDoorW.PrintLast Go.Proofs.YteakbghjhckoeaaDoorW.PrintMore Go.Proofs.YteakbghjhckoeaaDoor.Short Go.Proofs.YteakbghjhckoeaaDoor.Tabs Go.Proofs.YteakbghjhckoeaaDoor.Short Go.Proofs.YteakbghjhckoeaaDoor.Press
attribute [local go_sem] max2_int min2_int max_two min_two max_three min_three max_four min_four   -- for this text's walks alone
set_option linter.unusedVariables false
set_option linter.unusedSimpArgs false

/-! ### hash_Sum: function 35 -/
mutual
def hash_Sum.l0 : Nat → ByteArray → Int → Int → Int → Option (Int)
  | 0, _, _, _, _ => none
  | k + 1, x1, x5, x6, x7 => if x7 < (x1.size : Int) then (hash_Sum.l1 k x1 x5 x6 x7 0 0) else ((field_Mul.f x6 x5).bind fun t134 => ((field_Pow.f k t134 17).bind fun t135 => (some t135)))
def hash_Sum.l1 : Nat → ByteArray → Int → Int → Int → Int → Int → Option (Int)
  | 0, _, _, _, _, _, _ => none
  | k + 1, x1, x5, x6, x7, x8, x21 => if x21 < 4 then (if (wrap64 (x7 + x21)) < (x1.size : Int) then (if 0 ≤ (wrap64 (x7 + x21)) then (hash_Sum.l1 k x1 x5 x6 x7 (Go.bits .or .u64 (IntKind.u64.wrap (x8 * 256)) (IntKind.u64.wrap (bt x1 (wrap64 (x7 + x21))))) (wrap64 (x21 + 1))) else (none)) else (hash_Sum.l1 k x1 x5 x6 x7 (IntKind.u64.wrap (x8 * 256)) (wrap64 (x21 + 1)))) else ((field_Mul.f x6 x5).bind fun t136 => ((field_Add.f t136 (IntKind.u64.wrap (x8 + 1))).bind fun t137 => (hash_Sum.l0 k x1 x5 t137 (wrap64 (x7 + 4)))))
end
def hash_Sum.f (k : Nat) (a0 : Int) (a1 : ByteArray) : Option (Int) := (field_Add.f a0 2).bind fun t133 => (hash_Sum.l0 k a1 t133 (IntKind.u64.wrap ((a1.size : Int))) 0)
theorem hash_Sum.mono_l : ∀ k, (∀ y0 y1 y2 y3, LeO (hash_Sum.l0 k y0 y1 y2 y3) (hash_Sum.l0 (k + 1) y0 y1 y2 y3)) ∧ (∀ y0 y1 y2 y3 y4 y5, LeO (hash_Sum.l1 k y0 y1 y2 y3 y4 y5) (hash_Sum.l1 (k + 1) y0 y1 y2 y3 y4 y5))
  | 0 => ⟨fun _ _ _ _ r h => by simp [hash_Sum.l0] at h, fun _ _ _ _ _ _ r h => by simp [hash_Sum.l1] at h⟩
  | k + 1 => by
    obtain ⟨ih0, ih1⟩ := hash_Sum.mono_l k
    refine ⟨?_, ?_⟩
    · intro y0 y1 y2 y3
      unfold hash_Sum.l0
      repeat' first
      | (with_reducible exact ih0 _ _ _ _)
      | (with_reducible exact ih1 _ _ _ _ _ _)
      | (with_reducible exact field_Pow.mono _ _ _)
      | (with_reducible exact LeO.refl _)
      | (with_reducible exact LeO.none _)
      | (with_reducible refine LeO.ite ?_ ?_)
      | (with_reducible refine LeO.bind ?_ (fun _ => ?_))
      | exact ih0 _ _ _ _
      | exact ih1 _ _ _ _ _ _
      | exact field_Pow.mono _ _ _
      | exact LeO.none _
      | refine LeO.ite ?_ ?_
      | refine LeO.bind ?_ (fun _ => ?_)
    · intro y0 y1 y2 y3 y4 y5
      unfold hash_Sum.l1
      repeat' first
      | (with_reducible exact ih0 _ _ _ _)
      | (with_reducible exact ih1 _ _ _ _ _ _)
      | (with_reducible exact field_Pow.mono _ _ _)
      | (with_reducible exact LeO.refl _)
      | (with_reducible exact LeO.none _)
      | (with_reducible refine LeO.ite ?_ ?_)
      | (with_reducible refine LeO.bind ?_ (fun _ => ?_))
      | exact ih0 _ _ _ _
      | exact ih1 _ _ _ _ _ _
      | exact field_Pow.mono _ _ _
      | exact LeO.none _
      | refine LeO.ite ?_ ?_
      | refine LeO.bind ?_ (fun _ => ?_)
theorem hash_Sum.mono : ∀ a0 a1 k, LeO (hash_Sum.f k a0 a1) (hash_Sum.f (k + 1) a0 a1) := by
  intro a0 a1 k
  obtain ⟨ih0, ih1⟩ := hash_Sum.mono_l k
  unfold hash_Sum.f
  repeat' first
      | (with_reducible exact ih0 _ _ _ _)
      | (with_reducible exact ih1 _ _ _ _ _ _)
      | (with_reducible exact field_Pow.mono _ _ _)
      | (with_reducible exact LeO.refl _)
      | (with_reducible exact LeO.none _)
      | (with_reducible refine LeO.ite ?_ ?_)
      | (with_reducible refine LeO.bind ?_ (fun _ => ?_))
      | exact ih0 _ _ _ _
      | exact ih1 _ _ _ _ _ _
      | exact field_Pow.mono _ _ _
      | exact LeO.none _
      | refine LeO.ite ?_ ?_
      | refine LeO.bind ?_ (fun _ => ?_)
set_option maxHeartbeats 80000000 in
set_option maxRecDepth 100000 in
theorem hash_Sum.calls (k : Nat) (a0 : Int) (a1 : ByteArray) (r : Int) (w : World) (h : hash_Sum.f k a0 a1 = some r) :
    Calls Tryd.prog 35 #[.int .u64 a0, .string a1] w fun e w' => e = .returned (.int .u64 r) ∧ Drawn0 w w' := by
 have H : ((field_Add.f a0 2).bind fun t133 => (hash_Sum.l0 k a1 t133 (IntKind.u64.wrap ((a1.size : Int))) 0)) = some r := h; clear h; replace H := Option.bind_eq_some_iff.mp H; obtain ⟨t133, A30, H⟩ := H; replace H : (hash_Sum.l0 k a1 t133 (IntKind.u64.wrap ((a1.size : Int))) 0) = some r := H; have A3 := Aside0.mk A30; clear A30; have H' := Aside0.mk H; clear H
 go_enter Tryd.func35, Tryd.ntmps35
 go_wp2_with (first | ((with_reducible refine gate_callee (f := 37) rfl ?_); refine goesL_ (some 11) rfl rfl Tryd.func37 (by kernel_rfl) rfl #[.int .u64 a0, .int .u64 2] rfl (by (try simp only [List.map_toArray, List.map_cons, List.map_nil]); first | done | rfl | (simp only [List.length_drop, List.length_take]; rfl)) ?_; (with_reducible refine (field_Add.calls a0 2 t133 _ A3.out).mono ?_); rintro e w' ⟨rfl, ⟨nd, rfl⟩⟩; refine ⟨_, rfl, ?_⟩))
 go_loopg [6, 7] k (fun kq v6 v7 w' => ∃ (x6_1 : Int) (x7_1 : Int), v6 = .int .u64 x6_1 ∧ v7 = .int .i64 x7_1 ∧ Aside0 (hash_Sum.l0 kq a1 t133 x6_1 x7_1 = some r) ∧ Aside0 (kq ≤ k) ∧ Drawn0 w w')
 case atStart => exact ⟨(IntKind.u64.wrap ((a1.size : Int))), (0), (by first | rfl | (simp; done) | (simp [*]; done)), (by first | rfl | (simp; done) | (simp [*]; done)), H', ⟨Nat.le_refl _⟩, by repeat (first | exact Drawn0.refl _ | apply Drawn0.step)⟩
 case round =>
  clear H'; (try clear p2); (try clear c3); obtain ⟨x6_1, x7_1, rfl, rfl, HA, HK1, ⟨m1, rfl⟩⟩ := hrel
  cases gk with
  | zero => exact absurd HA.out (by simp [hash_Sum.l0])
  | succ k1 =>
   have H := HA.out; clear HA; simp only [hash_Sum.l0] at H
   by_cases c4 : x7_1 < (a1.size : Int)
   ·rw [if_pos c4] at H; have c4b0 : decide (x7_1 < (a1.size : Int)) = true := decide_eq_true c4; clear c4; have H' := Aside0.mk H; clear H
    go_wp2
    go_loopg [8, 21] k1 (fun kq v8 v21 w' => ∃ (x8_2 : Int) (x21_2 : Int), v8 = .int .u64 x8_2 ∧ v21 = .int .i64 x21_2 ∧ Aside0 (hash_Sum.l1 kq a1 t133 x6_1 x7_1 x8_2 x21_2 = some r) ∧ Aside0 (kq ≤ k1) ∧ Drawn0 w w')
    case atStart => exact ⟨(0), (0), (by first | rfl | (simp; done) | (simp [*]; done)), (by first | rfl | (simp; done) | (simp [*]; done)), H', ⟨Nat.le_refl _⟩, by repeat (first | exact Drawn0.refl _ | apply Drawn0.step)⟩
    case round =>
     clear H'; (try clear p2); (try clear c3); (try clear c4); (try clear c4b0); (try clear p2); obtain ⟨x8_2, x21_2, rfl, rfl, HA, HK2, ⟨m2, rfl⟩⟩ := hrel
     cases gk with
     | zero => exact absurd HA.out (by simp [hash_Sum.l1])
     | succ k2 =>
      have H := HA.out; clear HA; simp only [hash_Sum.l1] at H
      by_cases c5 : x21_2 < 4
      ·rw [if_pos c5] at H; have c5b0 : decide (x21_2 < 4) = true := decide_eq_true c5; clear c5
       by_cases c6 : (wrap64 (x7_1 + x21_2)) < (a1.size : Int)
       ·rw [if_pos c6] at H; have c6b0 : decide ((wrap64 (x7_1 + x21_2)) < (a1.size : Int)) = true := decide_eq_true c6; clear c6; obtain ⟨ji7, hji7⟩ : ∃ j_ : Int, (wrap64 (x7_1 + x21_2)) = j_ := ⟨_, rfl⟩
        replace H : (if 0 ≤ (ji7) then (hash_Sum.l1 k2 a1 t133 x6_1 x7_1 (Go.bits .or .u64 (IntKind.u64.wrap (x8_2 * 256)) (IntKind.u64.wrap (bt a1 (ji7)))) (wrap64 (x21_2 + 1))) else (none)) = some r := by first | (rw [hji7] at H; exact H) | (simp only [hji7] at H ⊢; exact H)
        (try rw [hji7] at c6b0); have hji7w : (IntKind.i64.wrap (x7_1 + x21_2)) = ji7 := (i64_w _).trans hji7
        by_cases c8 : 0 ≤ (ji7)
        ·rw [if_pos c8] at H; have c8b0 : decide (0 ≤ (ji7)) = true := decide_eq_true c8; clear c8; have H' := Aside0.mk H; clear H; have p9 : 0 ≤ ((ji7) : Int) := of_decide_eq_true (by first | (with_reducible assumption) | assumption); have q9 : (ji7) < (a1.size : Int) := of_decide_eq_true (by first | (with_reducible assumption) | assumption); have hx9 := bt_at a1 (ji7); replace p9 := eq_true p9; replace q9 := eq_true q9
         go_wp2
         go_roundg k2
         case measure => have := HK1.out; have := HK2.out; omega
         case rel => exact ⟨(Go.bits .or .u64 (IntKind.u64.wrap (x8_2 * 256)) (IntKind.u64.wrap (bt a1 (ji7)))), (wrap64 (x21_2 + 1)), (by first | rfl | (simp; done) | (simp only [← hji7] <;> (first | rfl | simp)) | (simp [*]; done)), (by first | rfl | (simp; done) | (simp [*]; done)), H', ⟨by have := HK1.out; have := HK2.out; omega⟩, by repeat (first | exact Drawn0.refl _ | apply Drawn0.step)⟩
        ·rw [if_neg c8] at H; exact absurd H (by simp)
       ·rw [if_neg c6] at H; have c6b0 : decide ((wrap64 (x7_1 + x21_2)) < (a1.size : Int)) = false := decide_eq_false c6; clear c6; have H' := Aside0.mk H; clear H
        go_wp2
        go_roundg k2
        case measure => have := HK1.out; have := HK2.out; omega
        case rel => exact ⟨(IntKind.u64.wrap (x8_2 * 256)), (wrap64 (x21_2 + 1)), (by first | rfl | (simp; done) | (simp [*]; done)), (by first | rfl | (simp; done) | (simp [*]; done)), H', ⟨by have := HK1.out; have := HK2.out; omega⟩, by repeat (first | exact Drawn0.refl _ | apply Drawn0.step)⟩
      ·rw [if_neg c5] at H; have c5b0 : decide (x21_2 < 4) = false := decide_eq_false c5; clear c5; replace H := Option.bind_eq_some_iff.mp H; obtain ⟨t136, A100, H⟩ := H; replace H : ((field_Add.f t136 (IntKind.u64.wrap (x8_2 + 1))).bind fun t137 => (hash_Sum.l0 k2 a1 t133 t137 (wrap64 (x7_1 + 4)))) = some r := H; have A10 := Aside0.mk A100; clear A100; replace H := Option.bind_eq_some_iff.mp H; obtain ⟨t137, A110, H⟩ := H; replace H : (hash_Sum.l0 k2 a1 t133 t137 (wrap64 (x7_1 + 4))) = some r := H; have A11 := Aside0.mk A110; clear A110; have H' := Aside0.mk H; clear H
       go_wp2_with (first | ((with_reducible refine gate_callee (f := 38) rfl ?_); refine goesL_ (some 43) rfl rfl Tryd.func38 (by kernel_rfl) rfl #[.int .u64 x6_1, .int .u64 t133] rfl (by (try simp only [List.map_toArray, List.map_cons, List.map_nil]); first | done | rfl | (simp only [List.length_drop, List.length_take]; rfl)) ?_; (with_reducible refine (field_Mul.calls x6_1 t133 t136 _ A10.out).mono ?_); rintro e w' ⟨rfl, ⟨nd, rfl⟩⟩; refine ⟨_, rfl, ?_⟩) | ((with_reducible refine gate_callee (f := 37) rfl ?_); refine goesL_ (some 46) rfl rfl Tryd.func37 (by kernel_rfl) rfl #[.int .u64 t136, .int .u64 (IntKind.u64.wrap (x8_2 + 1))] rfl (by (try simp only [List.map_toArray, List.map_cons, List.map_nil]); first | done | rfl | (simp only [List.length_drop, List.length_take]; rfl)) ?_; (with_reducible refine (field_Add.calls t136 (IntKind.u64.wrap (x8_2 + 1)) t137 _ A11.out).mono ?_); rintro e w' ⟨rfl, ⟨nd, rfl⟩⟩; refine ⟨_, rfl, ?_⟩))
       go_roundg k2
       case measure => have := HK1.out; have := HK2.out; omega
       case rel => exact ⟨(t137), (wrap64 (x7_1 + 4)), (by first | rfl | (simp; done) | (simp [*]; done)), (by first | rfl | (simp; done) | (simp [*]; done)), H', ⟨by have := HK1.out; have := HK2.out; omega⟩, by repeat (first | exact Drawn0.refl _ | apply Drawn0.step)⟩
   ·rw [if_neg c4] at H; have c4b0 : decide (x7_1 < (a1.size : Int)) = false := decide_eq_false c4; clear c4; replace H := Option.bind_eq_some_iff.mp H; obtain ⟨t134, A120, H⟩ := H; replace H : ((field_Pow.f k1 t134 17).bind fun t135 => (some t135)) = some r := H; have A12 := Aside0.mk A120; clear A120; replace H := Option.bind_eq_some_iff.mp H; obtain ⟨t135, A130, H⟩ := H; replace H : (some t135) = some r := H; have A13 := Aside0.mk A130; clear A130; obtain rfl := Option.some.inj H
    go_wp2_with (first | ((with_reducible refine gate_callee (f := 38) rfl ?_); refine goesL_ (some 49) rfl rfl Tryd.func38 (by kernel_rfl) rfl #[.int .u64 x6_1, .int .u64 t133] rfl (by (try simp only [List.map_toArray, List.map_cons, List.map_nil]); first | done | rfl | (simp only [List.length_drop, List.length_take]; rfl)) ?_; (with_reducible refine (field_Mul.calls x6_1 t133 t134 _ A12.out).mono ?_); rintro e w' ⟨rfl, ⟨nd, rfl⟩⟩; refine ⟨_, rfl, ?_⟩) | ((with_reducible refine gate_callee (f := 43) rfl ?_); refine goesL_ (some 50) rfl rfl Tryd.func43 (by kernel_rfl) rfl #[.int .u64 t134, .int .u64 17] rfl (by (try simp only [List.map_toArray, List.map_cons, List.map_nil]); first | done | rfl | (simp only [List.length_drop, List.length_take]; rfl)) ?_; (with_reducible refine (field_Pow.calls k1 t134 17 t135 _ A13.out).mono ?_); rintro e w' ⟨rfl, ⟨nd, rfl⟩⟩; refine ⟨_, rfl, ?_⟩))
    go_ret; exact ⟨by first | rfl | (simp; done) | (simp [*]; done), by repeat (first | exact Drawn0.refl _ | apply Drawn0.step)⟩

/-! ### bits_TrailingZeros64: function 36 -/
def bits_TrailingZeros64.f (a0 : Int) : Option (Int) := if 0 ≤ a0 then (if a0 < 18446744073709551616 then some (Lib.ctz 64 a0.toNat : Int) else none) else none

set_option maxHeartbeats 1000000 in
theorem bits_TrailingZeros64.core (x k idx : Nat) (w : World) (hx0 : ((x : Int) == 0) = false)
    (key : IntKind.u64.wrap (bits BinOp.and IntKind.u64 (x : Int) (IntKind.u64.wrap (-(x : Int))) * 285870213051353865) / 288230376151711744 = (idx : Int))
    (hi : idx < 64) (hk : k < 64) (hcell : w.cell? ⟨0, idx, none⟩ = some (.int .u8 k)) :
    Calls Tryd.prog 36 #[.int .u64 x] w fun e w' => e = .returned (.int .i64 k) ∧ w' = w := by
  have hu_ := Tryd.underlying63
  go_enter Tryd.func36, Tryd.ntmps36
  go_wp2_with (simp only [key])
  go_ret
  exact ⟨rfl, rfl⟩

theorem bits_TrailingZeros64.zero (w : World) : Calls Tryd.prog 36 #[.int .u64 0] w fun e w' => e = .returned (.int .i64 64) ∧ w' = w := by
  go_enter Tryd.func36, Tryd.ntmps36
  go_wp2
  go_ret
  exact ⟨rfl, rfl⟩

theorem bits_TrailingZeros64.whole (a0 : Int) (r1 : Int) (w : World) (h : bits_TrailingZeros64.f a0 = some r1) (HT0 : Aside0 (Tab w)) : Calls Tryd.prog 36 #[.int .u64 a0] w fun e w' => e = .returned (.int .i64 r1) ∧ w' = w := by
  unfold bits_TrailingZeros64.f at h
  by_cases h0 : 0 ≤ a0
  · rw [if_pos h0] at h
    by_cases h1 : a0 < 18446744073709551616
    · rw [if_pos h1] at h
      obtain rfl := Option.some.inj h
      obtain ⟨x, rfl⟩ : ∃ x : Nat, a0 = (x : Int) := ⟨a0.toNat, by omega⟩
      rw [Int.toNat_natCast]
      by_cases hx0 : x = 0
      · subst hx0
        exact bits_TrailingZeros64.zero w
      · obtain ⟨hlow, hk⟩ := Lib.lowest_bit 64 x hx0 (by omega)
        obtain ⟨hi, htab⟩ := Lib.deBruijn64_at _ hk
        have hcell := HT0.out _ hi
        rw [htab] at hcell
        exact bits_TrailingZeros64.core x _ _ w (by simp; omega) (tz64_key x _ (by omega) hx0 hlow) hi hk hcell
    · rw [if_neg h1] at h; cases h
  · rw [if_neg h0] at h; cases h

set_option maxHeartbeats 80000000 in
set_option maxRecDepth 100000 in
theorem bits_TrailingZeros64.calls (a0 : Int) (r : Int) (w : World) (h : bits_TrailingZeros64.f a0 = some r) (HT0 : Aside0 (Tab w)) :
    Calls Tryd.prog 36 #[.int .u64 a0] w fun e w' => e = .returned (.int .i64 r) ∧ Drawn0 w w' := by
 have hw_ := bits_TrailingZeros64.whole a0 _ w h HT0
 first
 | exact hw_
 | exact hw_.mono (fun e w' ⟨he, hw⟩ => ⟨he, ⟨0, hw⟩⟩)

/-! ### hash_Level: function 28 -/
def hash_Level.f (k : Nat) (a0 : Int) (a1 : ByteArray) (a2 : Int) : Option (Int) := (hash_Sum.f k a0 a1).bind fun t138 => (if t138 = 0 then (some (mx a2 0)) else ((bits_TrailingZeros64.f t138).bind fun t139 => (some (mx (mn t139 a2) 0))))
theorem hash_Level.mono : ∀ a0 a1 a2 k, LeO (hash_Level.f k a0 a1 a2) (hash_Level.f (k + 1) a0 a1 a2) := by
  intro a0 a1 a2 k
  unfold hash_Level.f
  repeat' first
      | (with_reducible exact hash_Sum.mono _ _ _)
      | (with_reducible exact LeO.refl _)
      | (with_reducible exact LeO.none _)
      | (with_reducible refine LeO.ite ?_ ?_)
      | (with_reducible refine LeO.bind ?_ (fun _ => ?_))
      | exact hash_Sum.mono _ _ _
      | exact LeO.none _
      | refine LeO.ite ?_ ?_
      | refine LeO.bind ?_ (fun _ => ?_)
set_option maxHeartbeats 80000000 in
set_option maxRecDepth 100000 in
theorem hash_Level.calls (k : Nat) (a0 : Int) (a1 : ByteArray) (a2 : Int) (r : Int) (w : World) (h : hash_Level.f k a0 a1 a2 = some r) (HT0 : Aside0 (Tab w)) :
    Calls Tryd.prog 28 #[.int .u64 a0, .string a1, .int .i64 a2] w fun e w' => e = .returned (.int .i64 r) ∧ Below w.heap.size w w' := by
 have HB := Aside0.mk (Below.refl w.heap.size w); have H : ((hash_Sum.f k a0 a1).bind fun t138 => (if t138 = 0 then (some (mx a2 0)) else ((bits_TrailingZeros64.f t138).bind fun t139 => (some (mx (mn t139 a2) 0))))) = some r := h; clear h; replace H := Option.bind_eq_some_iff.mp H; obtain ⟨t138, A40, H⟩ := H; replace H : (if t138 = 0 then (some (mx a2 0)) else ((bits_TrailingZeros64.f t138).bind fun t139 => (some (mx (mn t139 a2) 0)))) = some r := H; have A4 := Aside0.mk A40; clear A40
 by_cases c5 : t138 = 0
 ·rw [if_pos c5] at H; have c5b0 : (t138 == 0) = true := beq_iff_eq.mpr c5; have c5b1 : (t138 != 0) = false := bne_eq_false_iff_eq.mpr c5; clear c5; obtain ⟨ji6, hji6⟩ : ∃ j_ : Int, (mx a2 0) = j_ := ⟨_, rfl⟩
  replace H : (some ji6) = some r := by first | (rw [hji6] at H; exact H) | (simp only [hji6] at H ⊢; exact H)
  (try rw [hji6] at A4); (try (have hji6l : 0 ≤ ji6 := by (rw [← hji6]; unfold mx; (repeat' split) <;> omega))); (try (have hji6m : 0 ≤ ji6 := by omega)); have hji6_ : (if a2 < 0 then 0 else a2) = ji6 := hji6; obtain rfl := Option.some.inj H
  go_enter Tryd.func28, Tryd.ntmps28
  go_wp2_with (first | ((with_reducible refine gate_callee (f := 35) rfl ?_); refine goesL_ (some 10) rfl rfl Tryd.func35 (by kernel_rfl) rfl #[.int .u64 a0, .string a1] rfl (by (try simp only [List.map_toArray, List.map_cons, List.map_nil]); first | done | rfl | (simp only [List.length_drop, List.length_take]; rfl)) ?_; (with_reducible refine (hash_Sum.calls k a0 a1 t138 _ A4.out).mono ?_); rintro e w' ⟨rfl, ⟨nd, rfl⟩⟩; refine ⟨_, rfl, ?_⟩))
  go_ret; exact ⟨by first | rfl | (simp [errW_none, errW_some] <;> rfl) | (simp only [← hji6]; first | rfl | (simp [errW_none, errW_some] <;> rfl)) | (simp [*, errW_none, errW_some] <;> rfl), bl_ HB⟩
 ·rw [if_neg c5] at H; have c5b0 : (t138 == 0) = false := beq_eq_false_iff_ne.mpr c5; have c5b1 : (t138 != 0) = true := bne_iff_ne.mpr c5; replace H := Option.bind_eq_some_iff.mp H; obtain ⟨t139, A70, H⟩ := H; replace H : (some (mx (mn t139 a2) 0)) = some r := H; have A7 := Aside0.mk A70; clear A70; obtain ⟨ji8, hji8⟩ : ∃ j_ : Int, (mn t139 a2) = j_ := ⟨_, rfl⟩
  replace H : (some (mx (ji8) 0)) = some r := by first | (rw [hji8] at H; exact H) | (simp only [hji8] at H ⊢; exact H)
  (try rw [hji8] at A4); (try rw [hji8] at A7); have hji8_ : (if a2 < t139 then a2 else t139) = ji8 := hji8; obtain ⟨ji9, hji9⟩ : ∃ j_ : Int, (mx (ji8) 0) = j_ := ⟨_, rfl⟩
  replace H : (some ji9) = some r := by first | (rw [hji9] at H; exact H) | (simp only [hji9] at H ⊢; exact H)
  (try rw [hji9] at A4); (try rw [hji9] at A7); have hji9_ : (if (ji8) < 0 then 0 else (ji8)) = ji9 := hji9; obtain rfl := Option.some.inj H
  go_enter Tryd.func28, Tryd.ntmps28
  go_wp2_with (first | ((with_reducible refine gate_callee (f := 35) rfl ?_); refine goesL_ (some 10) rfl rfl Tryd.func35 (by kernel_rfl) rfl #[.int .u64 a0, .string a1] rfl (by (try simp only [List.map_toArray, List.map_cons, List.map_nil]); first | done | rfl | (simp only [List.length_drop, List.length_take]; rfl)) ?_; (with_reducible refine (hash_Sum.calls k a0 a1 t138 _ A4.out).mono ?_); rintro e w' ⟨rfl, ⟨nd, rfl⟩⟩; refine ⟨_, rfl, ?_⟩) | ((with_reducible refine gate_callee (f := 36) rfl ?_); refine goesL_ (some 16) rfl rfl Tryd.func36 (by kernel_rfl) rfl #[.int .u64 t138] rfl (by (try simp only [List.map_toArray, List.map_cons, List.map_nil]); first | done | rfl | (simp only [List.length_drop, List.length_take]; rfl)) ?_; (with_reducible refine (bits_TrailingZeros64.calls t138 t139 _ A7.out ⟨tb_ HT0 HB⟩).mono ?_); rintro e w' ⟨rfl, ⟨nd, rfl⟩⟩; refine ⟨_, rfl, ?_⟩))
  go_ret; exact ⟨by first | rfl | (simp [errW_none, errW_some] <;> rfl) | (simp only [← hji8, ← hji9]; first | rfl | (simp [errW_none, errW_some] <;> rfl)) | (simp [*, errW_none, errW_some] <;> rfl), bl_ HB⟩

/-! ### hash_Row: function 29 -/
def hash_Row.f (a0 : Int) (a1 : Int) : Option (Int) := (field_Add.f a0 3).bind fun t140 => ((field_Add.f (IntKind.u64.wrap (mx a1 0)) 2).bind fun t141 => ((field_Mul.f t140 t141).bind fun t142 => ((field_Add.f t142 5).bind fun t143 => ((field_Mul.f t143 t143).bind fun t144 => (some t144)))))
set_option maxHeartbeats 80000000 in
set_option maxRecDepth 100000 in
theorem hash_Row.calls (a0 : Int) (a1 : Int) (r : Int) (w : World) (h : hash_Row.f a0 a1 = some r) :
    Calls Tryd.prog 29 #[.int .u64 a0, .int .i64 a1] w fun e w' => e = .returned (.int .u64 r) ∧ Below w.heap.size w w' := by
 have HB := Aside0.mk (Below.refl w.heap.size w); have H : ((field_Add.f a0 3).bind fun t140 => ((field_Add.f (IntKind.u64.wrap (mx a1 0)) 2).bind fun t141 => ((field_Mul.f t140 t141).bind fun t142 => ((field_Add.f t142 5).bind fun t143 => ((field_Mul.f t143 t143).bind fun t144 => (some t144)))))) = some r := h; clear h; replace H := Option.bind_eq_some_iff.mp H; obtain ⟨t140, A30, H⟩ := H; replace H : ((field_Add.f (IntKind.u64.wrap (mx a1 0)) 2).bind fun t141 => ((field_Mul.f t140 t141).bind fun t142 => ((field_Add.f t142 5).bind fun t143 => ((field_Mul.f t143 t143).bind fun t144 => (some t144))))) = some r := H; have A3 := Aside0.mk A30; clear A30; obtain ⟨ji4, hji4⟩ : ∃ j_ : Int, (mx a1 0) = j_ := ⟨_, rfl⟩
 replace H : ((field_Add.f (IntKind.u64.wrap (ji4)) 2).bind fun t141 => ((field_Mul.f t140 t141).bind fun t142 => ((field_Add.f t142 5).bind fun t143 => ((field_Mul.f t143 t143).bind fun t144 => (some t144))))) = some r := by first | (rw [hji4] at H; exact H) | (simp only [hji4] at H ⊢; exact H)
 (try rw [hji4] at A3); (try (have hji4l : 0 ≤ ji4 := by (rw [← hji4]; unfold mx; (repeat' split) <;> omega))); (try (have hji4m : 0 ≤ ji4 := by omega)); have hji4_ : (if a1 < 0 then 0 else a1) = ji4 := hji4; replace H := Option.bind_eq_some_iff.mp H; obtain ⟨t141, A50, H⟩ := H; replace H : ((field_Mul.f t140 t141).bind fun t142 => ((field_Add.f t142 5).bind fun t143 => ((field_Mul.f t143 t143).bind fun t144 => (some t144)))) = some r := H; have A5 := Aside0.mk A50; clear A50; replace H := Option.bind_eq_some_iff.mp H; obtain ⟨t142, A60, H⟩ := H; replace H : ((field_Add.f t142 5).bind fun t143 => ((field_Mul.f t143 t143).bind fun t144 => (some t144))) = some r := H; have A6 := Aside0.mk A60; clear A60; replace H := Option.bind_eq_some_iff.mp H; obtain ⟨t143, A70, H⟩ := H; replace H : ((field_Mul.f t143 t143).bind fun t144 => (some t144)) = some r := H; have A7 := Aside0.mk A70; clear A70; replace H := Option.bind_eq_some_iff.mp H; obtain ⟨t144, A80, H⟩ := H; replace H : (some t144) = some r := H; have A8 := Aside0.mk A80; clear A80; obtain rfl := Option.some.inj H
 go_enter Tryd.func29, Tryd.ntmps29
 go_wp2_with (first | ((with_reducible refine gate_callee (f := 37) rfl ?_); refine goesL_ (some 7) rfl rfl Tryd.func37 (by kernel_rfl) rfl #[.int .u64 a0, .int .u64 3] rfl (by (try simp only [List.map_toArray, List.map_cons, List.map_nil]); first | done | rfl | (simp only [List.length_drop, List.length_take]; rfl)) ?_; (with_reducible refine (field_Add.calls a0 3 t140 _ A3.out).mono ?_); rintro e w' ⟨rfl, ⟨nd, rfl⟩⟩; refine ⟨_, rfl, ?_⟩) | ((with_reducible refine gate_callee (f := 37) rfl ?_); refine goesL_ (some 11) rfl rfl Tryd.func37 (by kernel_rfl) rfl #[.int .u64 (IntKind.u64.wrap (ji4)), .int .u64 2] rfl (by (try simp only [List.map_toArray, List.map_cons, List.map_nil]); first | done | (simp only [hji4]; rfl) | rfl | (simp only [List.length_drop, List.length_take]; rfl)) ?_; (with_reducible refine (field_Add.calls (IntKind.u64.wrap (ji4)) 2 t141 _ A5.out).mono ?_); rintro e w' ⟨rfl, ⟨nd, rfl⟩⟩; refine ⟨_, rfl, ?_⟩) | ((with_reducible refine gate_callee (f := 38) rfl ?_); refine goesL_ (some 12) rfl rfl Tryd.func38 (by kernel_rfl) rfl #[.int .u64 t140, .int .u64 t141] rfl (by (try simp only [List.map_toArray, List.map_cons, List.map_nil]); first | done | rfl | (simp only [List.length_drop, List.length_take]; rfl)) ?_; (with_reducible refine (field_Mul.calls t140 t141 t142 _ A6.out).mono ?_); rintro e w' ⟨rfl, ⟨nd, rfl⟩⟩; refine ⟨_, rfl, ?_⟩) | ((with_reducible refine gate_callee (f := 37) rfl ?_); refine goesL_ (some 13) rfl rfl Tryd.func37 (by kernel_rfl) rfl #[.int .u64 t142, .int .u64 5] rfl (by (try simp only [List.map_toArray, List.map_cons, List.map_nil]); first | done | rfl | (simp only [List.length_drop, List.length_take]; rfl)) ?_; (with_reducible refine (field_Add.calls t142 5 t143 _ A7.out).mono ?_); rintro e w' ⟨rfl, ⟨nd, rfl⟩⟩; refine ⟨_, rfl, ?_⟩) | ((with_reducible refine gate_callee (f := 38) rfl ?_); refine goesL_ (some 16) rfl rfl Tryd.func38 (by kernel_rfl) rfl #[.int .u64 t143, .int .u64 t143] rfl (by (try simp only [List.map_toArray, List.map_cons, List.map_nil]); first | done | rfl | (simp only [List.length_drop, List.length_take]; rfl)) ?_; (with_reducible refine (field_Mul.calls t143 t143 t144 _ A8.out).mono ?_); rintro e w' ⟨rfl, ⟨nd, rfl⟩⟩; refine ⟨_, rfl, ?_⟩))
 go_ret; exact ⟨by first | rfl | (simp [errW_none, errW_some] <;> rfl) | (simp only [← hji4]; first | rfl | (simp [errW_none, errW_some] <;> rfl)) | (simp [*, errW_none, errW_some] <;> rfl), bl_ HB⟩

/-! ### hash_Cell: function 30 -/
def hash_Cell.f (k : Nat) (a0 : Int) (a1 : ByteArray) (a2 : Int) : Option (Int) := if a2 < 1 then (some 0) else ((hash_Sum.f k a0 a1).bind fun t145 => (if (IntKind.u64.wrap (a2)) = 0 then (none) else (some (wrap64 (Int.tmod t145 (IntKind.u64.wrap (a2)))))))
theorem hash_Cell.mono : ∀ a0 a1 a2 k, LeO (hash_Cell.f k a0 a1 a2) (hash_Cell.f (k + 1) a0 a1 a2) := by
  intro a0 a1 a2 k
  unfold hash_Cell.f
  repeat' first
      | (with_reducible exact hash_Sum.mono _ _ _)
      | (with_reducible exact LeO.refl _)
      | (with_reducible exact LeO.none _)
      | (with_reducible refine LeO.ite ?_ ?_)
      | (with_reducible refine LeO.bind ?_ (fun _ => ?_))
      | exact hash_Sum.mono _ _ _
      | exact LeO.none _
      | refine LeO.ite ?_ ?_
      | refine LeO.bind ?_ (fun _ => ?_)
set_option maxHeartbeats 80000000 in
set_option maxRecDepth 100000 in
theorem hash_Cell.calls (k : Nat) (a0 : Int) (a1 : ByteArray) (a2 : Int) (r : Int) (w : World) (h : hash_Cell.f k a0 a1 a2 = some r) :
    Calls Tryd.prog 30 #[.int .u64 a0, .string a1, .int .i64 a2] w fun e w' => e = .returned (.int .i64 r) ∧ Drawn0 w w' := by
 have H : (if a2 < 1 then (some 0) else ((hash_Sum.f k a0 a1).bind fun t145 => (if (IntKind.u64.wrap (a2)) = 0 then (none) else (some (wrap64 (Int.tmod t145 (IntKind.u64.wrap (a2)))))))) = some r := h; clear h
 by_cases c4 : a2 < 1
 ·rw [if_pos c4] at H; have c4b0 : decide (a2 < 1) = true := decide_eq_true c4; clear c4; obtain rfl := Option.some.inj H
  go_enter Tryd.func30, Tryd.ntmps30
  go_wp2
  go_ret; exact ⟨by first | rfl | (simp; done) | (simp [*]; done), by repeat (first | exact Drawn0.refl _ | apply Drawn0.step)⟩
 ·rw [if_neg c4] at H; have c4b0 : decide (a2 < 1) = false := decide_eq_false c4; clear c4; replace H := Option.bind_eq_some_iff.mp H; obtain ⟨t145, A50, H⟩ := H; replace H : (if (IntKind.u64.wrap (a2)) = 0 then (none) else (some (wrap64 (Int.tmod t145 (IntKind.u64.wrap (a2)))))) = some r := H; have A5 := Aside0.mk A50; clear A50
  by_cases c6 : (IntKind.u64.wrap (a2)) = 0
  ·rw [if_pos c6] at H; exact absurd H (by simp)
  ·rw [if_neg c6] at H; have c6b0 : ((IntKind.u64.wrap (a2)) == 0) = false := beq_eq_false_iff_ne.mpr c6; have c6b1 : ((IntKind.u64.wrap (a2)) != 0) = true := bne_iff_ne.mpr c6; obtain rfl := Option.some.inj H
   go_enter Tryd.func30, Tryd.ntmps30
   go_wp2_with (first | ((with_reducible refine gate_callee (f := 35) rfl ?_); refine goesL_ (some 11) rfl rfl Tryd.func35 (by kernel_rfl) rfl #[.int .u64 a0, .string a1] rfl (by (try simp only [List.map_toArray, List.map_cons, List.map_nil]); first | done | rfl | (simp only [List.length_drop, List.length_take]; rfl)) ?_; (with_reducible refine (hash_Sum.calls k a0 a1 t145 _ A5.out).mono ?_); rintro e w' ⟨rfl, ⟨nd, rfl⟩⟩; refine ⟨_, rfl, ?_⟩))
   go_ret; exact ⟨by first | rfl | (simp; done) | (simp [*]; done), by repeat (first | exact Drawn0.refl _ | apply Drawn0.step)⟩

/-! ### bitmap_Place: function 16 -/
def bitmap_Place.f (k : Nat) (a0_0 : Int) (l0_1 : List (List Bool)) (a1 : ByteArray) : Option (Int × Int) := (bitmap_Right.f a0_0 l0_1).bind fun t147 => (if t147 = true then ((hash_Row.f a0_0 0).bind fun t148 => ((hash_Level.f k t148 a1 (wrap64 ((l0_1.length : Int) - 1))).bind fun t149 => ((hash_Row.f a0_0 1).bind fun t150 => (if 0 ≤ t149 then (if t149 < (l0_1.length : Int) then ((hash_Cell.f k t150 a1 ((rd_L1 l0_1 t149).length : Int)).bind fun t152 => (some (t149, t152))) else (none)) else (none))))) else (some (0, 0)))
theorem bitmap_Place.mono : ∀ a0 a1 a2 k, LeO (bitmap_Place.f k a0 a1 a2) (bitmap_Place.f (k + 1) a0 a1 a2) := by
  intro a0 a1 a2 k
  unfold bitmap_Place.f
  repeat' first
      | (with_reducible exact hash_Cell.mono _ _ _ _)
      | (with_reducible exact hash_Level.mono _ _ _ _)
      | (with_reducible exact LeO.refl _)
      | (with_reducible exact LeO.none _)
      | (with_reducible refine LeO.ite ?_ ?_)
      | (with_reducible refine LeO.bind ?_ (fun _ => ?_))
      | exact hash_Cell.mono _ _ _ _
      | exact hash_Level.mono _ _ _ _
      | exact LeO.none _
      | refine LeO.ite ?_ ?_
      | refine LeO.bind ?_ (fun _ => ?_)
def bitmap_Place.T3 : Bool × List (List Nat × List Nat) := (true, [([], []), ([0], [0]), ([1], [1]), ([], []), ([], []), ([4], [4]), ([5], [5]), ([6], [6]), ([2, 3, 7, 2], [2, 3, 7]), ([8, 8, 0, 1, 2, 3, 4, 5, 6, 7, 8], [8])])
def bitmap_Place.B3 : List Nat := [0, 1, 3, 0, 0, 16, 48, 112, 255, 511]
theorem bitmap_Place.tab3 : rtab .any (opsOf Tryd.f16 3) = bitmap_Place.T3 := by kernel_rfl
theorem bitmap_Place.bits3 : waitsOk bitmap_Place.T3.2 bitmap_Place.B3 = true := by kernel_rfl
def bitmap_Place.T4 : Bool × List (List Nat × List Nat) := (true, [([], []), ([], []), ([1], [1]), ([2], [2]), ([], []), ([], []), ([5], [5]), ([], []), ([6, 7], [6, 7]), ([8], [8]), ([9], [9]), ([3, 4, 10, 3], [3, 4, 10]), ([0, 11, 0], [0]), ([11, 12, 0, 1, 2, 3, 4, 5, 6, 7, 8, 9, 10, 11, 12], [11])])
def bitmap_Place.B4 : List Nat := [0, 0, 2, 6, 0, 0, 32, 0, 224, 480, 992, 2046, 4095, 8191]
theorem bitmap_Place.tab4 : rtab .any (opsOf Tryd.f16 4) = bitmap_Place.T4 := by kernel_rfl
theorem bitmap_Place.bits4 : waitsOk bitmap_Place.T4.2 bitmap_Place.B4 = true := by kernel_rfl
set_option maxHeartbeats 80000000 in
set_option maxRecDepth 100000 in
theorem bitmap_Place.calls (k : Nat) (a0_0 : Int) (A0_1 : Option Addr) (c0_1 : Nat) (l0_1 : List (List Bool)) (a1 : ByteArray) (r1 : Int) (r2 : Int) (w : World) (hr0_1 : Kd.C (Kd.slice 4 Kd.bool) w A0_1 l0_1.length l0_1) (hc0_1 : l0_1.length ≤ c0_1) (h : bitmap_Place.f k a0_0 l0_1 a1 = some (r1, r2)) (HT0 : Aside0 (Tab w)) :
    Calls Tryd.prog 16 #[.agg #[.int .u64 a0_0, .slice A0_1 l0_1.length c0_1], .string a1] w fun e w' => e = .returned (.tuple #[.int .i64 r1, .int .i64 r2]) ∧ Below w.heap.size w w' := by
 have hu25 := Tryd.underlying25; have HR0_1 := Aside0.mk hr0_1; have HC0_1 := Aside0.mk hc0_1; clear hr0_1 hc0_1; have HB := Aside0.mk (Below.refl w.heap.size w); have H : ((bitmap_Right.f a0_0 l0_1).bind fun t147 => (if t147 = true then ((hash_Row.f a0_0 0).bind fun t148 => ((hash_Level.f k t148 a1 (wrap64 ((l0_1.length : Int) - 1))).bind fun t149 => ((hash_Row.f a0_0 1).bind fun t150 => (if 0 ≤ t149 then (if t149 < (l0_1.length : Int) then ((hash_Cell.f k t150 a1 ((rd_L1 l0_1 t149).length : Int)).bind fun t152 => (some (t149, t152))) else (none)) else (none))))) else (some (0, 0)))) = some (r1, r2) := h; clear h; replace H := Option.bind_eq_some_iff.mp H; obtain ⟨t147, A30, H⟩ := H; replace H : (if t147 = true then ((hash_Row.f a0_0 0).bind fun t148 => ((hash_Level.f k t148 a1 (wrap64 ((l0_1.length : Int) - 1))).bind fun t149 => ((hash_Row.f a0_0 1).bind fun t150 => (if 0 ≤ t149 then (if t149 < (l0_1.length : Int) then ((hash_Cell.f k t150 a1 ((rd_L1 l0_1 t149).length : Int)).bind fun t152 => (some (t149, t152))) else (none)) else (none))))) else (some (0, 0))) = some (r1, r2) := H; have A3 := Aside0.mk A30; clear A30
 by_cases c4 : t147 = true
 ·subst c4
  have H1 : ((hash_Row.f a0_0 0).bind fun t148 => ((hash_Level.f k t148 a1 (wrap64 ((l0_1.length : Int) - 1))).bind fun t149 => ((hash_Row.f a0_0 1).bind fun t150 => (if 0 ≤ t149 then (if t149 < (l0_1.length : Int) then ((hash_Cell.f k t150 a1 ((rd_L1 l0_1 t149).length : Int)).bind fun t152 => (some (t149, t152))) else (none)) else (none))))) = some (r1, r2) := by rw [if_pos rfl] at H; exact H
  clear H; have H := H1; clear H1; replace H := Option.bind_eq_some_iff.mp H; obtain ⟨t148, A50, H⟩ := H; replace H : ((hash_Level.f k t148 a1 (wrap64 ((l0_1.length : Int) - 1))).bind fun t149 => ((hash_Row.f a0_0 1).bind fun t150 => (if 0 ≤ t149 then (if t149 < (l0_1.length : Int) then ((hash_Cell.f k t150 a1 ((rd_L1 l0_1 t149).length : Int)).bind fun t152 => (some (t149, t152))) else (none)) else (none)))) = some (r1, r2) := H; have A5 := Aside0.mk A50; clear A50; replace H := Option.bind_eq_some_iff.mp H; obtain ⟨t149, A60, H⟩ := H; replace H : ((hash_Row.f a0_0 1).bind fun t150 => (if 0 ≤ t149 then (if t149 < (l0_1.length : Int) then ((hash_Cell.f k t150 a1 ((rd_L1 l0_1 t149).length : Int)).bind fun t152 => (some (t149, t152))) else (none)) else (none))) = some (r1, r2) := H; have A6 := Aside0.mk A60; clear A60; replace H := Option.bind_eq_some_iff.mp H; obtain ⟨t150, A70, H⟩ := H; replace H : (if 0 ≤ t149 then (if t149 < (l0_1.length : Int) then ((hash_Cell.f k t150 a1 ((rd_L1 l0_1 t149).length : Int)).bind fun t152 => (some (t149, t152))) else (none)) else (none)) = some (r1, r2) := H; have A7 := Aside0.mk A70; clear A70
  by_cases c8 : 0 ≤ t149
  ·rw [if_pos c8] at H; have c8b0 : decide (0 ≤ t149) = true := decide_eq_true c8; clear c8
   by_cases c9 : t149 < (l0_1.length : Int)
   ·rw [if_pos c9] at H; have c9b0 : decide (t149 < (l0_1.length : Int)) = true := decide_eq_true c9; clear c9; replace H := Option.bind_eq_some_iff.mp H; obtain ⟨t152, A100, H⟩ := H; replace H : (some (t149, t152)) = some (r1, r2) := H; have A10 := Aside0.mk A100; clear A100; simp only [Option.some.injEq, Prod.mk.injEq] at H; obtain ⟨rfl, rfl⟩ := H
    go_enter Tryd.func16, Tryd.ntmps16
    try go_wp2_with (first | ((with_reducible refine gate_dst (N := 2) rfl ?_); refine box_event ?hg (N := 2) ?hd (cs := #[.int .u64 a0_0, .slice A0_1 l0_1.length c0_1]) (t := 25) ?hr ?_; (case hd => rfl); (case hg => rfl); (case hr => first | (go_simp; done) | (go_simp; rfl)); intro gb146 hg w11 hbox hb; have n0_ := Aside0.mk (below_step (bl_ HB) hb); have n1_ := Aside0.mk (hbox); have n2_ := Aside0.mk (gl_ hg HB); have n3_ := Aside0.mk (gl_ hg HB); clear HB; have HB := n0_; have BK146 := n1_; have GW146 := n2_; have GE146 := n3_; clear n0_ n1_ n2_ n3_; clear hb hbox hg; have hcz12_0 : w11.cell? ⟨gb146, 0, none⟩ = some (.int .u64 a0_0) := (blk_cell BK146.out 0).trans rfl; have hcz12_1 : w11.cell? ⟨gb146, 1, none⟩ = some (.slice A0_1 l0_1.length c0_1) := (blk_cell BK146.out 1).trans rfl; have hfz12_0 := blk_frozen BK146.out 0; have hfz12_1 := blk_frozen BK146.out 1) | ((with_reducible refine gate_callee (f := 13) rfl ?_); refine goesL_ (some 8) rfl rfl Tryd.func13 (by kernel_rfl) rfl #[.agg #[.int .u64 a0_0, .slice A0_1 l0_1.length c0_1]] rfl (by (try simp only [List.map_toArray, List.map_cons, List.map_nil]); first | done | rfl | (simp only [List.length_drop, List.length_take]; rfl)) ?_; (with_reducible refine (bitmap_Right.calls a0_0 _ _ l0_1 true _ ?side1 ?side2 A3.out).mono ?_); (case side1 => repeat (first | exact (Kd.C_below HR0_1.out HB.out) | (with_reducible refine Kd.C_alloc ?_ _) | (with_reducible refine Kd.C_drewN ?_ _) | (with_reducible refine Kd.C_drew ?_))); (case side2 => exact HC0_1.out); rintro e w13 ⟨rfl, hb⟩; refine ⟨_, rfl, ?_⟩; have n0_ := Aside0.mk (blk_below (bk_ BK146) hb); have n1_ := Aside0.mk (below_step (bl_ HB) hb); clear BK146; clear HB; have BK146 := n0_; have HB := n1_; clear n0_ n1_; (try clear hb); (try clear hb2); (try clear hk); (try clear hi)))
    replace BK146 := Aside0.mk (blk_drew BK146.out); replace HB := Aside0.mk (below_drew1 HB.out); refine start_ (n := 10) (S := fun w' => w'.cell? ⟨gb146, 0, none⟩ = some (.int .u64 a0_0) ∧ w'.cell? ⟨gb146, 1, none⟩ = some (.slice A0_1 l0_1.length c0_1)) (ds := []) (mB 10 0) (by kernel_rfl) rfl rfl ⟨(blk_cell BK146.out 0).trans rfl, (blk_cell BK146.out 1).trans rfl⟩ (fun hHeld => ?_); refine with_tabW bitmap_Place.tab3 bitmap_Place.bits3 (fun HT_ HW_ => ?_); generalize w13.drew = w14 at BK146 HB hHeld ⊢; refine pw_ 0 10 (v := ?_) (a' := ?_) (mB 10 1) rfl rfl HT_ (by kernel_rfl) (fun _ _ _ h => h) ?_ ?_ ?_; rotate_left
    ·intro w'; go_simp; with_reducible rfl
    rotate_left
    ·simp only [Act.put, sa_, sb_, sc_, i64_w, i32_w]; rfl
    refine pw_ 3 13 (v := ?_) (a' := ?_) (mB 10 9) rfl rfl HT_ (by kernel_rfl) (fun _ _ _ h => h) ?_ ?_ ?_; rotate_left
    ·intro w'; go_simp; with_reducible rfl
    rotate_left
    ·simp only [Act.put, sa_, sb_, sc_, i64_w, i32_w]; rfl
    refine pw_ 4 14 (v := ?_) (a' := ?_) (mB 10 25) rfl rfl HT_ (by kernel_rfl) (fun _ _ _ h => h) ?_ ?_ ?_; rotate_left
    ·intro w'; go_simp; with_reducible rfl
    rotate_left
    ·simp only [Act.put, sa_, sb_, sc_, i64_w, i32_w]; rfl
    refine take_ (i := 1) (N := some 11) (v := ?_) (a' := ?_) (mB 10 27) rfl rfl (take_ofW HT_.out HW_.out (by kernel_rfl)) (fun _ _ _ h => h) (Or.inl ⟨by rfl, ?_⟩) hHeld ?_ ?_; rotate_left
    ·rintro w' ⟨s0, s1⟩; go_simp; with_reducible rfl
    rotate_left
    ·simp only [Act.put, sa_, sb_, sc_, i64_w, i32_w]; rfl
    refine take_ (i := 5) (N := some 15) (v := ?_) (a' := ?_) (mB 10 59) rfl rfl (take_ofW HT_.out HW_.out (by kernel_rfl)) (fun _ _ _ h => h) (Or.inl ⟨by rfl, ?_⟩) hHeld ?_ ?_; rotate_left
    ·rintro w' ⟨s0, s1⟩; go_simp; with_reducible rfl
    rotate_left
    ·simp only [Act.put, sa_, sb_, sc_, i64_w, i32_w]; rfl
    refine pw_ 6 16 (v := ?_) (a' := ?_) (mB 10 123) rfl rfl HT_ (by kernel_rfl) (fun _ _ _ h => h) ?_ ?_ ?_; rotate_left
    ·intro w'; go_simp; with_reducible rfl
    rotate_left
    ·simp only [Act.put, sa_, sb_, sc_, i64_w, i32_w]; rfl
    refine pw_ 7 17 (v := ?_) (a' := ?_) (mB 10 251) rfl rfl HT_ (by kernel_rfl) (fun _ _ _ h => h) ?_ ?_ ?_; rotate_left
    ·intro w'; go_simp; with_reducible rfl
    rotate_left
    ·simp only [Act.put, sa_, sb_, sc_, i64_w, i32_w]; rfl
    refine one_ (i := 2) (N := some 12) (mB 10 255) rfl rfl (one_of HT_.out (by kernel_rfl)) (by decide) (fun K hK => ?_); refine goes_ Tryd.func29 (by kernel_rfl) rfl #[.int .u64 a0_0, .int .i64 0] (by rfl) rfl rfl (by (try simp only [List.map_toArray, List.map_cons, List.map_nil]); first | done | rfl | (simp only [List.length_drop, List.length_take]; rfl)) ?_; with_reducible refine (hash_Row.calls a0_0 0 t148 _ A5.out).mono ?_
    rintro e w15 ⟨rfl, hb⟩; refine ⟨_, rfl, ?_⟩; replace BK146 := Aside0.mk (blk_below (bk_ BK146) hb); replace HB := Aside0.mk (below_step (bl_ HB) hb); (try clear hb); refine hK.out _ _ ⟨(blk_cell BK146.out 0).trans rfl, (blk_cell BK146.out 1).trans rfl⟩ (fun hHeld => ?_); clear hK K; refine norm_ (a' := ?_) ?_ ?_; rotate_left
    ·show Act.put _ (some 12) _ = _
     simp only [Act.put, sa_, sb_, sc_, i64_w, i32_w]; rfl
    refine one_ (i := 8) (N := some 18) (mB 10 511) rfl rfl (one_of HT_.out (by kernel_rfl)) (by decide) (fun K hK => ?_); refine goes_ Tryd.func28 (by kernel_rfl) rfl #[.int .u64 t148, .string a1, .int .i64 (wrap64 ((l0_1.length : Int) - 1))] (by rfl) rfl rfl (by (try simp only [List.map_toArray, List.map_cons, List.map_nil]); first | done | rfl | (simp only [List.length_drop, List.length_take]; rfl)) ?_; with_reducible refine (hash_Level.calls k t148 a1 (wrap64 ((l0_1.length : Int) - 1)) t149 _ A6.out ⟨tb_ HT0 HB⟩).mono ?_
    rintro e w16 ⟨rfl, hb⟩; refine ⟨_, rfl, ?_⟩; replace BK146 := Aside0.mk (blk_below (bk_ BK146) hb); replace HB := Aside0.mk (below_step (bl_ HB) hb); (try clear hb); refine hK.out _ _ ⟨(blk_cell BK146.out 0).trans rfl, (blk_cell BK146.out 1).trans rfl⟩ (fun hHeld => ?_); clear hK K; refine norm_ (a' := ?_) ?_ ?_; rotate_left
    ·show Act.put _ (some 18) _ = _
     simp only [Act.put, sa_, sb_, sc_, i64_w, i32_w]; rfl
    refine pw_ 9 6 (v := ?_) (a' := ?_) (mB 10 1023) rfl rfl HT_ (by kernel_rfl) (fun _ _ _ h => h) ?_ ?_ ?_; rotate_left
    ·intro w'; go_simp; with_reducible rfl
    rotate_left
    ·simp only [Act.put, sa_, sb_, sc_, i64_w, i32_w]; rfl
    refine done_ (done_of HT_.out (by kernel_rfl)) ?_
    try go_wp2
    replace BK146 := Aside0.mk (blk_drew BK146.out); replace HB := Aside0.mk (below_drew1 HB.out); have p151 : 0 ≤ (t149 : Int) := of_decide_eq_true (by first | (with_reducible assumption) | assumption); have q151 : t149 < (l0_1.length : Int) := of_decide_eq_true (by first | (with_reducible assumption) | assumption); obtain ⟨ad151, A151_0, c151_0, e151, hx151_0, hl151_0, hi151_0⟩ := at_L1 HR0_1.out t149 p151 q151; have hw151_0 := hx151_0
    cases e151; (try replace hx151_0 := (HB.out.cell (World.block_lt_of_cell? w _ hx151_0)).trans hx151_0); have HR151_0 := Aside0.mk hi151_0; have HC151_0 := Aside0.mk hl151_0; clear hi151_0 hl151_0; replace p151 := eq_true p151; replace q151 := eq_true q151; refine start_ (n := 14) (S := fun w' => w'.cell? ⟨gb146, 0, none⟩ = some (.int .u64 a0_0) ∧ w'.cell? ⟨gb146, 1, none⟩ = some (.slice (some ad151) l0_1.length c0_1) ∧ w'.cell? (ad151.add (t149).toNat) = some (.slice A151_0 (rd_L1 l0_1 t149).length c151_0)) (ds := []) (mB 14 0) (by kernel_rfl) rfl rfl ⟨(blk_cell BK146.out 0).trans rfl, (blk_cell BK146.out 1).trans rfl, ((HB.out.cell (World.block_lt_of_cell? w _ hw151_0)).trans hw151_0)⟩ (fun hHeld => ?_); refine with_tabW bitmap_Place.tab4 bitmap_Place.bits4 (fun HT_ HW_ => ?_); generalize w16.drew = w17 at BK146 HB HR151_0 hx151_0 hHeld ⊢; refine pw_ 0 19 (v := ?_) (a' := ?_) (mB 14 1) rfl rfl HT_ (by kernel_rfl) (fun _ _ _ h => h) ?_ ?_ ?_; rotate_left
    ·intro w'; go_simp; with_reducible rfl
    rotate_left
    ·simp only [Act.put, sa_, sb_, sc_, i64_w, i32_w]; rfl
    refine pw_ 1 20 (v := ?_) (a' := ?_) (mB 14 3) rfl rfl HT_ (by kernel_rfl) (fun _ _ _ h => h) ?_ ?_ ?_; rotate_left
    ·intro w'; go_simp; with_reducible rfl
    rotate_left
    ·simp only [Act.put, sa_, sb_, sc_, i64_w, i32_w]; rfl
    refine pw_ 4 23 (v := ?_) (a' := ?_) (mB 14 19) rfl rfl HT_ (by kernel_rfl) (fun _ _ _ h => h) ?_ ?_ ?_; rotate_left
    ·intro w'; go_simp; with_reducible rfl
    rotate_left
    ·simp only [Act.put, sa_, sb_, sc_, i64_w, i32_w]; rfl
    refine pw_ 5 24 (v := ?_) (a' := ?_) (mB 14 51) rfl rfl HT_ (by kernel_rfl) (fun _ _ _ h => h) ?_ ?_ ?_; rotate_left
    ·intro w'; go_simp; with_reducible rfl
    rotate_left
    ·simp only [Act.put, sa_, sb_, sc_, i64_w, i32_w]; rfl
    refine pw_ 7 26 (v := ?_) (a' := ?_) (mB 14 179) rfl rfl HT_ (by kernel_rfl) (fun _ _ _ h => h) ?_ ?_ ?_; rotate_left
    ·intro w'; go_simp; with_reducible rfl
    rotate_left
    ·simp only [Act.put, sa_, sb_, sc_, i64_w, i32_w]; rfl
    refine take_ (i := 2) (N := some 21) (v := ?_) (a' := ?_) (mB 14 183) rfl rfl (take_ofW HT_.out HW_.out (by kernel_rfl)) (fun _ _ _ h => h) (Or.inl ⟨by rfl, ?_⟩) hHeld ?_ ?_; rotate_left
    ·rintro w' ⟨s0, s1, s2⟩; go_simp; with_reducible rfl
    rotate_left
    ·simp only [Act.put, sa_, sb_, sc_, i64_w, i32_w]; rfl
    refine take_ (i := 6) (N := some 25) (v := ?_) (a' := ?_) (mB 14 247) rfl rfl (take_ofW HT_.out HW_.out (by kernel_rfl)) (fun _ _ _ h => h) (Or.inl ⟨by rfl, ?_⟩) hHeld ?_ ?_; rotate_left
    ·rintro w' ⟨s0, s1, s2⟩; go_simp; with_reducible rfl
    rotate_left
    ·simp only [Act.put, sa_, sb_, sc_, i64_w, i32_w]; rfl
    refine pw_ 8 27 (v := ?_) (a' := ?_) (mB 14 503) rfl rfl HT_ (by kernel_rfl) (fun _ _ _ h => h) ?_ ?_ ?_; rotate_left
    ·intro w'; go_simp; with_reducible rfl
    rotate_left
    ·simp only [Act.put, sa_, sb_, sc_, i64_w, i32_w]; rfl
    refine take_ (i := 9) (N := some 28) (v := ?_) (a' := ?_) (mB 14 1015) rfl rfl (take_ofW HT_.out HW_.out (by kernel_rfl)) (fun _ _ _ h => h) (Or.inl ⟨by rfl, ?_⟩) hHeld ?_ ?_; rotate_left
    ·rintro w' ⟨s0, s1, s2⟩; go_simp; with_reducible rfl
    rotate_left
    ·simp only [Act.put, sa_, sb_, sc_, i64_w, i32_w]; rfl
    refine pw_ 10 29 (v := ?_) (a' := ?_) (mB 14 2039) rfl rfl HT_ (by kernel_rfl) (fun _ _ _ h => h) ?_ ?_ ?_; rotate_left
    ·intro w'; go_simp; with_reducible rfl
    rotate_left
    ·simp only [Act.put, sa_, sb_, sc_, i64_w, i32_w]; rfl
    refine one_ (i := 3) (N := some 22) (mB 14 2047) rfl rfl (one_of HT_.out (by kernel_rfl)) (by decide) (fun K hK => ?_); refine goes_ Tryd.func29 (by kernel_rfl) rfl #[.int .u64 a0_0, .int .i64 1] (by rfl) rfl rfl (by (try simp only [List.map_toArray, List.map_cons, List.map_nil]); first | done | rfl | (simp only [List.length_drop, List.length_take]; rfl)) ?_; with_reducible refine (hash_Row.calls a0_0 1 t150 _ A7.out).mono ?_
    rintro e w18 ⟨rfl, hb⟩; refine ⟨_, rfl, ?_⟩; replace BK146 := Aside0.mk (blk_below (bk_ BK146) hb); replace HB := Aside0.mk (below_step (bl_ HB) hb); (try clear hb); refine hK.out _ _ ⟨(blk_cell BK146.out 0).trans rfl, (blk_cell BK146.out 1).trans rfl, ((HB.out.cell (World.block_lt_of_cell? w _ hw151_0)).trans hw151_0)⟩ (fun hHeld => ?_); clear hK K; refine norm_ (a' := ?_) ?_ ?_; rotate_left
    ·show Act.put _ (some 22) _ = _
     simp only [Act.put, sa_, sb_, sc_, i64_w, i32_w]; rfl
    refine one_ (i := 11) (N := some 30) (mB 14 4095) rfl rfl (one_of HT_.out (by kernel_rfl)) (by decide) (fun K hK => ?_); refine goes_ Tryd.func30 (by kernel_rfl) rfl #[.int .u64 t150, .string a1, .int .i64 ((rd_L1 l0_1 t149).length : Int)] (by rfl) rfl rfl (by (try simp only [List.map_toArray, List.map_cons, List.map_nil]); first | done | rfl | (simp only [List.length_drop, List.length_take]; rfl)) ?_; with_reducible refine (hash_Cell.calls k t150 a1 ((rd_L1 l0_1 t149).length : Int) t152 _ A10.out).mono ?_
    rintro e w' ⟨rfl, ⟨nd, rfl⟩⟩; (try replace BK146 := Aside0.mk (blk_drewN BK146.out nd)); (try replace HB := Aside0.mk (pw_below_drewN HB.out nd)); refine ⟨_, rfl, ?_⟩; refine hK.out _ _ ⟨(blk_cell BK146.out 0).trans rfl, (blk_cell BK146.out 1).trans rfl, ((HB.out.cell (World.block_lt_of_cell? w _ hw151_0)).trans hw151_0)⟩ (fun hHeld => ?_); clear hK K; refine norm_ (a' := ?_) ?_ ?_; rotate_left
    ·show Act.put _ (some 30) _ = _
     simp only [Act.put, sa_, sb_, sc_, i64_w, i32_w]; rfl
    refine pw_ 12 4 (v := ?_) (a' := ?_) (mB 14 8191) rfl rfl HT_ (by kernel_rfl) (fun _ _ _ h => h) ?_ ?_ ?_; rotate_left
    ·intro w'; go_simp; with_reducible rfl
    rotate_left
    ·simp only [Act.put, sa_, sb_, sc_, i64_w, i32_w]; rfl
    refine pw_ 13 5 (v := ?_) (a' := ?_) (mB 14 16383) rfl rfl HT_ (by kernel_rfl) (fun _ _ _ h => h) ?_ ?_ ?_; rotate_left
    ·intro w'; go_simp; with_reducible rfl
    rotate_left
    ·simp only [Act.put, sa_, sb_, sc_, i64_w, i32_w]; rfl
    refine done_ (done_of HT_.out (by kernel_rfl)) ?_
    try go_wp2
    go_ret2
    exact ⟨by first | rfl | (simp [errW_none, errW_some] <;> rfl) | (simp [*, errW_none, errW_some] <;> rfl), bl_ HB⟩
   ·rw [if_neg c9] at H; exact absurd H (by simp)
  ·rw [if_neg c8] at H; exact absurd H (by simp)
 ·replace c4 := Bool.eq_false_iff.mpr c4; subst c4
  have H1 : (some (0, 0)) = some (r1, r2) := by rw [if_neg (show ¬ (false = true) by decide)] at H; exact H
  clear H; have H := H1; clear H1; simp only [Option.some.injEq, Prod.mk.injEq] at H; obtain ⟨rfl, rfl⟩ := H
  go_enter Tryd.func16, Tryd.ntmps16
  go_wp2_with (first | ((with_reducible refine gate_dst (N := 2) rfl ?_); refine box_event ?hg (N := 2) ?hd (cs := #[.int .u64 a0_0, .slice A0_1 l0_1.length c0_1]) (t := 25) ?hr ?_; (case hd => rfl); (case hg => rfl); (case hr => first | (go_simp; done) | (go_simp; rfl)); intro gb146 hg w19 hbox hb; have n0_ := Aside0.mk (below_step (bl_ HB) hb); have n1_ := Aside0.mk (hbox); have n2_ := Aside0.mk (gl_ hg HB); have n3_ := Aside0.mk (gl_ hg HB); clear HB; have HB := n0_; have BK146 := n1_; have GW146 := n2_; have GE146 := n3_; clear n0_ n1_ n2_ n3_; clear hb hbox hg; have hcz20_0 : w19.cell? ⟨gb146, 0, none⟩ = some (.int .u64 a0_0) := (blk_cell BK146.out 0).trans rfl; have hcz20_1 : w19.cell? ⟨gb146, 1, none⟩ = some (.slice A0_1 l0_1.length c0_1) := (blk_cell BK146.out 1).trans rfl; have hfz20_0 := blk_frozen BK146.out 0; have hfz20_1 := blk_frozen BK146.out 1) | ((with_reducible refine gate_callee (f := 13) rfl ?_); refine goesL_ (some 8) rfl rfl Tryd.func13 (by kernel_rfl) rfl #[.agg #[.int .u64 a0_0, .slice A0_1 l0_1.length c0_1]] rfl (by (try simp only [List.map_toArray, List.map_cons, List.map_nil]); first | done | rfl | (simp only [List.length_drop, List.length_take]; rfl)) ?_; (with_reducible refine (bitmap_Right.calls a0_0 _ _ l0_1 false _ ?side1 ?side2 A3.out).mono ?_); (case side1 => repeat (first | exact (Kd.C_below HR0_1.out HB.out) | (with_reducible refine Kd.C_alloc ?_ _) | (with_reducible refine Kd.C_drewN ?_ _) | (with_reducible refine Kd.C_drew ?_))); (case side2 => exact HC0_1.out); rintro e w21 ⟨rfl, hb⟩; refine ⟨_, rfl, ?_⟩; have n0_ := Aside0.mk (blk_below (bk_ BK146) hb); have n1_ := Aside0.mk (below_step (bl_ HB) hb); clear BK146; clear HB; have BK146 := n0_; have HB := n1_; clear n0_ n1_; (try clear hb); (try clear hb2); (try clear hk); (try clear hi)))
  go_ret2
  exact ⟨by first | rfl | (simp [errW_none, errW_some] <;> rfl) | (simp [*, errW_none, errW_some] <;> rfl), bl_ HB⟩

/-! ### slices_Clone_bool_bool_26: function 26 -/
def slices_Clone_bool_bool_26.f (l0 : List (List Bool)) : Option ((List (List Bool))) := (some (([] : List (List Bool)) : List (List Bool))).bind fun y153 => (if y153.length + l0.length < 5864062014805 then (some (y153 ++ l0)) else (none))
set_option maxHeartbeats 80000000 in
set_option maxRecDepth 100000 in
theorem slices_Clone_bool_bool_26.calls (P0_ : Nat → Prop) (A0 : Option Addr) (c0 : Nat) (l0 : List (List Bool)) (r : List (List Bool)) (w : World) (hs0 : Kd.V (Kd.slice 4 Kd.bool) 33 w w.heap.size (fun k_ => P0_ k_) (.slice A0 l0.length c0) l0) (h : slices_Clone_bool_bool_26.f l0 = some r) :
    Calls Tryd.prog 26 #[.slice A0 l0.length c0] w fun e w' => ∃ v0_ : Value, e = .returned (v0_) ∧ Kd.N (Kd.slice 4 Kd.bool) 33 w' w.heap.size (fun k_ => (P0_ k_ ∨ w.heap.size ≤ k_)) v0_ r ∧ Below w.heap.size w w' := by
 have HO0 := Aside0.mk (show Kd.V (Kd.slice 4 Kd.bool) 33 w w.heap.size (fun k_ => (P0_ k_ ∨ w.heap.size ≤ k_)) (.slice A0 l0.length c0) l0 from Kd.V_mono hs0 (fun k_ hk => .inl hk)); have HB := Aside0.mk (Below.refl w.heap.size w); have H : ((some (([] : List (List Bool)) : List (List Bool))).bind fun y153 => (if y153.length + l0.length < 5864062014805 then (some (y153 ++ l0)) else (none))) = some r := h; clear h; obtain ⟨y153, hy153⟩ : ∃ y_ : List (List Bool), y_ = (([] : List (List Bool))) := ⟨_, rfl⟩
 replace H : (if y153.length + l0.length < 5864062014805 then (some (y153 ++ l0)) else (none)) = some r := by first | (rw [hy153]; with_reducible exact H) | (have H2_ := (Option.bind_some _ _).symm.trans H; rw [hy153]; with_reducible exact H2_) | (have H2_ := (Option.bind_some _ _).symm.trans H; with_reducible exact H2_) | with_reducible exact H | (rw [hy153]; exact H) | exact H
 have Ny153 := Aside0.mk hy153; clear hy153
 by_cases c2 : y153.length + l0.length < 5864062014805
 ·rw [if_pos c2] at H; have LMc2 := Aside0.mk c2; clear c2; obtain ⟨y156, hy156⟩ : ∃ y_ : List (List Bool), y_ = (y153 ++ l0) := ⟨_, rfl⟩
  replace H : (some y156) = some r := by first | (rw [hy156]; with_reducible exact H) | (have H2_ := (Option.bind_some _ _).symm.trans H; rw [hy156]; with_reducible exact H2_) | (have H2_ := (Option.bind_some _ _).symm.trans H; with_reducible exact H2_) | with_reducible exact H | (rw [hy156]; exact H) | exact H
  have Ny156 := Aside0.mk hy156; clear hy156; obtain rfl := Option.some.inj H
  rcases A0 with _ | A0
  ·have hz := ((Kd.V_reads' HO0.out).2.2).2.2
   rcases l0 with _ | ⟨x0_, l0⟩
   ·have hq_ : ∀ (W : World) (n c : Nat), (binOp .eql 23 (.slice none n c) (.slice none 0 0)).run Tryd.prog W = .ok (.bool true) W := fun W n c => Lib.run_eql_slice_nil W 23 _ none n c 0 0 Tryd.underlying23
    go_enter Tryd.func26, Tryd.ntmps26
    go_wp2
    go_ret; refine ⟨.slice none 0 0, rfl, ?_, HB.out⟩
    first | exact Kd.R_nil _ _ _ _ _ | (simp only [Ny156.out, Ny153.out, List.nil_append]; first | exact Kd.R_nil _ _ _ _ _ | exact Kd.N_nil _ _ _ _ _ | exact Kd.V_nil _ _ _ _ _)
   ·obtain ⟨ad, h_, _⟩ := hz (by simp)
    cases h_
  ·have hq_ : ∀ (W : World) (n c : Nat), (binOp .eql 23 (.slice (some A0) n c) (.slice none 0 0)).run Tryd.prog W = .ok (.bool false) W := fun W n c => Lib.run_eql_slice_nil W 23 _ (some A0) n c 0 0 Tryd.underlying23
   go_enter Tryd.func26, Tryd.ntmps26
   go_wp2_with (first | ((with_reducible refine gate_dst (N := 5) rfl ?_); refine Kd.N_lit (Kd.slice 4 Kd.bool) _ 33 ?hg (N' := 5) ?hd (xs := ([] : List (List Bool))) (inner := []) (ok := (fun k_ => (P0_ k_ ∨ w.heap.size ≤ k_))) (okp := (fun k_ => (P0_ k_ ∨ w.heap.size ≤ k_))) ?hr ?hp (fun _ hk => hk) ((show ∀ k_, w.heap.size ≤ k_ → (fun k_ => (P0_ k_ ∨ w.heap.size ≤ k_)) k_ from fun k_ hk => (.inr (Nat.le_trans (below_size (bl_ HB)) hk))) _ (Nat.le_refl _)) (Below.refl _ _) (Nat.le_refl _) (by simp) ?_; (case hd => rfl); (case hg => rfl); (case hr => first | (go_simp; done) | (go_simp; rfl)); (case hp => exact (Reps.none _ _)); intro v154 w3 ho4 hb hg_ hnew_; clear hg_ hnew_; (first | rw [← Ny153.out] at ho4 | (simp only [Int.reduceToNat] at ho4; rw [← Ny153.out] at ho4)); have n0_ := Aside0.mk (Kd.V_elder' (vk_ HO0) (Kd.N_base ho4) hb); have n1_ := Aside0.mk (Kd.N_lower ho4 (below_size (bl_ HB))); have n2_ := Aside0.mk (below_step (bl_ HB) hb); clear HO0; clear HB; have HO0 := n0_; have HO155 := n1_; have HB := n2_; clear n0_ n1_ n2_; clear hb ho4) | ((with_reducible refine gate_builtin (b := .append) (xs := #[.tmp 5, .tmp 6]) rfl ?_); at_builtin; refine Kd.N_append_rows (Kd.slice 4 Kd.bool) (w0 := w) w.heap.size rfl (.tmp 5) (.tmp 6) 23 33 (.slice none 0 0) 24 rfl Tryd.underlying23 info33 rfl (by decide) (by omega) v154 y153 l0 _ _ _ (fun k_ => (P0_ k_ ∨ w.heap.size ≤ k_)) (fun k_ => ((fun k_ => (P0_ k_ ∨ w.heap.size ≤ k_))) k_ ∧ some k_ ≠ (v154 : Value).ownBlock) rfl rfl ?aO ?aR (fun _ hk => hk) ?aF ?aB ?aS ?aL ?_; (case aR => exact (by skip; exact Kd.V_F (Kd.V_mono (ok' := (fun k_ => ((fun k_ => (P0_ k_ ∨ w.heap.size ≤ k_))) k_ ∧ some k_ ≠ (v154 : Value).ownBlock)) (HO0.out) (fun k_ hk => ⟨hk.1, hk.2⟩)))); (case aB => exact (bl_ HB)); (case aF => exact (fun k_ hk => (.inr (Nat.le_trans (below_size (bl_ HB)) hk)))); (case aO => exact (by (with_reducible repeat (first | apply Kd.N_alloc | apply Kd.N_drewN | apply Kd.N_drew)); exact HO155.out)); (case aS => exact (below_size (bl_ HB))); (case aL => have := LMc2.out; omega); intro v157 w5 ho hb hg hat; rw [← Ny156.out] at ho; have n0_ := Aside0.mk (Kd.V_afterv (ok := (fun k_ => (P0_ k_ ∨ w.heap.size ≤ k_))) (vk_ HO0) hg hat); have n1_ := Aside0.mk (hb); have n2_ := Aside0.mk (ho); clear HO0; clear HB; clear HO155; have HO0 := n0_; have HB := n1_; have HO158 := n2_; clear n0_ n1_ n2_; clear ho hb hg hat))
   go_ret; exact ⟨_, by first | rfl | (simp [errW_none, errW_some] <;> rfl) | (simp [*, errW_none, errW_some] <;> rfl), by (with_reducible repeat (first | apply Kd.N_alloc | apply Kd.N_drewN | apply Kd.N_drew)); exact HO158.out, bl_ HB⟩
 ·rw [if_neg c2] at H; exact absurd H (by simp)

/-! ### slices_Clone_bool_bool_27: function 27 -/
def slices_Clone_bool_bool_27.f (l0 : List Bool) : Option (List Bool) := (some (([] : List Bool) : List Bool)).bind fun y159 => (if y159.length + l0.length < 140737488355328 then (some (y159 ++ l0)) else (none))
set_option maxHeartbeats 80000000 in
set_option maxRecDepth 100000 in
theorem slices_Clone_bool_bool_27.calls (A0 : Option Addr) (c0 : Nat) (l0 : List Bool) (r : List Bool) (w : World) (hr0 : Kd.C Kd.bool w A0 l0.length l0) (hc0 : l0.length ≤ c0) (h : slices_Clone_bool_bool_27.f l0 = some r) :
    Calls Tryd.prog 27 #[.slice A0 l0.length c0] w fun e w' => ∃ v0_ : Value, e = .returned (v0_) ∧ Kd.R Kd.bool 4 w' w.heap.size (fun _ => True) v0_ r ∧ Below w.heap.size w w' := by
 have HR0 := Aside0.mk hr0; have HC0 := Aside0.mk hc0; clear hr0 hc0; have HB := Aside0.mk (Below.refl w.heap.size w); have H : ((some (([] : List Bool) : List Bool)).bind fun y159 => (if y159.length + l0.length < 140737488355328 then (some (y159 ++ l0)) else (none))) = some r := h; clear h; obtain ⟨y159, hy159⟩ : ∃ y_ : List Bool, y_ = (([] : List Bool)) := ⟨_, rfl⟩
 replace H : (if y159.length + l0.length < 140737488355328 then (some (y159 ++ l0)) else (none)) = some r := by first | (rw [hy159]; with_reducible exact H) | (have H2_ := (Option.bind_some _ _).symm.trans H; rw [hy159]; with_reducible exact H2_) | (have H2_ := (Option.bind_some _ _).symm.trans H; with_reducible exact H2_) | with_reducible exact H | (rw [hy159]; exact H) | exact H
 have Ny159 := Aside0.mk hy159; clear hy159
 by_cases c2 : y159.length + l0.length < 140737488355328
 ·rw [if_pos c2] at H; have LMc2 := Aside0.mk c2; clear c2; obtain ⟨y162, hy162⟩ : ∃ y_ : List Bool, y_ = (y159 ++ l0) := ⟨_, rfl⟩
  replace H : (some y162) = some r := by first | (rw [hy162]; with_reducible exact H) | (have H2_ := (Option.bind_some _ _).symm.trans H; rw [hy162]; with_reducible exact H2_) | (have H2_ := (Option.bind_some _ _).symm.trans H; with_reducible exact H2_) | with_reducible exact H | (rw [hy162]; exact H) | exact H
  have Ny162 := Aside0.mk hy162; clear hy162; obtain rfl := Option.some.inj H
  rcases A0 with _ | A0
  ·have hz := HR0.out.2.2
   rcases l0 with _ | ⟨x0_, l0⟩
   ·have hq_ : ∀ (W : World) (n c : Nat), (binOp .eql 33 (.slice none n c) (.slice none 0 0)).run Tryd.prog W = .ok (.bool true) W := fun W n c => Lib.run_eql_slice_nil W 33 _ none n c 0 0 Tryd.underlying33
    go_enter Tryd.func27, Tryd.ntmps27
    go_wp2
    go_ret; refine ⟨.slice none 0 0, rfl, ?_, HB.out⟩
    first | exact Kd.R_nil _ _ _ _ _ | (simp only [Ny162.out, Ny159.out, List.nil_append]; first | exact Kd.R_nil _ _ _ _ _ | exact Kd.N_nil _ _ _ _ _ | exact Kd.V_nil _ _ _ _ _)
   ·obtain ⟨ad, h_, _⟩ := hz (by simp)
    cases h_
  ·have hq_ : ∀ (W : World) (n c : Nat), (binOp .eql 33 (.slice (some A0) n c) (.slice none 0 0)).run Tryd.prog W = .ok (.bool false) W := fun W n c => Lib.run_eql_slice_nil W 33 _ (some A0) n c 0 0 Tryd.underlying33
   go_enter Tryd.func27, Tryd.ntmps27
   go_wp2_with (first | ((with_reducible refine gate_dst (N := 5) rfl ?_); refine Kd.R_lit Kd.bool _ 4 ?hg (N := 5) ?hd (xs := ([] : List Bool)) (inner := []) (ok := fun _ => True) (okp := fun _ => True) ?hr ?hp (fun _ hk => hk) trivial (Below.refl _ _) (Nat.le_refl _) (by simp) ?_; (case hd => rfl); (case hg => rfl); (case hr => first | (go_simp; done) | (go_simp; rfl)); (case hp => exact (Reps.none _ _)); intro v160 w3 ho4 hb hg_ hnew_; clear hg_ hnew_; (first | rw [← Ny159.out] at ho4 | (simp only [Int.reduceToNat] at ho4; rw [← Ny159.out] at ho4)); have n0_ := Aside0.mk (Kd.R_lower ho4 (below_size (bl_ HB))); have n1_ := Aside0.mk (below_step (bl_ HB) hb); clear HB; have HO161 := n0_; have HB := n1_; clear n0_ n1_; clear hb ho4) | ((with_reducible refine gate_builtin (b := .append) (xs := #[.tmp 5, .tmp 6]) rfl ?_); at_builtin; refine Kd.R_append_rows Kd.bool (w0 := w) w.heap.size rfl (.tmp 5) (.tmp 6) 33 4 (.bool false) 1 rfl Tryd.underlying33 info4 rfl (by decide) (by omega) v160 y159 l0 _ _ _ (fun _ => True) (fun _ => False) rfl rfl ?aO ?aR (fun _ _ h => h) (fun _ h => h.elim) ?aF ?aB ?aS ?aL ?_; (case aR => repeat (first | exact (Kd.C_below HR0.out HB.out) | (with_reducible refine Kd.C_alloc ?_ _) | (with_reducible refine Kd.C_drewN ?_ _) | (with_reducible refine Kd.C_drew ?_))); (case aB => exact (bl_ HB)); (case aF => exact (fun _ _ => trivial)); (case aO => exact (by (with_reducible repeat (first | apply Kd.R_alloc | apply Kd.R_drewN | apply Kd.R_drew)); exact HO161.out)); (case aS => exact (below_size (bl_ HB))); (case aL => have := LMc2.out; omega); intro v163 w5 ho hb hg hat; rw [← Ny162.out] at ho; have n0_ := Aside0.mk (hb); have n1_ := Aside0.mk (ho); clear HB; clear HO161; have HB := n0_; have HO164 := n1_; clear n0_ n1_; clear ho hb hg hat))
   go_ret; exact ⟨_, by first | rfl | (simp [errW_none, errW_some] <;> rfl) | (simp [*, errW_none, errW_some] <;> rfl), by (with_reducible repeat (first | apply Kd.R_alloc | apply Kd.R_drewN | apply Kd.R_drew)); exact HO164.out, bl_ HB⟩
 ·rw [if_neg c2] at H; exact absurd H (by simp)

/-! ### bitmap_Add: function 15 -/
theorem bitmap_Add.swap (w : World) (p q : Addr) (u v : Value) (h : p.block ≠ q.block) : (w.setCell p u).setCell q v = (w.setCell q v).setCell p u := by
  have e : ((w.setCell p u).setCell q v).heap = ((w.setCell q v).setCell p u).heap := by
    apply Array.ext_getElem?
    intro k
    by_cases hp : k = p.block
    · have hq : k ≠ q.block := fun e => h (hp.symm.trans e)
      rw [Below.heap_setCell _ q v k hq]
      simp only [World.setCell, Array.getElem?_modify, hp]
      rw [if_neg (Ne.symm h)]
    · rw [Below.heap_setCell _ p u k hp]
      by_cases hq : k = q.block
      · simp only [World.setCell, Array.getElem?_modify, hq]
        rw [if_neg h]
      · rw [Below.heap_setCell _ q v k hq, Below.heap_setCell _ q v k hq, Below.heap_setCell _ p u k hp]
  show ({ (w.setCell p u).setCell q v with heap := ((w.setCell p u).setCell q v).heap } : World) = { (w.setCell q v).setCell p u with heap := ((w.setCell q v).setCell p u).heap }
  rw [e]
  rfl
theorem bitmap_Add.same {w : World} {g i : Nat} {u : Value} (h : w.cell? ⟨g, i, none⟩ = some u) (v : Value) : (w.setCell ⟨g, i, none⟩ v).cell? ⟨g, i, none⟩ = some v := by
  unfold World.cell? World.setCell at *
  simp only [Array.getElem?_modify, if_pos] at h ⊢
  cases ho : w.heap[g]? with
  | none => rw [ho] at h; cases h
  | some o =>
    rw [ho] at h
    cases o with
    | cells c t fz =>
      have h2 : c[i]? = some u := h
      have h3 := (Array.getElem?_eq_some_iff.1 h2).1
      show (c.setIfInBounds i v)[i]? = some v
      rw [Array.getElem?_setIfInBounds_self_of_lt h3]
    | _ => cases h
def bitmap_Add.f (k : Nat) (a0_0 : Int) (l0_1 : List (List Bool)) (a1 : ByteArray) : Option (Int × (List (List Bool))) := (bitmap_Right.f a0_0 l0_1).bind fun t167 => (if t167 = true then ((bitmap_Place.f k a0_0 l0_1 a1).bind fun bt168 => ((slices_Clone_bool_bool_26.f l0_1).bind fun t170 => (if 0 ≤ bt168.1 then (if bt168.1 < (t170.length : Int) then ((slices_Clone_bool_bool_27.f (rd_L1 t170 bt168.1)).bind fun t174 => (if 0 ≤ bt168.2 then (if bt168.2 < (t174.length : Int) then (some (a0_0, (t170.set (bt168.1 : Int).toNat (t174.set (bt168.2 : Int).toNat true)))) else (none)) else (none))) else (none)) else (none)))) else (some (a0_0, l0_1)))
theorem bitmap_Add.mono : ∀ a0 a1 a2 k, LeO (bitmap_Add.f k a0 a1 a2) (bitmap_Add.f (k + 1) a0 a1 a2) := by
  intro a0 a1 a2 k
  unfold bitmap_Add.f
  repeat' first
      | (with_reducible exact bitmap_Place.mono _ _ _ _)
      | (with_reducible exact LeO.refl _)
      | (with_reducible exact LeO.none _)
      | (with_reducible refine LeO.ite ?_ ?_)
      | (with_reducible refine LeO.bind ?_ (fun _ => ?_))
      | exact bitmap_Place.mono _ _ _ _
      | exact LeO.none _
      | refine LeO.ite ?_ ?_
      | refine LeO.bind ?_ (fun _ => ?_)
def bitmap_Add.T5 : Bool × List (List Nat × List Nat) := (true, [([], []), ([0], [0]), ([], []), ([], []), ([3], [3]), ([], []), ([4, 5], [4, 5]), ([6], [6]), ([7], [7]), ([1, 2, 0, 1, 2, 3, 4, 5, 6, 7, 8], [1, 2]), ([9, 8, 8, 0, 1, 2, 3, 4, 5, 6, 7, 8], [8, 9])])
def bitmap_Add.B5 : List Nat := [0, 1, 0, 0, 8, 0, 56, 120, 248, 511, 1023]
theorem bitmap_Add.tab5 : rtab .any (opsOf Tryd.f15 5) = bitmap_Add.T5 := by kernel_rfl
theorem bitmap_Add.bits5 : waitsOk bitmap_Add.T5.2 bitmap_Add.B5 = true := by kernel_rfl
set_option maxHeartbeats 80000000 in
set_option maxRecDepth 100000 in
theorem bitmap_Add.calls (k : Nat) (a0_0 : Int) (P0_1_ : Nat → Prop) (A0_1 : Option Addr) (c0_1 : Nat) (l0_1 : List (List Bool)) (a1 : ByteArray) (r1 : Int) (r2 : List (List Bool)) (w : World) (hs0_1 : Kd.V (Kd.slice 4 Kd.bool) 33 w w.heap.size (fun k_ => P0_1_ k_) (.slice A0_1 l0_1.length c0_1) l0_1) (h : bitmap_Add.f k a0_0 l0_1 a1 = some (r1, r2)) (HT0 : Aside0 (Tab w)) :
    Calls Tryd.prog 15 #[.agg #[.int .u64 a0_0, .slice A0_1 l0_1.length c0_1], .string a1] w fun e w' => ∃ v1_ : Value, e = .returned (.agg #[.int .u64 r1, v1_]) ∧ Kd.V (Kd.slice 4 Kd.bool) 33 w' w.heap.size (fun k_ => (P0_1_ k_ ∨ w.heap.size ≤ k_)) v1_ r2 ∧ Below w.heap.size w w' := by
 have hu25 := Tryd.underlying25; have HO0_1 := Aside0.mk (show Kd.V (Kd.slice 4 Kd.bool) 33 w w.heap.size (fun k_ => (P0_1_ k_ ∨ w.heap.size ≤ k_)) (.slice A0_1 l0_1.length c0_1) l0_1 from Kd.V_mono hs0_1 (fun k_ hk => .inl hk)); have HB := Aside0.mk (Below.refl w.heap.size w); have H : ((bitmap_Right.f a0_0 l0_1).bind fun t167 => (if t167 = true then ((bitmap_Place.f k a0_0 l0_1 a1).bind fun bt168 => ((slices_Clone_bool_bool_26.f l0_1).bind fun t170 => (if 0 ≤ bt168.1 then (if bt168.1 < (t170.length : Int) then ((slices_Clone_bool_bool_27.f (rd_L1 t170 bt168.1)).bind fun t174 => (if 0 ≤ bt168.2 then (if bt168.2 < (t174.length : Int) then (some (a0_0, (t170.set (bt168.1 : Int).toNat (t174.set (bt168.2 : Int).toNat true)))) else (none)) else (none))) else (none)) else (none)))) else (some (a0_0, l0_1)))) = some (r1, r2) := h; clear h; replace H := Option.bind_eq_some_iff.mp H; obtain ⟨t167, A30, H⟩ := H; replace H : (if t167 = true then ((bitmap_Place.f k a0_0 l0_1 a1).bind fun bt168 => ((slices_Clone_bool_bool_26.f l0_1).bind fun t170 => (if 0 ≤ bt168.1 then (if bt168.1 < (t170.length : Int) then ((slices_Clone_bool_bool_27.f (rd_L1 t170 bt168.1)).bind fun t174 => (if 0 ≤ bt168.2 then (if bt168.2 < (t174.length : Int) then (some (a0_0, (t170.set (bt168.1 : Int).toNat (t174.set (bt168.2 : Int).toNat true)))) else (none)) else (none))) else (none)) else (none)))) else (some (a0_0, l0_1))) = some (r1, r2) := H; have A3 := Aside0.mk A30; clear A30
 by_cases c4 : t167 = true
 ·subst c4
  have H1 : ((bitmap_Place.f k a0_0 l0_1 a1).bind fun bt168 => ((slices_Clone_bool_bool_26.f l0_1).bind fun t170 => (if 0 ≤ bt168.1 then (if bt168.1 < (t170.length : Int) then ((slices_Clone_bool_bool_27.f (rd_L1 t170 bt168.1)).bind fun t174 => (if 0 ≤ bt168.2 then (if bt168.2 < (t174.length : Int) then (some (a0_0, (t170.set (bt168.1 : Int).toNat (t174.set (bt168.2 : Int).toNat true)))) else (none)) else (none))) else (none)) else (none)))) = some (r1, r2) := by rw [if_pos rfl] at H; exact H
  clear H; have H := H1; clear H1; replace H := Option.bind_eq_some_iff.mp H; obtain ⟨⟨t168, t169⟩, A50, H⟩ := H; replace H : ((slices_Clone_bool_bool_26.f l0_1).bind fun t170 => (if 0 ≤ t168 then (if t168 < (t170.length : Int) then ((slices_Clone_bool_bool_27.f (rd_L1 t170 t168)).bind fun t174 => (if 0 ≤ t169 then (if t169 < (t174.length : Int) then (some (a0_0, (t170.set (t168 : Int).toNat (t174.set (t169 : Int).toNat true)))) else (none)) else (none))) else (none)) else (none))) = some (r1, r2) := H; have A5 := Aside0.mk A50; clear A50; replace H := Option.bind_eq_some_iff.mp H; obtain ⟨t170, A60, H⟩ := H; replace H : (if 0 ≤ t168 then (if t168 < (t170.length : Int) then ((slices_Clone_bool_bool_27.f (rd_L1 t170 t168)).bind fun t174 => (if 0 ≤ t169 then (if t169 < (t174.length : Int) then (some (a0_0, (t170.set (t168 : Int).toNat (t174.set (t169 : Int).toNat true)))) else (none)) else (none))) else (none)) else (none)) = some (r1, r2) := H; have A6 := Aside0.mk A60; clear A60
  by_cases c7 : 0 ≤ t168
  ·rw [if_pos c7] at H; have c7b0 : decide (0 ≤ t168) = true := decide_eq_true c7; clear c7
   by_cases c8 : t168 < (t170.length : Int)
   ·rw [if_pos c8] at H; have c8b0 : decide (t168 < (t170.length : Int)) = true := decide_eq_true c8; clear c8; replace H := Option.bind_eq_some_iff.mp H; obtain ⟨t174, A90, H⟩ := H; replace H : (if 0 ≤ t169 then (if t169 < (t174.length : Int) then (some (a0_0, (t170.set (t168 : Int).toNat (t174.set (t169 : Int).toNat true)))) else (none)) else (none)) = some (r1, r2) := H; have A9 := Aside0.mk A90; clear A90
    by_cases d0 : 0 ≤ t169
    ·rw [if_pos d0] at H
     by_cases d1 : t169 < (t174.length : Int)
     ·rw [if_pos d1] at H; obtain ⟨y177, hy177⟩ : ∃ y_ : List (List Bool), y_ = (t170.set (t168 : Int).toNat t174) := ⟨_, rfl⟩; have Ny177 := Aside0.mk hy177; clear hy177; simp only [Option.some.injEq, Prod.mk.injEq] at H; obtain ⟨rfl, rfl⟩ := H; have D0 := Aside0.mk d0; have D1 := Aside0.mk d1; have d0b : decide (0 ≤ t169) = true := decide_eq_true d0; have d1b : decide (t169 < (t174.length : Int)) = true := decide_eq_true d1; clear d0 d1; have c8t : t168 < (t170.length : Int) := of_decide_eq_true (by first | (with_reducible assumption) | assumption); have c7t : 0 ≤ t168 := of_decide_eq_true (by first | (with_reducible assumption) | assumption); have C8T := Aside0.mk c8t; have C7T := Aside0.mk c7t; clear c8t c7t
      go_enter Tryd.func15, Tryd.ntmps15
      try go_wp2_with (first | ((with_reducible refine gate_dst (N := 2) rfl ?_); refine box_event ?hg (N := 2) ?hd (cs := #[.int .u64 a0_0, .slice A0_1 l0_1.length c0_1]) (t := 25) ?hr ?_; (case hd => rfl); (case hg => rfl); (case hr => first | (go_simp; done) | (go_simp; rfl)); intro gb165 hg w11 hbox hb; have n0_ := Aside0.mk (Kd.V_below (Kd.V_elderB (vk_ HO0_1) gb165 (Nat.le_of_eq hg.symm)) hb); have n1_ := Aside0.mk (below_step (bl_ HB) hb); have n2_ := Aside0.mk (hbox); have n3_ := Aside0.mk (gl_ hg HB); have n4_ := Aside0.mk (gl_ hg HB); clear HO0_1; clear HB; have HO0_1 := n0_; have HB := n1_; have BK165 := n2_; have GW165 := n3_; have GE165 := n4_; clear n0_ n1_ n2_ n3_ n4_; clear hb hbox hg) | ((with_reducible refine gate_dst (N := 4) rfl ?_); refine box_event ?hg (N := 4) ?hd (cs := #[.int .u64 0, .slice none 0 0]) (t := 25) ?hr ?_; (case hd => rfl); (case hg => rfl); (case hr => first | (go_simp; done) | (go_simp; rfl)); intro gb166 hg w12 hbox hb; have n0_ := Aside0.mk (Kd.V_below (Kd.V_elderB (vk_ HO0_1) gb166 (Nat.le_of_eq hg.symm)) hb); have n1_ := Aside0.mk (blk_below (bk_ BK165) hb); have n2_ := Aside0.mk (below_step (bl_ HB) hb); have n3_ := Aside0.mk (hbox); have n4_ := Aside0.mk (gl_ hg HB); have n5_ := Aside0.mk (gl_ hg HB); have n6_ := Aside0.mk (nl_ hg BK165); have n7_ := Aside0.mk (ng_ hg BK165); clear HO0_1; clear BK165; clear HB; have HO0_1 := n0_; have BK165 := n1_; have HB := n2_; have BK166 := n3_; have GW166 := n4_; have GE166 := n5_; have NB165_166 := n6_; have NB166_165 := n7_; clear n0_ n1_ n2_ n3_ n4_ n5_ n6_ n7_; clear hb hbox hg; have hnb13 := NB165_166.out; have hnc13 := NB166_165.out; have hcz14_0 : w12.cell? ⟨gb165, 0, none⟩ = some (.int .u64 a0_0) := (blk_cell BK165.out 0).trans rfl; have hcz14_1 : w12.cell? ⟨gb165, 1, none⟩ = some (.slice A0_1 l0_1.length c0_1) := (blk_cell BK165.out 1).trans rfl; have hfz14_0 := blk_frozen BK165.out 0; have hfz14_1 := blk_frozen BK165.out 1) | ((with_reducible refine gate_callee (f := 13) rfl ?_); refine goesL_ (some 8) rfl rfl Tryd.func13 (by kernel_rfl) rfl #[.agg #[.int .u64 a0_0, .slice A0_1 l0_1.length c0_1]] rfl (by (try simp only [List.map_toArray, List.map_cons, List.map_nil]); first | done | rfl | (simp only [List.length_drop, List.length_take]; rfl)) ?_; (with_reducible refine (bitmap_Right.calls a0_0 _ _ l0_1 true _ ?side1 ?side2 A3.out).mono ?_); (case side1 => repeat (first | exact (Kd.V_reads' HO0_1.out).2.2 | (with_reducible refine Kd.C_alloc ?_ _) | (with_reducible refine Kd.C_drewN ?_ _) | (with_reducible refine Kd.C_drew ?_))); (case side2 => exact (Kd.V_reads' HO0_1.out).2.1); rintro e w15 ⟨rfl, hb⟩; refine ⟨_, rfl, ?_⟩; have n0_ := Aside0.mk (Kd.V_below (vk_ HO0_1) hb); have n1_ := Aside0.mk (blk_below (bk_ BK165) hb); have n2_ := Aside0.mk (blk_below (bk_ BK166) hb); have n3_ := Aside0.mk (below_step (bl_ HB) hb); clear HO0_1; clear BK165; clear BK166; clear HB; have HO0_1 := n0_; have BK165 := n1_; have BK166 := n2_; have HB := n3_; clear n0_ n1_ n2_ n3_; (try clear hb); (try clear hb2); (try clear hk); (try clear hi); have hcz16_0 : w15.cell? ⟨gb165, 0, none⟩ = some (.int .u64 a0_0) := (blk_cell BK165.out 0).trans rfl; have hcz16_1 : w15.cell? ⟨gb165, 1, none⟩ = some (.slice A0_1 l0_1.length c0_1) := (blk_cell BK165.out 1).trans rfl; have hfz16_0 := blk_frozen BK165.out 0; have hfz16_1 := blk_frozen BK165.out 1) | ((with_reducible refine gate_callee (f := 16) rfl ?_); refine goesL_ (some 14) rfl rfl Tryd.func16 (by kernel_rfl) rfl #[.agg #[.int .u64 a0_0, .slice A0_1 l0_1.length c0_1], .string a1] rfl (by (try simp only [List.map_toArray, List.map_cons, List.map_nil]); first | done | rfl | (simp only [List.length_drop, List.length_take]; rfl)) ?_; (with_reducible refine (bitmap_Place.calls k a0_0 _ _ l0_1 a1 t168 t169 _ ?side1 ?side2 A5.out ⟨tb_ HT0 HB⟩).mono ?_); (case side1 => repeat (first | exact (Kd.V_reads' HO0_1.out).2.2 | (with_reducible refine Kd.C_alloc ?_ _) | (with_reducible refine Kd.C_drewN ?_ _) | (with_reducible refine Kd.C_drew ?_))); (case side2 => exact (Kd.V_reads' HO0_1.out).2.1); rintro e w17 ⟨rfl, hb⟩; refine ⟨_, rfl, ?_⟩; have n0_ := Aside0.mk (Kd.V_below (vk_ HO0_1) hb); have n1_ := Aside0.mk (blk_below (bk_ BK165) hb); have n2_ := Aside0.mk (blk_below (bk_ BK166) hb); have n3_ := Aside0.mk (below_step (bl_ HB) hb); clear HO0_1; clear BK165; clear BK166; clear HB; have HO0_1 := n0_; have BK165 := n1_; have BK166 := n2_; have HB := n3_; clear n0_ n1_ n2_ n3_; (try clear hb); (try clear hb2); (try clear hk); (try clear hi); have hcz18_0 : w17.cell? ⟨gb165, 0, none⟩ = some (.int .u64 a0_0) := (blk_cell BK165.out 0).trans rfl; have hcz18_1 : w17.cell? ⟨gb165, 1, none⟩ = some (.slice A0_1 l0_1.length c0_1) := (blk_cell BK165.out 1).trans rfl; have hfz18_0 := blk_frozen BK165.out 0; have hfz18_1 := blk_frozen BK165.out 1) | ((with_reducible refine gate_callee (f := 26) rfl ?_); refine goesL_ (some 19) rfl rfl Tryd.func26 (by kernel_rfl) rfl #[.slice A0_1 l0_1.length c0_1] rfl (by (try simp only [List.map_toArray, List.map_cons, List.map_nil]); first | done | rfl | (simp only [List.length_drop, List.length_take]; rfl)) ?_; (with_reducible refine (slices_Clone_bool_bool_26.calls (fun k_ => (((P0_1_ k_ ∨ w.heap.size ≤ k_) ∧ k_ ≠ gb165) ∧ k_ ≠ gb166)) _ _ l0_1 t170 _ ?side1 A6.out).mono ?_); (case side1 => exact HO0_1.out); rintro e w19 ⟨v171, rfl, ho0, hb⟩; refine ⟨_, rfl, ?_⟩; have n0_ := Aside0.mk (Kd.V_elder' (vk_ HO0_1) (Kd.N_base ho0) hb); have n1_ := Aside0.mk (Kd.N_lower (Kd.N_mono (ok' := fun k_ => (P0_1_ k_ ∨ w.heap.size ≤ k_) ∧ k_ ≠ gb165 ∧ k_ ≠ gb166) ho0 (fun k_ hk_ => ⟨Or.elim hk_ (fun hs_ => hs_.1.1) (fun hn_ => (.inr (Nat.le_trans (below_size (bl_ HB)) hn_))), Or.elim hk_ (fun hs_ => hs_.1.2) (fun hn_ => (Kd.freshB (g := gb165) (o := .cells #[.int .u64 a0_0, .slice A0_1 l0_1.length c0_1] 25 (0, 0)) (bk_ BK165) k_ hn_)), Or.elim hk_ (fun hs_ => hs_.2) (fun hn_ => (Kd.freshB (g := gb166) (o := .cells #[.int .u64 0, .slice none 0 0] 25 (0, 0)) (bk_ BK166) k_ hn_))⟩)) (below_size (bl_ HB))); have n2_ := Aside0.mk (blk_below (bk_ BK165) hb); have n3_ := Aside0.mk (blk_below (bk_ BK166) hb); have n4_ := Aside0.mk (below_step (bl_ HB) hb); clear HO0_1; clear BK165; clear BK166; clear HB; have HO0_1 := n0_; have HO172 := n1_; have BK165 := n2_; have BK166 := n3_; have HB := n4_; clear n0_ n1_ n2_ n3_ n4_; (try clear hb); (try clear hb2); (try clear hk); (try clear hi); (try clear ho0); obtain ⟨Ao20, co20, eo20⟩ := Kd.N_slice HO172.out; subst eo20; have hcz21_0 : w19.cell? ⟨gb165, 0, none⟩ = some (.int .u64 a0_0) := (blk_cell BK165.out 0).trans rfl; have hcz21_1 : w19.cell? ⟨gb165, 1, none⟩ = some (.slice A0_1 l0_1.length c0_1) := (blk_cell BK165.out 1).trans rfl; have hfz21_0 := blk_frozen BK165.out 0; have hfz21_1 := blk_frozen BK165.out 1))
      have n0_ : Aside0 (Kd.V (Kd.slice 4 Kd.bool) 33 (w19.setCell ⟨gb165, 1, none⟩ (.slice Ao20 t170.length co20)) w.heap.size (fun k_ => (P0_1_ k_ ∨ w.heap.size ≤ k_) ∧ some k_ ≠ (.slice Ao20 t170.length co20 : Value).ownBlock ∧ k_ ≠ gb165 ∧ k_ ≠ gb166) (.slice A0_1 l0_1.length c0_1) l0_1) := ⟨by (with_reducible repeat (first | apply Kd.V_alloc | apply Kd.V_drewN | apply Kd.V_drew)); exact Kd.V_mono (Kd.V_far (p := ⟨gb165, 1, none⟩) (Kd.V_mono HO0_1.out (fun k_ hk => (⟨hk, hk.1.1.2⟩ : _ ∧ k_ ≠ gb165))) (fun _ hk => hk.2) (.slice Ao20 t170.length co20)) (fun _ hk => ⟨hk.1.1.1.1, ⟨hk.1.2, ⟨hk.1.1.1.2, hk.1.1.2⟩⟩⟩)⟩; have n1_ : Aside0 (Kd.N (Kd.slice 4 Kd.bool) 33 (w19.setCell ⟨gb165, 1, none⟩ (.slice Ao20 t170.length co20)) w.heap.size (fun k_ => (P0_1_ k_ ∨ w.heap.size ≤ k_) ∧ k_ ≠ gb165 ∧ k_ ≠ gb166) (.slice Ao20 t170.length co20) t170) := ⟨by (with_reducible repeat (first | apply Kd.N_alloc | apply Kd.N_drewN | apply Kd.N_drew)); exact Kd.N_mono (Kd.N_far (p := ⟨gb165, 1, none⟩) (Kd.N_mono HO172.out (fun k_ hk => (⟨hk, hk.2.1⟩ : _ ∧ k_ ≠ gb165))) (fun _ hk => hk.2) (.slice Ao20 t170.length co20)) (fun _ hk => ⟨hk.1.1, ⟨hk.1.2.1, hk.1.2.2⟩⟩)⟩
      have n2_ : Aside0 ((w19.setCell ⟨gb165, 1, none⟩ (.slice Ao20 t170.length co20)).heap[gb165]? = some (.cells #[.int .u64 a0_0, .slice Ao20 t170.length co20] 25 (0, 0))) := ⟨by (with_reducible repeat (first | refine blk_drewN ?_ _ | refine blk_drew ?_ | refine blk_alloc ?_ _)); refine blk_put (cs := #[.int .u64 a0_0, .slice A0_1 l0_1.length c0_1]) ?_ 1 _ rfl; (with_reducible repeat (first | refine blk_drewN ?_ _ | refine blk_drew ?_ | refine blk_alloc ?_ _)); exact BK165.out⟩; have n3_ : Aside0 ((w19.setCell ⟨gb165, 1, none⟩ (.slice Ao20 t170.length co20)).heap[gb166]? = some (.cells #[.int .u64 0, .slice none 0 0] 25 (0, 0))) := ⟨by (with_reducible repeat (first | refine blk_drewN ?_ _ | refine blk_drew ?_ | refine blk_alloc ?_ _)); refine blk_far ?_ NB166_165.out _; (with_reducible repeat (first | refine blk_drewN ?_ _ | refine blk_drew ?_ | refine blk_alloc ?_ _)); exact BK166.out⟩; have n4_ : Aside0 (Below w.heap.size w (w19.setCell ⟨gb165, 1, none⟩ (.slice Ao20 t170.length co20))) := ⟨by repeat (first | (with_reducible first | exact HB.out | apply below_alloc | apply pw_below_drewN | apply below_drew1 | refine below_set ?_ GE165.out | refine below_set ?_ GE166.out) | exact HB.out)⟩; (try clear HO0_1); (try clear HO172); (try clear BK165); (try clear BK166); (try clear HB); generalize (w19.setCell ⟨gb165, 1, none⟩ (.slice Ao20 t170.length co20)) = w22 at n0_ n1_ n2_ n3_ n4_ ⊢; have HO0_1 := n0_; have HO172 := n1_; have BK165 := n2_; have BK166 := n3_
      have HB := n4_; clear n0_ n1_ n2_ n3_ n4_; replace HO0_1 := Aside0.mk (Kd.V_drew HO0_1.out); replace HO172 := Aside0.mk (Kd.N_drew HO172.out); replace BK165 := Aside0.mk (blk_drew BK165.out); replace BK166 := Aside0.mk (blk_drew BK166.out); replace HB := Aside0.mk (below_drew1 HB.out); have p173 : 0 ≤ (t168 : Int) := of_decide_eq_true (by first | (with_reducible assumption) | assumption); have q173 : t168 < (t170.length : Int) := of_decide_eq_true (by first | (with_reducible assumption) | assumption); obtain ⟨ad173, A173_0, c173_0, e173, hx173_0, hl173_0, hi173_0⟩ := at_L1 (Kd.N_reads' HO172.out).2.2 t168 p173 q173
      cases e173; obtain ⟨ce173, hce173, hMe173, hcc173⟩ := Kd.N_get HO172.out [] t168 p173 (by first | exact q173 | exact of_decide_eq_true (by first | (with_reducible assumption) | assumption) | (have e_ := (Kd.N_reads' HO172.out).1; omega)); obtain ⟨ua173_0, uc173_0, rfl, ul173_0, ge173_0⟩ := Kd.FK_slice_open hMe173; have hv173_0 := hcc173 0 _ rfl; rw [Nat.add_zero, show ((Kd.slice 4 Kd.bool)).sz = 1 from rfl, Nat.mul_one] at hv173_0; replace hv173_0 := Option.some.inj (hv173_0.symm.trans hx173_0)
      injection hv173_0 with hva_ hvn_ hvc_
      rw [hva_] at ge173_0; rw [hvc_] at ul173_0; have HL173_0 := Aside0.mk (show Kd.V Kd.bool 4 _ w.heap.size _ _ (rd_L1 t170 t168) from Kd.V_mk ul173_0 ge173_0); clear hva_ hvn_ hvc_ ge173_0 ul173_0; clear hcc173 hce173; have HR173_0 := Aside0.mk hi173_0; have HC173_0 := Aside0.mk hl173_0; clear hi173_0 hl173_0; replace p173 := eq_true p173; replace q173 := eq_true q173; refine start_ (n := 11) (S := fun w' => w'.cell? ⟨gb165, 0, none⟩ = some (.int .u64 a0_0) ∧ w'.cell? ⟨gb165, 1, none⟩ = some (.slice (some ad173) t170.length co20) ∧ w'.cell? (ad173.add (t168).toNat) = some (.slice A173_0 (rd_L1 t170 t168).length c173_0)) (ds := [10]) (mB 11 0) (by kernel_rfl) rfl rfl ⟨(blk_cell BK165.out 0).trans rfl, (blk_cell BK165.out 1).trans rfl, hx173_0⟩ (fun hHeld => ?_); refine with_tabW bitmap_Add.tab5 bitmap_Add.bits5 (fun HT_ HW_ => ?_); generalize w22.drew = w23 at HO0_1 HO172 BK165 BK166 HB HL173_0 HR173_0 hx173_0 hHeld ⊢; refine pw_ 0 21 (v := ?_) (a' := ?_) (mB 11 1) rfl rfl HT_ (by kernel_rfl) (fun _ _ _ h => h) ?_ ?_ ?_; rotate_left
      ·intro w'; go_simp; with_reducible rfl
      rotate_left
      ·simp only [Act.put, sa_, sb_, sc_, i64_w, i32_w]; rfl
      refine pw_ 2 23 (v := ?_) (a' := ?_) (mB 11 5) rfl rfl HT_ (by kernel_rfl) (fun _ _ _ h => h) ?_ ?_ ?_; rotate_left
      ·intro w'; go_simp; with_reducible rfl
      rotate_left
      ·simp only [Act.put, sa_, sb_, sc_, i64_w, i32_w]; rfl
      refine pw_ 3 24 (v := ?_) (a' := ?_) (mB 11 13) rfl rfl HT_ (by kernel_rfl) (fun _ _ _ h => h) ?_ ?_ ?_; rotate_left
      ·intro w'; go_simp; with_reducible rfl
      rotate_left
      ·simp only [Act.put, sa_, sb_, sc_, i64_w, i32_w]; rfl
      refine pw_ 5 26 (v := ?_) (a' := ?_) (mB 11 45) rfl rfl HT_ (by kernel_rfl) (fun _ _ _ h => h) ?_ ?_ ?_; rotate_left
      ·intro w'; go_simp; with_reducible rfl
      rotate_left
      ·simp only [Act.put, sa_, sb_, sc_, i64_w, i32_w]; rfl
      refine take_ (i := 1) (N := some 22) (v := ?_) (a' := ?_) (mB 11 47) rfl rfl (take_ofW HT_.out HW_.out (by kernel_rfl)) (fun _ _ _ h => h) (Or.inl ⟨by rfl, ?_⟩) hHeld ?_ ?_; rotate_left
      ·rintro w' ⟨s0, s1, s2⟩; go_simp; with_reducible rfl
      rotate_left
      ·simp only [Act.put, sa_, sb_, sc_, i64_w, i32_w]; rfl
      refine take_ (i := 4) (N := some 25) (v := ?_) (a' := ?_) (mB 11 63) rfl rfl (take_ofW HT_.out HW_.out (by kernel_rfl)) (fun _ _ _ h => h) (Or.inl ⟨by rfl, ?_⟩) hHeld ?_ ?_; rotate_left
      ·rintro w' ⟨s0, s1, s2⟩; go_simp; with_reducible rfl
      rotate_left
      ·simp only [Act.put, sa_, sb_, sc_, i64_w, i32_w]; rfl
      refine pw_ 6 27 (v := ?_) (a' := ?_) (mB 11 127) rfl rfl HT_ (by kernel_rfl) (fun _ _ _ h => h) ?_ ?_ ?_; rotate_left
      ·intro w'; go_simp; with_reducible rfl
      rotate_left
      ·simp only [Act.put, sa_, sb_, sc_, i64_w, i32_w]; rfl
      refine take_ (i := 7) (N := some 28) (v := ?_) (a' := ?_) (mB 11 255) rfl rfl (take_ofW HT_.out HW_.out (by kernel_rfl)) (fun _ _ _ h => h) (Or.inl ⟨by rfl, ?_⟩) hHeld ?_ ?_; rotate_left
      ·rintro w' ⟨s0, s1, s2⟩; go_simp; with_reducible rfl
      rotate_left
      ·simp only [Act.put, sa_, sb_, sc_, i64_w, i32_w]; rfl
      refine one_ (i := 8) (N := some 29) (mB 11 511) rfl rfl (one_of HT_.out (by kernel_rfl)) (by decide) (fun K hK => ?_); refine goes_ Tryd.func27 (by kernel_rfl) rfl #[.slice A173_0 (rd_L1 t170 t168).length c173_0] (by rfl) rfl rfl (by (try simp only [List.map_toArray, List.map_cons, List.map_nil]); first | done | rfl | (simp only [List.length_drop, List.length_take]; rfl)) ?_; with_reducible refine (slices_Clone_bool_bool_27.calls _ _ (rd_L1 t170 t168) t174 _ ?side1 ?side2 A9.out).mono ?_
      (case side1 => repeat (first | exact (by repeat (first | (with_reducible exact HR173_0.out) | (with_reducible refine Kd.C_alloc ?_ _) | (with_reducible refine Kd.C_drewN ?_ _) | (with_reducible refine Kd.C_drew ?_) | exact HR173_0.out)) | (with_reducible refine Kd.C_alloc ?_ _) | (with_reducible refine Kd.C_drewN ?_ _) | (with_reducible refine Kd.C_drew ?_))); (case side2 => exact HC173_0.out); rintro e w24 ⟨v175, rfl, ho0, hb⟩; have HS2_ := (hb.cell (World.block_lt_of_cell? _ _ (hHeld.2.2))).trans (hHeld.2.2); refine ⟨_, rfl, ?_⟩; replace HO0_1 := Aside0.mk (Kd.V_elder' (vk_ HO0_1) (Kd.R_base ho0) hb); replace HO172 := Aside0.mk (Kd.N_elder' (by (with_reducible repeat (first | apply Kd.N_alloc | apply Kd.N_drewN | apply Kd.N_drew)); exact HO172.out) (Kd.R_base ho0) hb); replace HL173_0 := Aside0.mk (Kd.V_elder' (vk_ HL173_0) (Kd.R_base ho0) hb); have HO176 := Aside0.mk (Kd.R_lower (Kd.R_newM (M := fun k_ => (w.heap.size ≤ k_)) ho0 (below_size (bl_ HB)) (fun k_ h_ => h_)) (below_size (bl_ HB))); replace BK165 := Aside0.mk (blk_below (bk_ BK165) hb); replace BK166 := Aside0.mk (blk_below (bk_ BK166) hb); replace HR173_0 := Aside0.mk (Kd.C_below (by repeat (first | (with_reducible exact HR173_0.out) | (with_reducible refine Kd.C_alloc ?_ _) | (with_reducible refine Kd.C_drewN ?_ _) | (with_reducible refine Kd.C_drew ?_) | exact HR173_0.out)) hb); replace HB := Aside0.mk (below_step (bl_ HB) hb); (try clear hb); (try clear ho0)
      have p10 : 0 ≤ (t168 : Int) := of_decide_eq_true (by first | (with_reducible assumption) | assumption); have q10 : (t168 : Int) < ((t170.length : Int) : Int) := of_decide_eq_true (by first | (with_reducible assumption) | assumption); obtain ⟨go10, co10, eo10, gb10, gl10, cl10, HG10⟩ := Kd.N_form HO172.out (by omega)
      (first | cases eo10 | (injection eo10 with ea_ en_ ec_; (first | subst ea_ | (injection ea_ with ea_; subst ea_)); subst ec_; clear en_))
      have GB10 := Aside0.mk gb10; have GG10 := Aside0.mk HG10; clear gb10 gl10 HG10
      (first | simp only [add_plain] at hx173_0 | skip)
      obtain ⟨ce10, hcl10, hM10, hcc10, hfr10⟩ := Kd.N_elem HO172.out [] (t168 : Int) p10 q10; obtain ⟨ua10_0, uc10_0, rfl, ul10_0, ge10_0⟩ := Kd.FK_slice_open hM10; have hx10_0 := hcc10 0 _ rfl; have hf10_0 := hfr10 0; (try simp only [show ((Kd.slice 4 Kd.bool)).sz = 1 from rfl, Nat.mul_one, Nat.add_zero] at hx10_0); (try simp only [show ((Kd.slice 4 Kd.bool)).sz = 1 from rfl, Nat.mul_one, Nat.add_zero] at hf10_0); clear hcl10 hcc10 hfr10; (try clear hM10); replace p10 := eq_true p10; replace q10 := eq_true q10; obtain ⟨g17, cap17, e17, hb17, hg17, cells17, hc17⟩ := Kd.R_form HO176.out (by have h0_ := D0.out; have h1_ := D1.out; omega); subst e17; have HX25 := Aside0.mk (show Kd.N (Kd.slice 4 Kd.bool) 33 _ w.heap.size (fun k_ => (P0_1_ k_ ∨ w.heap.size ≤ k_) ∧ some k_ ≠ ((.slice (some ⟨g17, 0, none⟩) t174.length cap17) : Value).ownBlock ∧ k_ ≠ gb165 ∧ k_ ≠ gb166) (.slice (some ⟨go10, 0, none⟩) t170.length co20) t170 from (Kd.N_mono (HO172.out) (fun k_ hk => ⟨hk.1.1, ⟨hk.2, ⟨hk.1.2.1, hk.1.2.2⟩⟩⟩))); have HZ := HX25; replace HX25 := Aside0.mk (show Kd.N (Kd.slice 4 Kd.bool) 33 _ w.heap.size (fun k_ => (P0_1_ k_ ∨ w.heap.size ≤ k_) ∧ k_ ≠ gb165 ∧ k_ ≠ gb166) (.slice (some ⟨go10, 0, none⟩) t170.length co20) t170 from Kd.N_mono HX25.out (fun k_ hk => ⟨hk.1, ⟨hk.2.2.1, hk.2.2.2⟩⟩))
      obtain ⟨ce25, hcl25, hM25, hcc25, hfr25⟩ := Kd.N_elem HX25.out [] (t168 : Int) (of_decide_eq_true (by first | (with_reducible assumption) | assumption)) (by have h_ : (t168 : Int) < ((t170.length : Int) : Int) := of_decide_eq_true (by first | (with_reducible assumption) | assumption); first | exact h_ | (have e_ := (Kd.N_reads' HO172.out).1; omega) | simpa using h_); obtain ⟨ua25_0, uc25_0, rfl, ul25_0, ge25_0⟩ := Kd.FK_slice_open hM25; have HRa_ := (Kd.R_types (Kd.R_types (Kd.R_apart' (HO176.out) (Kd.N_typed HO172.out) (by decide)) BK165.out (by decide)) BK166.out (by decide)); have HRb_ := Kd.R_mono (ok' := (fun k_ => ((fun k_ => (P0_1_ k_ ∨ w.heap.size ≤ k_) ∧ k_ ≠ gb165 ∧ k_ ≠ gb166)) k_ ∧ k_ ≠ go10)) HRa_ (fun k_ hk => ⟨⟨(.inr (hk.1.1.1.1)), ⟨hk.1.2, hk.2⟩⟩, fun e_ => (hk.1.1.2) (by rw [e_]; rfl)⟩); have HP25 := (Kd.N_seg HX25.out (t168 : Int) (of_decide_eq_true (by first | (with_reducible assumption) | assumption)) (by have h_ : (t168 : Int) < ((t170.length : Int) : Int) := of_decide_eq_true (by first | (with_reducible assumption) | assumption); first | exact h_ | (have e_ := (Kd.N_reads' HO172.out).1; omega) | simpa using h_) (seg := [(.slice (some ⟨g17, 0, none⟩) t174.length cap17)]) (j := 0) hcl25 hcc25 (show 1 ≤ 1 from by decide) (x' := t174) (Kd.FK_slice_mk (Kd.R_reads' HRb_).2.1 (Kd.R_F HRb_)) (fun _ hk => hk)).1; (try simp only [show ((Kd.slice 4 Kd.bool)).sz = 1 from rfl, Nat.mul_one, Nat.add_zero] at HP25); rw [← Ny177.out] at HP25
      have HQ25 := Aside0.mk HP25; have HA18 := Kd.R_types (Kd.R_types (Kd.R_apart' (HO176.out) (Kd.N_typed HO172.out) (by decide)) BK165.out (by decide)) BK166.out (by decide)
      have hne17 : g17 ≠ go10 := fun e_ => (HA18.1 g17 rfl).1.1.2 (by rw [e_]; rfl)
      have HP17 := (Kd.R_put HA18 t169 true).1; have HPm17 := Kd.R_mono (ok' := (fun k_ => ((fun k_ => (P0_1_ k_ ∨ w.heap.size ≤ k_) ∧ k_ ≠ gb165 ∧ k_ ≠ gb166) k_ ∧ k_ ≠ go10))) HP17 (fun k_ hk => ⟨⟨(.inr (hk.1.1.1.1)), ⟨hk.1.2, hk.2⟩⟩, fun e_ => (hk.1.1.2) (by rw [e_]; rfl)⟩); have hf17 := Kd.R_F HPm17; have hl17 := (Kd.R_reads' HPm17).2.1; have hlen17 : (t174.set (t169 : Int).toNat true).length = t174.length := List.length_set; rw [← hlen17] at hf17 hl17; have HZ1 := Kd.N_far HZ.out (p := ⟨g17, (t169 : Int).toNat, none⟩) (fun k_ hk e_ => hk.2.1 (by rw [e_]; rfl)) (.bool true); have HX1 : Kd.N (Kd.slice 4 Kd.bool) 33 _ w.heap.size (fun k_ => (P0_1_ k_ ∨ w.heap.size ≤ k_) ∧ k_ ≠ gb165 ∧ k_ ≠ gb166) (.slice (some ⟨go10, 0, none⟩) t170.length co20) t170 := Kd.N_mono HZ1 (fun k_ hk => ⟨hk.1, hk.2.2.1, hk.2.2.2⟩); obtain ⟨ce1, hcl1, hM1, hcc1, hfr1⟩ := Kd.N_elem HX1 [] (t168 : Int) C7T.out C8T.out; obtain ⟨ua1, uc1, rfl, ul1, ge1⟩ := Kd.FK_slice_open hM1; have HP1 := (Kd.N_seg HX1 (t168 : Int) C7T.out C8T.out (seg := [.slice (some ⟨g17, 0, none⟩) (t174.set (t169 : Int).toNat true).length cap17]) (j := 0) hcl1 hcc1 (show 1 ≤ 1 from by decide) (x' := t174.set (t169 : Int).toNat true) (Kd.FK_slice_mk hl17 hf17) (fun _ hk => hk)).1; (try simp only [show ((Kd.slice 4 Kd.bool)).sz = 1 from rfl, Nat.mul_one, Nat.add_zero] at HP1); rw [List.length_set] at HP1
      have HN17 : Aside0 (Kd.N (Kd.slice 4 Kd.bool) 33 ((w24.setCell ⟨go10, (t168 : Int).toNat, none⟩ (.slice (some ⟨g17, 0, none⟩) t174.length cap17)).setCell ⟨g17, (t169 : Int).toNat, none⟩ (.bool true)) w.heap.size (fun k_ => (P0_1_ k_ ∨ w.heap.size ≤ k_) ∧ k_ ≠ gb165 ∧ k_ ≠ gb166) (.slice (some ⟨go10, 0, none⟩) t170.length co20) (t170.set (t168 : Int).toNat (t174.set (t169 : Int).toNat true))) := ⟨by rw [bitmap_Add.swap _ _ _ _ _ (Ne.symm hne17)]; exact HP1⟩; obtain ⟨ad17, e17b, hx17⟩ := Kd.at_bool (Kd.R_reads' HA18).2.2 t169 D0.out D1.out
      cases e17b; rw [Addr.add_lit, Nat.zero_add] at hx17; have HBIT : Aside0 ((w24.setCell ⟨go10, (t168 : Int).toNat, none⟩ (.slice (some ⟨g17, 0, none⟩) t174.length cap17)).cell? ⟨g17, (t169 : Int).toNat, none⟩ = some (.bool (rdOf false t174 t169))) := ⟨by unfold World.cell? at hx17 ⊢; rw [Below.heap_setCell _ _ _ _ hne17]; exact hx17⟩; have HBK17 : Aside0 ((w24.setCell ⟨go10, (t168 : Int).toNat, none⟩ (.slice (some ⟨g17, 0, none⟩) t174.length cap17)).heap[g17]? = some (.cells cells17 4 (0, 0))) := ⟨blk_far hc17 hne17 _⟩; have HE17 : Aside0 ((w24.setCell ⟨go10, (t168 : Int).toNat, none⟩ (.slice (some ⟨g17, 0, none⟩) t174.length cap17)).cell? ⟨go10, (t168 : Int).toNat, none⟩ = some (.slice (some ⟨g17, 0, none⟩) t174.length cap17)) := ⟨bitmap_Add.same hx10_0 _⟩; have HB17 : Aside0 (w.heap.size ≤ g17) := ⟨hb17⟩; have HN1 : Aside0 (gb165 ≠ g17) := ⟨fun e_ => (HA18.1 g17 rfl).1.2 e_.symm⟩; have HN2 : Aside0 (gb166 ≠ g17) := ⟨fun e_ => (HA18.1 g17 rfl).2 e_.symm⟩; clear HP1 HX1 HZ1 HP17 HPm17 hf17 hl17 hlen17 HA18 hx17 hc17 hb17 hg17 hcl1 hcc1 hfr1 hM1; clear hcl25 hcc25 hfr25 hM25 HP25; refine hK.out _ _ ⟨(blk_cell BK165.out 0).trans rfl, (blk_cell BK165.out 1).trans rfl, HS2_⟩ (fun hHeld => ?_); clear hK K; refine norm_ (a' := ?_) ?_ ?_; rotate_left
      ·show Act.put _ (some 29) _ = _
       simp only [Act.put, sa_, sb_, sc_, i64_w, i32_w]; rfl
      refine pw_ 9 30 (v := ?_) (a' := ?_) (mB 11 1023) rfl rfl HT_ (by kernel_rfl) (fun _ _ _ h => h) ?_ ?_ ?_; rotate_left
      ·intro w'; go_simp; with_reducible rfl
      rotate_left
      ·simp only [Act.put, sa_, sb_, sc_, i64_w, i32_w]; rfl
      refine last_ (i := 10) (N := none) (mB 11 2047) rfl rfl (one_of HT_.out (by kernel_rfl)) (by decide) (fun K hK => ?_); refine skip_ (w1 := ?_) (by rfl) rfl ?_ ?_; rotate_left
      ·go_simp; rfl
      refine hK.out _ _ ?_; clear hK K; refine done_ (done_of HT_.out (by kernel_rfl)) ?_; have n0_ : Aside0 (Kd.V (Kd.slice 4 Kd.bool) 33 (w24.setCell ⟨go10, (t168 : Int).toNat, none⟩ (.slice (some ⟨g17, 0, none⟩) t174.length cap17)) w.heap.size (fun k_ => (P0_1_ k_ ∨ w.heap.size ≤ k_) ∧ some k_ ≠ (.slice (some ⟨go10, 0, none⟩) t170.length co20 : Value).ownBlock ∧ k_ ≠ gb165 ∧ k_ ≠ gb166) (.slice A0_1 l0_1.length c0_1) l0_1) := ⟨by (with_reducible repeat (first | apply Kd.V_alloc | apply Kd.V_drewN | apply Kd.V_drew)); exact Kd.V_mono (Kd.V_far (p := ⟨go10, (t168 : Int).toNat, none⟩) (Kd.V_mono HO0_1.out (fun k_ hk => (⟨hk, fun e_ => hk.1.2.1 (by rw [e_]; rfl)⟩ : _ ∧ k_ ≠ go10))) (fun _ hk => hk.2) (.slice (some ⟨g17, 0, none⟩) t174.length cap17)) (fun _ hk => ⟨hk.1.1.1, ⟨hk.1.1.2.1, ⟨hk.1.1.2.2.1, hk.1.1.2.2.2⟩⟩⟩)⟩; have n1_ : Aside0 (Kd.N (Kd.slice 4 Kd.bool) 33 (w24.setCell ⟨go10, (t168 : Int).toNat, none⟩ (.slice (some ⟨g17, 0, none⟩) t174.length cap17)) w.heap.size (fun k_ => (P0_1_ k_ ∨ w.heap.size ≤ k_) ∧ k_ ≠ gb165 ∧ k_ ≠ gb166) (.slice (some ⟨go10, 0, none⟩) t170.length co20) y177) := ⟨by (with_reducible repeat (first | apply Kd.N_alloc | apply Kd.N_drewN | apply Kd.N_drew)); exact HQ25.out⟩
      have n2_ : Aside0 (Kd.V Kd.bool 4 (w24.setCell ⟨go10, (t168 : Int).toNat, none⟩ (.slice (some ⟨g17, 0, none⟩) t174.length cap17)) w.heap.size (fun k_ => (P0_1_ k_ ∨ w.heap.size ≤ k_) ∧ some k_ ≠ (.slice (some ⟨go10, 0, none⟩) t170.length co20 : Value).ownBlock ∧ k_ ≠ gb165 ∧ k_ ≠ gb166) (.slice A173_0 (rd_L1 t170 t168).length c173_0) (rd_L1 t170 t168)) := ⟨by (with_reducible repeat (first | apply Kd.V_alloc | apply Kd.V_drewN | apply Kd.V_drew)); exact Kd.V_mono (Kd.V_far (p := ⟨go10, (t168 : Int).toNat, none⟩) (Kd.V_mono HL173_0.out (fun k_ hk => (⟨hk, fun e_ => hk.1.2 (by rw [e_]; rfl)⟩ : _ ∧ k_ ≠ go10))) (fun _ hk => hk.2) (.slice (some ⟨g17, 0, none⟩) t174.length cap17)) (fun _ hk => ⟨hk.1.1.1.1, ⟨hk.1.1.2, ⟨hk.1.1.1.2.1, hk.1.1.1.2.2⟩⟩⟩)⟩; have n3_ : Aside0 ((w24.setCell ⟨go10, (t168 : Int).toNat, none⟩ (.slice (some ⟨g17, 0, none⟩) t174.length cap17)).heap[gb165]? = some (.cells #[.int .u64 a0_0, .slice (some ⟨go10, 0, none⟩) t170.length co20] 25 (0, 0))) := ⟨by (with_reducible repeat (first | refine blk_drewN ?_ _ | refine blk_drew ?_ | refine blk_alloc ?_ _)); refine blk_far ?_ (by have h_ := Kd.N_away HO172.out (fun _ hk => hk.1.2.1); intro e_; exact h_ (by rw [e_]; rfl)) _; (with_reducible repeat (first | refine blk_drewN ?_ _ | refine blk_drew ?_ | refine blk_alloc ?_ _)); exact BK165.out⟩
      have n4_ : Aside0 ((w24.setCell ⟨go10, (t168 : Int).toNat, none⟩ (.slice (some ⟨g17, 0, none⟩) t174.length cap17)).heap[gb166]? = some (.cells #[.int .u64 0, .slice none 0 0] 25 (0, 0))) := ⟨by (with_reducible repeat (first | refine blk_drewN ?_ _ | refine blk_drew ?_ | refine blk_alloc ?_ _)); refine blk_far ?_ (by have h_ := Kd.N_away HO172.out (fun _ hk => hk.1.2.2); intro e_; exact h_ (by rw [e_]; rfl)) _; (with_reducible repeat (first | refine blk_drewN ?_ _ | refine blk_drew ?_ | refine blk_alloc ?_ _)); exact BK166.out⟩; have n5_ : Aside0 (Below w.heap.size w (w24.setCell ⟨go10, (t168 : Int).toNat, none⟩ (.slice (some ⟨g17, 0, none⟩) t174.length cap17))) := ⟨by repeat (first | (with_reducible first | exact HB.out | apply below_alloc | apply pw_below_drewN | apply below_drew1 | refine below_set ?_ GB10.out | refine below_set ?_ GE165.out | refine below_set ?_ GE166.out) | exact HB.out)⟩; (try clear HO0_1); (try clear HO172); (try clear HL173_0); (try clear BK165); (try clear BK166); (try clear HB); replace HN17 := HN17.out; replace HBIT := HBIT.out; replace HBK17 := HBK17.out; replace HE17 := HE17.out; generalize (w24.setCell ⟨go10, (t168 : Int).toNat, none⟩ (.slice (some ⟨g17, 0, none⟩) t174.length cap17)) = w26 at n0_ n1_ n2_ n3_ n4_ n5_ HN17 HBIT HBK17 HE17 ⊢; have HO0_1 := n0_; have HO172 := n1_; have HL173_0 := n2_; have BK165 := n3_; have BK166 := n4_; have HB := n5_; clear n0_ n1_ n2_ n3_ n4_ n5_
      have hcz27_0 : w26.cell? ⟨gb165, 0, none⟩ = some (.int .u64 a0_0) := (blk_cell BK165.out 0).trans rfl; have hcz27_1 : w26.cell? ⟨gb165, 1, none⟩ = some (.slice (some ⟨go10, 0, none⟩) t170.length co20) := (blk_cell BK165.out 1).trans rfl; have hfz27_0 := blk_frozen BK165.out 0; have hfz27_1 := blk_frozen BK165.out 1; have hcz28_0 : w26.cell? ⟨gb166, 0, none⟩ = some (.int .u64 0) := (blk_cell BK166.out 0).trans rfl; have hcz28_1 : w26.cell? ⟨gb166, 1, none⟩ = some (.slice none 0 0) := (blk_cell BK166.out 1).trans rfl; have hfz28_0 := blk_frozen BK166.out 0; have hfz28_1 := blk_frozen BK166.out 1; have hfz17 := blk_frozen HBK17 (t169 : Int).toNat; have d2b : decide (0 ≤ t168) = true := decide_eq_true C7T.out; have d3b : decide (t168 < (t170.length : Int)) = true := decide_eq_true C8T.out; have e2b := eq_true C7T.out; have e3b := eq_true C8T.out; have e0b := eq_true D0.out; have e1b := eq_true D1.out
      go_upto_region 7 with fail
      have n0_ : Aside0 ((w26.setCell ⟨g17, (t169 : Int).toNat, none⟩ (.bool true)).heap[gb165]? = some (.cells #[.int .u64 a0_0, .slice (some ⟨go10, 0, none⟩) t170.length co20] 25 (0, 0))) := ⟨blk_far BK165.out HN1.out _⟩; have n1_ : Aside0 ((w26.setCell ⟨g17, (t169 : Int).toNat, none⟩ (.bool true)).heap[gb166]? = some (.cells #[.int .u64 0, .slice none 0 0] 25 (0, 0))) := ⟨blk_far BK166.out HN2.out _⟩; have n2_ : Aside0 (Below w.heap.size w (w26.setCell ⟨g17, (t169 : Int).toNat, none⟩ (.bool true))) := ⟨below_set HB.out HB17.out⟩; clear BK165 BK166 HB HO172; generalize (w26.setCell ⟨g17, (t169 : Int).toNat, none⟩ (.bool true)) = w27 at n0_ n1_ n2_ HN17 ⊢; have HO172 := Aside0.mk HN17; have BK165 := n0_; have BK166 := n1_; have HB := n2_; clear n0_ n1_ n2_ HN17; have hcy0 : w27.cell? ⟨gb165, 0, none⟩ = some (.int .u64 a0_0) := (blk_cell BK165.out 0).trans rfl; have hcy1 : w27.cell? ⟨gb165, 1, none⟩ = some (.slice (some ⟨go10, 0, none⟩) t170.length co20) := (blk_cell BK165.out 1).trans rfl; have hcy2 : w27.cell? ⟨gb166, 0, none⟩ = some (.int .u64 0) := (blk_cell BK166.out 0).trans rfl; have hcy3 : w27.cell? ⟨gb166, 1, none⟩ = some (.slice none 0 0) := (blk_cell BK166.out 1).trans rfl; have hfy0 := blk_frozen BK165.out 0; have hfy1 := blk_frozen BK165.out 1; have hfy2 := blk_frozen BK166.out 0; have hfy3 := blk_frozen BK166.out 1
      try go_wp2
      refine bodyPost_ret (results_cell_row rfl _ _ gb166 25 #[.int .u64 a0_0, .slice (some ⟨go10, 0, none⟩) t170.length co20] (0, 0) _ rfl (by (with_reducible repeat (first | refine blk_drewN ?_ _ | refine blk_drew ?_ | refine blk_alloc ?_ _)); refine blk_put (cs := #[.int .u64 a0_0, .slice none 0 0]) ?_ 1 _ rfl; (with_reducible repeat (first | refine blk_drewN ?_ _ | refine blk_drew ?_ | refine blk_alloc ?_ _)); refine blk_put (cs := #[.int .u64 0, .slice none 0 0]) ?_ 0 _ rfl; (with_reducible repeat (first | refine blk_drewN ?_ _ | refine blk_drew ?_ | refine blk_alloc ?_ _)); exact BK166.out) Tryd.underlying25 rfl (by kernel_rfl)) rfl ?_; exact ⟨_, by first | rfl | (simp [errW_none, errW_some] <;> rfl) | (simp [*, errW_none, errW_some] <;> rfl), Kd.N_V (by (with_reducible repeat (first | apply Kd.N_alloc | apply Kd.N_drewN | apply Kd.N_drew)); exact Kd.N_mono (Kd.N_far (p := ⟨gb166, 1, none⟩) (Kd.N_far (p := ⟨gb166, 0, none⟩) (Kd.N_mono HO172.out (fun k_ hk => (⟨hk, hk.2.2⟩ : _ ∧ k_ ≠ gb166))) (fun _ hk => hk.2) (.int .u64 a0_0)) (fun _ hk => hk.2) (.slice (some ⟨go10, 0, none⟩) t170.length co20)) (fun _ hk => hk.1.1)), bl_ HB⟩
     ·rw [if_neg d1] at H; exact absurd H (by simp)
    ·rw [if_neg d0] at H; exact absurd H (by simp)
   ·rw [if_neg c8] at H; exact absurd H (by simp)
  ·rw [if_neg c7] at H; exact absurd H (by simp)
 ·replace c4 := Bool.eq_false_iff.mpr c4; subst c4
  have H1 : (some (a0_0, l0_1)) = some (r1, r2) := by rw [if_neg (show ¬ (false = true) by decide)] at H; exact H
  clear H; have H := H1; clear H1; simp only [Option.some.injEq, Prod.mk.injEq] at H; obtain ⟨rfl, rfl⟩ := H
  go_enter Tryd.func15, Tryd.ntmps15
  go_wp2_with (first | ((with_reducible refine gate_dst (N := 2) rfl ?_); refine box_event ?hg (N := 2) ?hd (cs := #[.int .u64 a0_0, .slice A0_1 l0_1.length c0_1]) (t := 25) ?hr ?_; (case hd => rfl); (case hg => rfl); (case hr => first | (go_simp; done) | (go_simp; rfl)); intro gb165 hg w29 hbox hb; have n0_ := Aside0.mk (Kd.V_below (Kd.V_elderB (vk_ HO0_1) gb165 (Nat.le_of_eq hg.symm)) hb); have n1_ := Aside0.mk (below_step (bl_ HB) hb); have n2_ := Aside0.mk (hbox); have n3_ := Aside0.mk (gl_ hg HB); have n4_ := Aside0.mk (gl_ hg HB); clear HO0_1; clear HB; have HO0_1 := n0_; have HB := n1_; have BK165 := n2_; have GW165 := n3_; have GE165 := n4_; clear n0_ n1_ n2_ n3_ n4_; clear hb hbox hg) | ((with_reducible refine gate_dst (N := 4) rfl ?_); refine box_event ?hg (N := 4) ?hd (cs := #[.int .u64 0, .slice none 0 0]) (t := 25) ?hr ?_; (case hd => rfl); (case hg => rfl); (case hr => first | (go_simp; done) | (go_simp; rfl)); intro gb166 hg w30 hbox hb; have n0_ := Aside0.mk (Kd.V_below (Kd.V_elderB (vk_ HO0_1) gb166 (Nat.le_of_eq hg.symm)) hb); have n1_ := Aside0.mk (blk_below (bk_ BK165) hb); have n2_ := Aside0.mk (below_step (bl_ HB) hb); have n3_ := Aside0.mk (hbox); have n4_ := Aside0.mk (gl_ hg HB); have n5_ := Aside0.mk (gl_ hg HB); have n6_ := Aside0.mk (nl_ hg BK165); have n7_ := Aside0.mk (ng_ hg BK165); clear HO0_1; clear BK165; clear HB; have HO0_1 := n0_; have BK165 := n1_; have HB := n2_; have BK166 := n3_; have GW166 := n4_; have GE166 := n5_; have NB165_166 := n6_; have NB166_165 := n7_; clear n0_ n1_ n2_ n3_ n4_ n5_ n6_ n7_; clear hb hbox hg; have hnb31 := NB165_166.out; have hnc31 := NB166_165.out; have hcz32_0 : w30.cell? ⟨gb165, 0, none⟩ = some (.int .u64 a0_0) := (blk_cell BK165.out 0).trans rfl; have hcz32_1 : w30.cell? ⟨gb165, 1, none⟩ = some (.slice A0_1 l0_1.length c0_1) := (blk_cell BK165.out 1).trans rfl; have hfz32_0 := blk_frozen BK165.out 0; have hfz32_1 := blk_frozen BK165.out 1) | ((with_reducible refine gate_callee (f := 13) rfl ?_); refine goesL_ (some 8) rfl rfl Tryd.func13 (by kernel_rfl) rfl #[.agg #[.int .u64 a0_0, .slice A0_1 l0_1.length c0_1]] rfl (by (try simp only [List.map_toArray, List.map_cons, List.map_nil]); first | done | rfl | (simp only [List.length_drop, List.length_take]; rfl)) ?_; (with_reducible refine (bitmap_Right.calls a0_0 _ _ l0_1 false _ ?side1 ?side2 A3.out).mono ?_); (case side1 => repeat (first | exact (Kd.V_reads' HO0_1.out).2.2 | (with_reducible refine Kd.C_alloc ?_ _) | (with_reducible refine Kd.C_drewN ?_ _) | (with_reducible refine Kd.C_drew ?_))); (case side2 => exact (Kd.V_reads' HO0_1.out).2.1); rintro e w33 ⟨rfl, hb⟩; refine ⟨_, rfl, ?_⟩; have n0_ := Aside0.mk (Kd.V_below (vk_ HO0_1) hb); have n1_ := Aside0.mk (blk_below (bk_ BK165) hb); have n2_ := Aside0.mk (blk_below (bk_ BK166) hb); have n3_ := Aside0.mk (below_step (bl_ HB) hb); clear HO0_1; clear BK165; clear BK166; clear HB; have HO0_1 := n0_; have BK165 := n1_; have BK166 := n2_; have HB := n3_; clear n0_ n1_ n2_ n3_; (try clear hb); (try clear hb2); (try clear hk); (try clear hi); have hcz34_0 : w33.cell? ⟨gb165, 0, none⟩ = some (.int .u64 a0_0) := (blk_cell BK165.out 0).trans rfl; have hcz34_1 : w33.cell? ⟨gb165, 1, none⟩ = some (.slice A0_1 l0_1.length c0_1) := (blk_cell BK165.out 1).trans rfl; have hfz34_0 := blk_frozen BK165.out 0; have hfz34_1 := blk_frozen BK165.out 1; have hcz35_0 : w33.cell? ⟨gb166, 0, none⟩ = some (.int .u64 0) := (blk_cell BK166.out 0).trans rfl; have hcz35_1 : w33.cell? ⟨gb166, 1, none⟩ = some (.slice none 0 0) := (blk_cell BK166.out 1).trans rfl; have hfz35_0 := blk_frozen BK166.out 0; have hfz35_1 := blk_frozen BK166.out 1))
  refine bodyPost_ret (results_cell_row rfl _ _ gb166 25 #[.int .u64 a0_0, .slice A0_1 l0_1.length c0_1] (0, 0) _ rfl (by (with_reducible repeat (first | refine blk_drewN ?_ _ | refine blk_drew ?_ | refine blk_alloc ?_ _)); refine blk_put (cs := #[.int .u64 a0_0, .slice none 0 0]) ?_ 1 _ rfl; (with_reducible repeat (first | refine blk_drewN ?_ _ | refine blk_drew ?_ | refine blk_alloc ?_ _)); refine blk_put (cs := #[.int .u64 0, .slice none 0 0]) ?_ 0 _ rfl; (with_reducible repeat (first | refine blk_drewN ?_ _ | refine blk_drew ?_ | refine blk_alloc ?_ _)); exact BK166.out) Tryd.underlying25 rfl (by kernel_rfl)) rfl ?_; exact ⟨_, by first | rfl | (simp [errW_none, errW_some] <;> rfl) | (simp [*, errW_none, errW_some] <;> rfl), by (with_reducible repeat (first | apply Kd.V_alloc | apply Kd.V_drewN | apply Kd.V_drew)); exact Kd.V_mono (Kd.V_far (p := ⟨gb166, 1, none⟩) (Kd.V_far (p := ⟨gb166, 0, none⟩) (Kd.V_mono HO0_1.out (fun k_ hk => (⟨hk, hk.2⟩ : _ ∧ k_ ≠ gb166))) (fun _ hk => hk.2) (.int .u64 a0_0)) (fun _ hk => hk.2) (.slice A0_1 l0_1.length c0_1)) (fun _ hk => hk.1.1.1), bl_ HB⟩

