/- Of keys that came: the numbers that are told of one bound how often it came. No condition beyond the kinds of the arguments. -/
import Derived.Test.YtljmjjeghebdpaaPElasticBoundsy
import Derived.Test.YtljmjjeghebdpaaBits
import Derived.Test.YtljmjjeghebdpaaNum
import Derived.Test.YtljmjjeghebdpaaHash
import Derived.Test.YtljmjjeghebdpaaLeast
import Derived.Test.YtljmjjeghebdpaaLeastVal
import Derived.Test.YtljmjjeghebdpaaEvs
namespace Go.Proofs.Ytljmjjeghebdpaa.Pure
open Go.RowKit Go.Proofs.Ytljmjjeghebdpaa.PElasticBounds Go.Proofs.YtljmjjeghebdpaaW.PrintWords Go.Proofs.YtljmjjeghebdpaaW.PrintLast Go.Proofs.Ytljmjjeghebdpaa.Bits Go.Proofs.Ytljmjjeghebdpaa.Num Go.Proofs.Ytljmjjeghebdpaa.Hash Go.Proofs.Ytljmjjeghebdpaa.Least Go.Proofs.Ytljmjjeghebdpaa.LeastVal Go.Proofs.Ytljmjjeghebdpaa.Evs
set_option linter.unusedSimpArgs false
set_option linter.unusedVariables false

theorem min_l0 (l : List Int) (hl : l.length ≤ 256) : ∀ (d k i : Nat) (m : Int), l.length - i = d → i ≤ l.length → d < k →
    ∃ t, slices_Min_int_int.l0 k l m i = some t ∧ ∀ c, c ≤ t ↔ (c ≤ m ∧ ∀ j, i ≤ j → j < l.length → c ≤ l.getD j 0) := by
  intro d
  induction d with
  | zero =>
    intro k i m h0 hi hk
    obtain ⟨k, rfl⟩ : ∃ m, k = m + 1 := ⟨k - 1, by omega⟩
    simp only [slices_Min_int_int.l0]
    rw [if_neg (by omega)]
    exact ⟨m, rfl, fun c => ⟨fun h => ⟨h, fun j a b => by omega⟩, fun h => h.1⟩⟩
  | succ d ih =>
    intro k i m h0 hi hk
    obtain ⟨k, rfl⟩ : ∃ m, k = m + 1 := ⟨k - 1, by omega⟩
    have g : i < l.length := by omega
    have e : rd l (i : Int) = l.getD i 0 := rfl
    have hm := mn_le m (l.getD i 0)
    obtain ⟨t, ht, ht2⟩ := ih k (i + 1) (mn m (l.getD i 0)) (by omega) (by omega) (by omega)
    simp only [slices_Min_int_int.l0]
    rw [if_pos (by omega), if_pos (by omega), e, i64_in ((i : Int) + 1) (by omega) (by omega), show (i : Int) + 1 = ((i + 1 : Nat) : Int) by omega]
    refine ⟨t, ht, fun c => (ht2 c).trans ⟨fun h => ⟨by have := h.1; omega, fun j a b => ?_⟩, fun h => ⟨?_, fun j a b => h.2 j (by omega) b⟩⟩⟩
    · by_cases e' : j = i
      · subst e'; have := h.1; omega
      · exact h.2 j (by omega) b
    · have := h.1; have := h.2 i (Nat.le_refl _) g; omega

theorem min_spec (k : Nat) (l : List Int) (h1 : 1 ≤ l.length) (hl : l.length ≤ 256) (hk : 258 ≤ k) : ∃ t, slices_Min_int_int.f k l = some t ∧ ∀ c, c ≤ t ↔ ∀ j, j < l.length → c ≤ l.getD j 0 := by
  obtain ⟨t, ht, ht2⟩ := min_l0 l hl (l.length - 1) k 1 (l.getD 0 0) (by omega) (by omega) (by omega)
  unfold slices_Min_int_int.f
  rw [if_pos (by omega)]
  refine ⟨t, ht, fun c => (ht2 c).trans ⟨fun h j b => ?_, fun h => ⟨h 0 (by omega), fun j _ b => h j b⟩⟩⟩
  by_cases e : j = 0
  · subst e; exact h.1
  · exact h.2 j (by omega) b

theorem mx_ge (a b : Int) : a ≤ mx a b ∧ b ≤ mx a b ∧ (mx a b = a ∨ mx a b = b) := by
  unfold mx
  split <;> omega

theorem max_l0 (l : List Int) (hl : l.length ≤ 256) : ∀ (d k i : Nat) (m : Int), l.length - i = d → i ≤ l.length → d < k →
    ∃ t, slices_Max_int_int.l0 k l m i = some t ∧ ∀ c, t ≤ c ↔ (m ≤ c ∧ ∀ j, i ≤ j → j < l.length → l.getD j 0 ≤ c) := by
  intro d
  induction d with
  | zero =>
    intro k i m h0 hi hk
    obtain ⟨k, rfl⟩ : ∃ m, k = m + 1 := ⟨k - 1, by omega⟩
    simp only [slices_Max_int_int.l0]
    rw [if_neg (by omega)]
    exact ⟨m, rfl, fun c => ⟨fun h => ⟨h, fun j a b => by omega⟩, fun h => h.1⟩⟩
  | succ d ih =>
    intro k i m h0 hi hk
    obtain ⟨k, rfl⟩ : ∃ m, k = m + 1 := ⟨k - 1, by omega⟩
    have g : i < l.length := by omega
    have e : rd l (i : Int) = l.getD i 0 := rfl
    have hm := mx_ge m (l.getD i 0)
    obtain ⟨t, ht, ht2⟩ := ih k (i + 1) (mx m (l.getD i 0)) (by omega) (by omega) (by omega)
    simp only [slices_Max_int_int.l0]
    rw [if_pos (by omega), if_pos (by omega), e, i64_in ((i : Int) + 1) (by omega) (by omega), show (i : Int) + 1 = ((i + 1 : Nat) : Int) by omega]
    refine ⟨t, ht, fun c => (ht2 c).trans ⟨fun h => ⟨by have := h.1; omega, fun j a b => ?_⟩, fun h => ⟨?_, fun j a b => h.2 j (by omega) b⟩⟩⟩
    · by_cases e' : j = i
      · subst e'; have := h.1; omega
      · exact h.2 j (by omega) b
    · have := h.1; have := h.2 i (Nat.le_refl _) g; omega

theorem max_spec (k : Nat) (l : List Int) (h1 : 1 ≤ l.length) (hl : l.length ≤ 256) (hk : 258 ≤ k) : ∃ t, slices_Max_int_int.f k l = some t ∧ ∀ c, t ≤ c ↔ ∀ j, j < l.length → l.getD j 0 ≤ c := by
  obtain ⟨t, ht, ht2⟩ := max_l0 l hl (l.length - 1) k 1 (l.getD 0 0) (by omega) (by omega) (by omega)
  unfold slices_Max_int_int.f
  rw [if_pos (by omega)]
  refine ⟨t, ht, fun c => (ht2 c).trans ⟨fun h j b => ?_, fun h => ⟨h 0 (by omega), fun j _ b => h j b⟩⟩⟩
  by_cases e : j = 0
  · subst e; exact h.1
  · exact h.2 j (by omega) b

def rowB (most : Int) (rows : List (List Int)) (r : List Int) : Bool := decide (rowOk most (colsOf rows) r)

theorem right_l0 (s most : Int) (rows : List (List Int)) (h1 : 1 ≤ rows.length) (h7 : rows.length ≤ 7) : ∀ (d k i : Nat), rows.length - i = d → i ≤ rows.length → d + 260 ≤ k →
    least_Right.l0 k rows rows.length i s most rows = some ((rows.drop i).all (rowB most rows)) := by
  intro d
  induction d with
  | zero =>
    intro k i h0 hi hk
    obtain ⟨k, rfl⟩ : ∃ m, k = m + 1 := ⟨k - 1, by omega⟩
    simp only [least_Right.l0]
    rw [if_neg (by omega), List.drop_of_length_le (by omega)]
    rfl
  | succ d ih =>
    intro k i h0 hi hk
    obtain ⟨k, rfl⟩ : ∃ m, k = m + 1 := ⟨k - 1, by omega⟩
    have g : i < rows.length := by omega
    have hb := ih k (i + 1) (by omega) (by omega) (by omega)
    have e : rd_L1 rows (i : Int) = rows[i] := by
      show rows.getD i [] = rows[i]
      simp [List.getD_eq_getElem?_getD, g]
    have e0 : ((rd_L1 rows 0).length : Int) = (colsOf rows : Int) := rfl
    rw [List.drop_eq_getElem_cons g, List.all_cons]
    simp only [least_Right.l0]
    rw [if_pos (by omega), if_pos (by omega), if_pos (by omega), e, e0, i64_in ((i : Int) + 1) (by omega) (by omega), show (i : Int) + 1 = ((i + 1 : Nat) : Int) by omega]
    generalize rows[i] = r
    by_cases c1 : (r.length : Int) < 1
    · rw [if_pos c1, rowB, decide_eq_false (fun o => by have := o.1; omega)]; rfl
    · rw [if_neg c1]
      by_cases c2 : (r.length : Int) > 256
      · rw [if_pos c2, rowB, decide_eq_false (fun o => by have := o.2.1; omega)]; rfl
      · rw [if_neg c2, if_pos (by omega)]
        by_cases c3 : (r.length : Int) = (colsOf rows : Int)
        · rw [if_pos c3]
          obtain ⟨t, ht, ht2⟩ := min_spec k r (by omega) (by omega) (by omega)
          obtain ⟨u, hu, hu2⟩ := max_spec k r (by omega) (by omega) (by omega)
          rw [ht]; simp only [Option.bind_some]
          by_cases c4 : t < 0
          · rw [if_pos c4, rowB, decide_eq_false (fun o => by have := (ht2 0).2 (fun j hj => (o.2.2.2 _ (getD_num r j hj)).1); omega)]; rfl
          · rw [if_neg c4, hu]; simp only [Option.bind_some]
            by_cases c5 : u > most
            · rw [if_pos c5, rowB, decide_eq_false (fun o => by have := (hu2 most).2 (fun j hj => (o.2.2.2 _ (getD_num r j hj)).2); omega)]; rfl
            · rw [if_neg c5, rowB, decide_eq_true, hb]; rfl
              refine ⟨by omega, by omega, by omega, fun x hx => ?_⟩
              obtain ⟨n, hn, hn2⟩ := List.mem_iff_getElem.1 hx
              have A := (ht2 0).1 (by omega) n hn
              have B := (hu2 most).1 (by omega) n hn
              have E : r.getD n 0 = x := by simp [List.getD_eq_getElem?_getD, hn, hn2]
              omega
        · rw [if_neg c3, rowB, decide_eq_false (fun o => by have := o.2.2.1; omega)]; rfl

theorem all_rows (most : Int) (rows : List (List Int)) (h1 : 1 ≤ most) (h2 : most ≤ 1099511627776) (h3 : 1 ≤ rows.length) (h4 : rows.length ≤ 7) : rows.all (rowB most rows) = decide (rightL most rows) := by
  rw [Bool.eq_iff_iff, List.all_eq_true, decide_eq_true_iff]
  unfold rowB rightL
  exact ⟨fun h => ⟨h1, h2, h3, h4, fun r hr => of_decide_eq_true (h r hr)⟩, fun h r hr => decide_eq_true (h.2.2.2.2 r hr)⟩

theorem right_spec (k : Nat) (s most : Int) (rows : List (List Int)) (hk : 300 ≤ k) : least_Right.f k s most rows = some (decide (rightL most rows)) := by
  obtain ⟨k, rfl⟩ : ∃ m, k = m + 1 := ⟨k - 1, by omega⟩
  unfold least_Right.f
  by_cases c1 : most < 1
  · rw [if_pos c1, decide_eq_false (fun o => by have := o.1; omega)]; rfl
  · rw [if_neg c1]
    by_cases c2 : most > 1099511627776
    · rw [if_pos c2, decide_eq_false (fun o => by have := o.2.1; omega)]; rfl
    · rw [if_neg c2]
      by_cases c3 : (rows.length : Int) < 1
      · rw [if_pos c3, decide_eq_false (fun o => by have := o.2.2.1; omega)]; rfl
      · rw [if_neg c3]
        by_cases c4 : (rows.length : Int) > 7
        · rw [decide_eq_true c4, decide_eq_false (fun o => by have := o.2.2.2.1; omega)]; rfl
        · rw [decide_eq_false c4]
          simp only [least_Right.j0]
          rw [if_neg (by decide)]
          have h := right_l0 s most rows (by omega) (by omega) rows.length k 0 (by omega) (by omega) (by omega)
          rw [List.drop_zero, all_rows most rows (by omega) (by omega) (by omega) (by omega)] at h
          exact h

theorem of_spec (a : Int) (h0 : 0 ≤ a) (h1 : a < 18446744073709551616) : field_Of.f a = some (a % 2305843009213693951) := by
  unfold field_Of.f
  rw [and_p a h0 h1, u64_in _ (by omega) (by omega)]
  split
  · rw [u64_in _ (by omega) (by omega)]
    exact congrArg some (by omega)
  · exact congrArg some (by omega)

theorem add_spec (a b : Int) (h0 : 0 ≤ a) (h1 : a < 18446744073709551616) (g0 : 0 ≤ b) (g1 : b < 18446744073709551616) :
    field_Add.f a b = some ((a + b) % 2305843009213693951) := by
  unfold field_Add.f
  rw [of_spec a h0 h1, of_spec b g0 g1]
  simp only [Option.bind_some]
  rw [u64_in _ (by omega) (by omega), of_spec _ (by omega) (by omega)]
  simp only [Option.bind_some]
  exact congrArg some (by omega)

theorem mul64_spec (a b : Int) (h0 : 0 ≤ a) (h1 : a < 18446744073709551616) (g0 : 0 ≤ b) (g1 : b < 18446744073709551616) :
    bits_Mul64.f a b = some (a * b / 18446744073709551616, a * b % 18446744073709551616) := by
  unfold bits_Mul64.f
  have hh := halves a b
  obtain ⟨p0, p1⟩ := mul_bd (a := a / 4294967296) (b := b / 4294967296) (by omega) (by omega) (by omega) (by omega)
  obtain ⟨q0, q1⟩ := mul_bd (a := a / 4294967296) (b := b % 4294967296) (by omega) (by omega) (by omega) (by omega)
  obtain ⟨r0, r1⟩ := mul_bd (a := a % 4294967296) (b := b / 4294967296) (by omega) (by omega) (by omega) (by omega)
  obtain ⟨s0, s1⟩ := mul_bd (a := a % 4294967296) (b := b % 4294967296) (by omega) (by omega) (by omega) (by omega)
  rw [and_32 a h0 h1, and_32 b g0 g1]
  generalize a / 4294967296 * (b / 4294967296) = p at *
  generalize a / 4294967296 * (b % 4294967296) = q at *
  generalize a % 4294967296 * (b / 4294967296) = r at *
  generalize a % 4294967296 * (b % 4294967296) = s at *
  generalize a * b = m at *
  clear h0 h1 g0 g1
  rw [u64_in p (by omega) (by omega), u64_in q (by omega) (by omega), u64_in r (by omega) (by omega), u64_in s (by omega) (by omega)]
  rw [u64_in (q + s / 4294967296) (by omega) (by omega)]
  rw [and_32 _ (by omega) (by omega)]
  rw [u64_in (p + _) (by omega) (by omega), u64_in (_ + r) (by omega) (by omega), wrap_u64 m]
  rw [u64_in _ (by omega) (by omega)]
  exact congrArg some (Prod.ext (by show _ = _; omega) rfl)

theorem mul_spec (a b : Int) (h0 : 0 ≤ a) (h1 : a < 18446744073709551616) (g0 : 0 ≤ b) (g1 : b < 18446744073709551616) :
    field_Mul.f a b = some (a * b % 2305843009213693951) := by
  unfold field_Mul.f
  rw [of_spec a h0 h1, of_spec b g0 g1, Int.mul_emod]
  simp only [Option.bind_some]
  have x0 : 0 ≤ a % 2305843009213693951 := by omega
  have x1 : a % 2305843009213693951 ≤ 2305843009213693950 := by omega
  have y0 : 0 ≤ b % 2305843009213693951 := by omega
  have y1 : b % 2305843009213693951 ≤ 2305843009213693950 := by omega
  generalize a % 2305843009213693951 = x at *
  generalize b % 2305843009213693951 = y at *
  rw [mul64_spec x y x0 (by omega) y0 (by omega)]
  simp only [Option.bind_some]
  have hm : 0 ≤ x * y ∧ x * y ≤ 2305843009213693950 * 2305843009213693950 := ⟨Int.mul_nonneg x0 y0, Int.mul_le_mul x1 y1 y0 (by omega)⟩
  generalize x * y = m at *
  obtain ⟨m0, m1⟩ := hm
  rw [and_p _ (by omega) (by omega)]
  rw [u64_in (_ * 8) (by omega) (by omega)]
  rw [or_3 _ _ (by omega) (by omega) (by omega) (by omega) (by omega)]
  rw [u64_in _ (by omega) (by omega), of_spec _ (by omega) (by omega)]
  simp only [Option.bind_some]
  exact congrArg some (by omega)

theorem row_spec (seed i : Int) (h0 : 0 ≤ seed) (h1 : seed < 18446744073709551616) (hi : i < 9223372036854775808) : hash_Row.f seed i = some (hrow seed i) := by
  unfold hash_Row.f hrow hmid
  have e : mx i 0 = if i < 0 then 0 else i := rfl
  rw [e, add_spec seed 3 h0 h1 (by omega) (by omega)]
  generalize hj : (if i < 0 then (0 : Int) else i) = j
  have hj0 : 0 ≤ j ∧ j < 9223372036854775808 := by rw [← hj]; split <;> omega
  simp only [Option.bind_some]
  rw [u64_in j (by omega) (by omega), add_spec j 2 (by omega) (by omega) (by omega) (by omega)]
  simp only [Option.bind_some]
  rw [mul_spec _ _ (by omega) (by omega) (by omega) (by omega)]
  simp only [Option.bind_some]
  rw [add_spec _ 5 (by omega) (by omega) (by omega) (by omega)]
  simp only [Option.bind_some]
  rw [mul_spec _ _ (by omega) (by omega) (by omega) (by omega)]
  rfl

theorem sq_half (x n : Int) (h0 : 0 ≤ n) : (x * x % 2305843009213693951) ^ (n / 2).toNat % 2305843009213693951 = x ^ (2 * (n.toNat / 2)) % 2305843009213693951 := by
  rw [pow_emod, Int.pow_mul, show (n / 2).toNat = n.toNat / 2 by omega, show x ^ 2 = x * x by grind]

theorem pow_l0 (d : Nat) : ∀ (k : Nat) (x n out : Int), 0 ≤ x → x < 2305843009213693951 → 0 ≤ n → n < 18446744073709551616 → n < 2 ^ d → 0 ≤ out → out < 2305843009213693951 → d < k →
    field_Pow.l0 k x n out = some (out * x ^ n.toNat % 2305843009213693951) := by
  induction d with
  | zero =>
    intro k x n out x0 x1 n0 n1 nd o0 o1 hk
    obtain ⟨k, rfl⟩ : ∃ m, k = m + 1 := ⟨k - 1, by omega⟩
    have hn : n = 0 := by simp at nd; omega
    simp only [field_Pow.l0]
    rw [if_neg (by omega), hn]
    exact congrArg some (by simp; omega)
  | succ d ih =>
    intro k x n out x0 x1 n0 n1 nd o0 o1 hk
    obtain ⟨k, rfl⟩ : ∃ m, k = m + 1 := ⟨k - 1, by omega⟩
    simp only [field_Pow.l0]
    by_cases hp : n > 0
    · rw [if_pos hp, and_1 n n0 n1, mul_spec x x x0 (by omega) x0 (by omega), mul_spec out x o0 (by omega) x0 (by omega)]
      simp only [Option.bind_some]
      have hd : n / 2 < 2 ^ d := by rw [Int.pow_succ] at nd; omega
      split
      · rw [ih k _ (n / 2) _ (by omega) (by omega) (by omega) (by omega) hd (by omega) (by omega) (by omega)]
        have e : n.toNat = 2 * (n.toNat / 2) + 1 := by omega
        refine congrArg some ?_
        rw [Int.mul_emod, sq_half x n n0, ← Int.mul_emod]
        rw [Int.mul_emod, Int.emod_emod, ← Int.mul_emod]
        conv => rhs; rw [e, Int.pow_succ, Int.mul_comm _ x, ← Int.mul_assoc]
      · rw [ih k _ (n / 2) _ (by omega) (by omega) (by omega) (by omega) hd o0 o1 (by omega)]
        have e : n.toNat = 2 * (n.toNat / 2) := by omega
        refine congrArg some ?_
        rw [Int.mul_emod, sq_half x n n0, ← Int.mul_emod]
        conv => rhs; rw [e]
    · have hn : n = 0 := by omega
      rw [if_neg hp, hn]
      exact congrArg some (by simp; omega)

theorem pow_spec (k : Nat) (a n : Int) (h0 : 0 ≤ a) (h1 : a < 18446744073709551616) (g0 : 0 ≤ n) (g1 : n < 18446744073709551616) (hk : 65 ≤ k) :
    field_Pow.f k a n = some (a ^ n.toNat % 2305843009213693951) := by
  unfold field_Pow.f
  rw [of_spec a h0 h1]
  simp only [Option.bind_some]
  rw [pow_l0 64 k _ n 1 (by omega) (by omega) g0 g1 (by omega) (by omega) (by omega) (by omega), Int.one_mul, pow_emod]

theorem sum_step (s : ByteArray) (a n i x j j' : Int) (k : Nat) (hj : j' = j + 1) (hs : s.size ≤ 140737488351232) (i0 : 0 ≤ i) (i1 : i ≤ s.size) (j0 : 0 ≤ j) (j1 : j < 4) (x0 : 0 ≤ x) (x1 : x < 72057594037927936) :
    hash_Sum.l1 (k + 1) s a n i x j = hash_Sum.l1 k s a n i (x * 256 + bt s (i + j)) j' := by
  subst hj
  have hb := bt_range s (i + j)
  conv => lhs; unfold hash_Sum.l1
  rw [if_pos j1, i64_in (i + j) (by omega) (by omega), i64_in (j + 1) (by omega) (by omega), u64_in (x * 256) (by omega) (by omega), u64_in (bt s (i + j)) (by omega) (by omega)]
  by_cases h : i + j < (s.size : Int)
  · rw [if_pos h, if_pos (by omega), or_8 (x * 256) _ (by omega) (by omega) (by omega) (by omega) (by omega)]
  · rw [if_neg h, bt_out s (i + j) (by omega), Int.add_zero]

theorem sum_word (s : ByteArray) (a n i : Int) (k : Nat) (hs : s.size ≤ 140737488351232) (i0 : 0 ≤ i) (i1 : i ≤ s.size) :
    hash_Sum.l1 (k + 4) s a n i 0 0 = hash_Sum.l1 k s a n i (wordAt s i) 4 := by
  have h0 := bt_range s i
  have h1 := bt_range s (i + 1)
  have h2 := bt_range s (i + 2)
  rw [sum_step s a n i 0 0 1 (k + 3) (by omega) hs i0 i1 (by omega) (by omega) (by omega) (by omega), Int.add_zero, Int.zero_mul, Int.zero_add,
    sum_step s a n i _ 1 2 (k + 2) (by omega) hs i0 i1 (by omega) (by omega) (by omega) (by omega),
    sum_step s a n i _ 2 3 (k + 1) (by omega) hs i0 i1 (by omega) (by omega) (by omega) (by omega),
    sum_step s a n i _ 3 4 k (by omega) hs i0 i1 (by omega) (by omega) (by omega) (by omega)]
  rfl

theorem sum_l0 (s : ByteArray) (a : Int) (hs : s.size ≤ 140737488351232) (a0 : 0 ≤ a) (a1 : a < 18446744073709551616) : ∀ (m k : Nat) (n i : Int), 0 ≤ i → (s.size : Int) ≤ i + 4 * m → i < (s.size : Int) + 4 → (0 < m → i + 4 * m < (s.size : Int) + 4) →
    0 ≤ n → n < 18446744073709551616 → 6 * m + 66 ≤ k →
    hash_Sum.l0 k s a n i = some ((roll s a m n i * a) ^ 17 % 2305843009213693951) := by
  intro m
  induction m with
  | zero =>
    intro k n i i0 i1 i2 i3 n0 n1 hk
    obtain ⟨k, rfl⟩ : ∃ m, k = m + 1 := ⟨k - 1, by omega⟩
    unfold hash_Sum.l0
    rw [if_neg (by omega), mul_spec n a n0 n1 a0 a1]
    simp only [Option.bind_some]
    rw [pow_spec k _ 17 (by omega) (by omega) (by omega) (by omega) (by omega), show (17 : Int).toNat = 17 from rfl, pow_emod]
    rfl
  | succ m ih =>
    intro k n i i0 i1 i2 i3 n0 n1 hk
    obtain ⟨k, rfl⟩ : ∃ m, k = m + 1 := ⟨k - 1, by omega⟩
    obtain ⟨k, rfl⟩ : ∃ m, k = m + 4 := ⟨k - 4, by omega⟩
    have hw := wordAt_range s i
    have i4 : i < (s.size : Int) := by omega
    unfold hash_Sum.l0
    rw [if_pos i4, sum_word s a n i k hs i0 (by omega)]
    obtain ⟨k, rfl⟩ : ∃ m, k = m + 1 := ⟨k - 1, by omega⟩
    unfold hash_Sum.l1
    rw [if_neg (by omega), mul_spec n a n0 n1 a0 a1, u64_in _ (by omega) (by omega)]
    simp only [Option.bind_some]
    rw [add_spec _ _ (by omega) (by omega) (by omega) (by omega), i64_in (i + 4) (by omega) (by omega)]
    simp only [Option.bind_some]
    rw [ih k _ (i + 4) (by omega) (by omega) (by omega) (by omega) (by omega) (by omega) (by omega)]
    simp only [roll]
    have e : (n * a % 2305843009213693951 + (wordAt s i + 1)) % 2305843009213693951 = (n * a + wordAt s i + 1) % 2305843009213693951 := by omega
    rw [e]

theorem sum_spec (k : Nat) (seed : Int) (s : ByteArray) (hs : s.size ≤ 140737488351232) (h0 : 0 ≤ seed) (h1 : seed < 18446744073709551616) (hk : 6 * words s + 66 ≤ k) :
    hash_Sum.f k seed s = some (hsum seed s) := by
  unfold hash_Sum.f
  rw [add_spec seed 2 h0 h1 (by omega) (by omega), u64_in _ (by omega) (by omega)]
  simp only [Option.bind_some]
  have hw : words s = (s.size + 3) / 4 := rfl
  exact sum_l0 s _ hs (by omega) (by omega) (words s) k s.size 0 (by omega) (by omega) (by omega) (by omega) (by omega) (by omega) hk

theorem cell_spec (k : Nat) (seed : Int) (key : ByteArray) (n : Int) (hs : key.size ≤ 140737488351232) (h0 : 0 ≤ seed) (h1 : seed < 18446744073709551616) (hn : n < 9223372036854775808) (hk : 6 * words key + 66 ≤ k) :
    hash_Cell.f k seed key n = some (hcell seed key n) := by
  unfold hash_Cell.f hcell
  by_cases a : n < 1
  · rw [if_pos a, if_pos a]
  · rw [if_neg a, if_neg a, sum_spec k seed key hs h0 h1 hk]
    simp only [Option.bind_some]
    have r := hsum_range seed key
    have r1 := Int.emod_nonneg (hsum seed key) (b := n) (by omega)
    have r2 := Int.emod_lt_of_pos (hsum seed key) (b := n) (by omega)
    rw [u64_in n (by omega) (by omega), if_neg (by omega), Int.tmod_eq_emod_of_nonneg r.1, i64_in _ (by omega) (by omega)]

theorem clone_nums (l : List Int) (h : l.length < 17592186044416) : slices_Clone_int_int.f l = some l := by
  unfold slices_Clone_int_int.f
  simp only [Option.bind_some, List.length_nil, List.nil_append]
  rw [if_pos (by omega)]

theorem getD_set (l : List (List Int)) (i j : Nat) (v : List Int) (h : i < l.length) : (l.set i v).getD j [] = if i = j then v else l.getD j [] := by
  by_cases e : i = j
  · subst e
    rw [if_pos rfl, List.getD_eq_getElem?_getD, List.getElem?_set_self h]
    rfl
  · rw [if_neg e, List.getD_eq_getElem?_getD, List.getElem?_set_ne e, ← List.getD_eq_getElem?_getD]

theorem clone_l0 (s most : Int) (rows : List (List Int)) (hl : rows.length ≤ 7) (hr : ∀ r ∈ rows, r.length ≤ 256) : ∀ (d k i : Nat) (cur : List (List Int)), rows.length - i = d → i ≤ rows.length → cur.length = rows.length → (∀ j, j < i → cur.getD j [] = rows.getD j []) → d < k →
    least_clone.l0 k cur rows rows.length i s most rows = some (s, most, rows) := by
  intro d
  induction d with
  | zero =>
    intro k i cur h0 hi hc hj hk
    obtain ⟨k, rfl⟩ : ∃ m, k = m + 1 := ⟨k - 1, by omega⟩
    simp only [least_clone.l0]
    rw [if_neg (by omega), ext_rows cur rows hc (fun j h => hj j (by omega))]
  | succ d ih =>
    intro k i cur h0 hi hc hj hk
    obtain ⟨k, rfl⟩ : ∃ m, k = m + 1 := ⟨k - 1, by omega⟩
    have g : i < rows.length := by omega
    have e : rd_L1 rows (i : Int) = rows.getD i [] := rfl
    have hm := hr _ (getD_row rows i g)
    simp only [least_clone.l0]
    rw [if_pos (by omega), if_pos (by omega), if_pos (by omega), e, clone_nums _ (by omega)]
    simp only [Option.bind_some]
    rw [if_pos (by omega), i64_in ((i : Int) + 1) (by omega) (by omega), show (i : Int) + 1 = ((i + 1 : Nat) : Int) by omega]
    refine ih k (i + 1) _ (by omega) (by omega) (by rw [List.length_set]; exact hc) (fun j hj2 => ?_) (by omega)
    show (cur.set i _).getD j [] = _
    rw [getD_set cur i j _ (by omega)]
    by_cases e' : i = j
    · rw [if_pos e', e']
    · rw [if_neg e']; exact hj j (by omega)

theorem clone_spec (k : Nat) (s most : Int) (rows : List (List Int)) (hl : rows.length ≤ 7) (hr : ∀ r ∈ rows, r.length ≤ 256) (hk : 10 ≤ k) : least_clone.f k s most rows = some (s, most, rows) := by
  unfold least_clone.f
  rw [if_pos (by omega), if_pos (by omega)]
  exact clone_l0 s most rows hl hr rows.length k 0 _ (by omega) (by omega) (by simp) (fun j h => by omega) (by omega)

theorem addf_l0 (s most n : Int) (key : ByteArray) (rows : List (List Int)) (hs0 : 0 ≤ s) (hs1 : s < 18446744073709551616) (h : rightL most rows) (hn : 0 ≤ n) (hn2 : n ≤ 1099511627776) (hkey : key.size ≤ 1000) : ∀ (d k i : Nat) (cur : List (List Int)), rows.length - i = d → i ≤ rows.length → cur.length = rows.length → (∀ j, j < i → cur.getD j [] = freshRow s most key n j (rows.getD j [])) → (∀ j, i ≤ j → cur.getD j [] = rows.getD j []) → d + 2000 ≤ k →
    least_Add.l0 k key n cur rows.length i s most = some (s, most, addRows s most key n rows, 0) := by
  have hw := words_le key 250 (by omega)
  intro d
  induction d with
  | zero =>
    intro k i cur h0 hi hc hj hj2 hk
    obtain ⟨k, rfl⟩ : ∃ m, k = m + 1 := ⟨k - 1, by omega⟩
    simp only [least_Add.l0]
    rw [if_neg (by omega), ext_rows cur (addRows s most key n rows) (by rw [addRows_length]; exact hc) (fun j h => by rw [hj j (by omega), addRows_get s most key n rows j (by omega)])]
  | succ d ih =>
    intro k i cur h0 hi hc hj hj2 hk
    obtain ⟨k, rfl⟩ : ∃ m, k = m + 1 := ⟨k - 1, by omega⟩
    have g : i < rows.length := by omega
    have h7 := h.2.2.2.1
    have e : rd_L1 cur (i : Int) = rows.getD i [] := hj2 i (Nat.le_refl _)
    have hr := hrow_range s i
    have ho := h.2.2.2.2 _ (getD_row rows i g)
    have hce := hcell_range (hrow s i) key (rows.getD i []).length (by have := ho.1; omega)
    have hlen := ho.2.1
    simp only [least_Add.l0]
    rw [if_pos (by omega), if_pos (by omega), row_spec s i hs0 hs1 (by omega)]
    simp only [Option.bind_some]
    rw [e, cell_spec k _ key _ (by omega) hr.1 (by omega) (by omega) (by omega)]
    simp only [Option.bind_some]
    rw [if_pos hce.1, if_pos hce.2]
    have hv : rd (rows.getD i []) (hcell (hrow s i) key (rows.getD i []).length) = (rows.getD i []).getD (cellAt s key i (rows.getD i [])).toNat 0 := rfl
    have hvr := ho.2.2.2 _ (getD_num (rows.getD i []) (cellAt s key i (rows.getD i [])).toNat (by unfold cellAt; omega))
    have hm := h.2.1
    rw [hv, i64_in _ (by omega) (by omega), i64_in ((i : Int) + 1) (by omega) (by omega), show (i : Int) + 1 = ((i + 1 : Nat) : Int) by omega]
    refine ih k (i + 1) _ (by omega) (by omega) (by rw [List.length_set]; exact hc) (fun j hj3 => ?_) (fun j hj3 => ?_) (by omega)
    · show (cur.set i (freshRow s most key n i (rows.getD i []))).getD j [] = _
      rw [getD_set cur i j _ (by omega)]
      by_cases e' : i = j
      · rw [if_pos e', e']
      · rw [if_neg e']; exact hj j (by omega)
    · show (cur.set i _).getD j [] = _
      rw [getD_set cur i j _ (by omega), if_neg (by omega)]
      exact hj2 j (by omega)

theorem addf_spec (k : Nat) (s most n : Int) (key : ByteArray) (rows : List (List Int)) (hs0 : 0 ≤ s) (hs1 : s < 18446744073709551616) (hkey : key.size ≤ 1000) (hk : 2100 ≤ k) :
    least_Add.f k s most rows key n = some (if rightL most rows ∧ 0 ≤ n ∧ n ≤ 1099511627776 then (s, most, addRows s most key n rows, 0) else (0, 0, [], 1)) := by
  obtain ⟨k, rfl⟩ : ∃ m, k = m + 1 := ⟨k - 1, by omega⟩
  unfold least_Add.f
  rw [right_spec _ s most rows (by omega)]
  simp only [Option.bind_some]
  by_cases r : rightL most rows
  · rw [if_pos (decide_eq_true r)]
    by_cases c1 : n < 0
    · rw [if_pos c1, if_neg (fun o => by have := o.2.1; omega)]; rfl
    · rw [if_neg c1]
      by_cases c2 : n > 1099511627776
      · rw [decide_eq_true c2, if_neg (fun o => by have := o.2.2; omega)]; rfl
      · rw [decide_eq_false c2, if_pos ⟨r, by omega, by omega⟩]
        simp only [least_Add.j0]
        rw [if_neg (by decide), clone_spec k s most rows r.2.2.2.1 (fun x hx => (r.2.2.2.2 x hx).2.1) (by omega)]
        simp only [Option.bind_some]
        have h7 := r.2.2.2.1
        exact addf_l0 s most n key rows hs0 hs1 r (by omega) (by omega) hkey rows.length k 0 rows (by omega) (by omega) rfl (fun j h => by omega) (fun j h => rfl) (by omega)
  · rw [if_neg (by rw [decide_eq_false r]; decide), if_neg (fun o => r o.1)]; rfl

theorem getf_l0 (s most : Int) (key : ByteArray) (rows : List (List Int)) (hs0 : 0 ≤ s) (hs1 : s < 18446744073709551616) (h : rightL most rows) (hkey : key.size ≤ 1000) : ∀ (d k i : Nat) (m : Int), rows.length - i = d → i ≤ rows.length → d + 2000 ≤ k →
    least_Get.l0 k key m rows rows.length i s most rows = some (downTo (valAt s key rows) d i m, decide (downTo (valAt s key rows) d i m < most)) := by
  have hw := words_le key 250 (by omega)
  intro d
  induction d with
  | zero =>
    intro k i m h0 hi hk
    obtain ⟨k, rfl⟩ : ∃ m, k = m + 1 := ⟨k - 1, by omega⟩
    simp only [least_Get.l0]
    rw [if_neg (by omega)]
    rfl
  | succ d ih =>
    intro k i m h0 hi hk
    obtain ⟨k, rfl⟩ : ∃ m, k = m + 1 := ⟨k - 1, by omega⟩
    have g : i < rows.length := by omega
    have h7 := h.2.2.2.1
    have e : rd_L1 rows (i : Int) = rows.getD i [] := rfl
    have hr := hrow_range s i
    have ho := h.2.2.2.2 _ (getD_row rows i g)
    have hce := hcell_range (hrow s i) key (rows.getD i []).length (by have := ho.1; omega)
    have hlen := ho.2.1
    simp only [least_Get.l0]
    rw [if_pos (by omega), if_pos (by omega), if_pos (by omega), row_spec s i hs0 hs1 (by omega)]
    simp only [Option.bind_some]
    rw [e, cell_spec k _ key _ (by omega) hr.1 (by omega) (by omega) (by omega)]
    simp only [Option.bind_some]
    rw [if_pos hce.1, if_pos hce.2, i64_in ((i : Int) + 1) (by omega) (by omega), show (i : Int) + 1 = ((i + 1 : Nat) : Int) by omega]
    exact ih k (i + 1) _ (by omega) (by omega) (by omega)

theorem getf_spec (k : Nat) (s most : Int) (key : ByteArray) (rows : List (List Int)) (hs0 : 0 ≤ s) (hs1 : s < 18446744073709551616) (hkey : key.size ≤ 1000) (hk : 2100 ≤ k) :
    least_Get.f k s most rows key = some (if rightL most rows then (getL s most key rows, decide (getL s most key rows < most)) else (0, false)) := by
  unfold least_Get.f
  rw [right_spec _ s most rows (by omega)]
  simp only [Option.bind_some]
  by_cases r : rightL most rows
  · rw [if_pos (decide_eq_true r), if_pos r]
    have h7 := r.2.2.2.1
    exact getf_l0 s most key rows hs0 hs1 r hkey rows.length k 0 most (by omega) (by omega) (by omega)
  · rw [if_neg (by rw [decide_eq_false r]; decide), if_neg r]

theorem new_l0 (s most : Int) (c n : Nat) (hc : c ≤ 256) (hn : n ≤ 7) : ∀ (d k i : Nat), n - i = d → i ≤ n → d < k →
    least_New.l0 k c n i s most (List.replicate i (List.replicate c 0)) = some (s, most, List.replicate n (List.replicate c 0), 0) := by
  intro d
  induction d with
  | zero =>
    intro k i h0 hi hk
    obtain ⟨k, rfl⟩ : ∃ m, k = m + 1 := ⟨k - 1, by omega⟩
    simp only [least_New.l0]
    rw [if_neg (by omega), show i = n by omega]
  | succ d ih =>
    intro k i h0 hi hk
    obtain ⟨k, rfl⟩ : ∃ m, k = m + 1 := ⟨k - 1, by omega⟩
    have hl : (List.replicate i (List.replicate c (0 : Int))).length = i := List.length_replicate
    have h := ih k (i + 1) (by omega) (by omega) (by omega)
    rw [List.replicate_succ'] at h
    simp only [least_New.l0]
    rw [if_pos (by omega), if_pos (by omega), if_pos (by omega), if_pos (by omega), i64_in ((i : Int) + 1) (by omega) (by omega), show (i : Int) + 1 = ((i + 1 : Nat) : Int) by omega]
    exact h

theorem new_spec (k : Nat) (s n c most : Int) (hk : 20 ≤ k) : least_New.f k s n c most = some (if 1 ≤ n ∧ n ≤ 7 ∧ 1 ≤ c ∧ c ≤ 256 ∧ 1 ≤ most ∧ most ≤ 1099511627776 then (s, most, List.replicate n.toNat (List.replicate c.toNat 0), 0) else (0, 0, [], 1)) := by
  obtain ⟨k, rfl⟩ : ∃ m, k = m + 1 := ⟨k - 1, by omega⟩
  unfold least_New.f
  by_cases c1 : n < 1
  · rw [if_pos c1, if_neg (by omega)]; rfl
  · rw [if_neg c1]
    by_cases c2 : n > 7
    · rw [if_pos c2, if_neg (by omega)]; rfl
    · rw [if_neg c2]
      by_cases c3 : c < 1
      · rw [if_pos c3, if_neg (by omega)]; rfl
      · rw [if_neg c3]
        by_cases c4 : c > 256
        · rw [if_pos c4, if_neg (by omega)]; rfl
        · rw [if_neg c4]
          by_cases c5 : most < 1
          · rw [if_pos c5, if_neg (by omega)]; rfl
          · rw [if_neg c5]
            by_cases c6 : most > 1099511627776
            · rw [decide_eq_true c6, if_neg (by omega)]; rfl
            · rw [decide_eq_false c6, if_pos (by omega)]
              simp only [least_New.j0]
              rw [if_neg (by decide)]
              obtain ⟨n, rfl⟩ := Int.eq_ofNat_of_zero_le (show 0 ≤ n by omega)
              obtain ⟨c, rfl⟩ := Int.eq_ofNat_of_zero_le (show 0 ≤ c by omega)
              exact new_l0 s most c n (by omega) (by omega) n k 0 (by omega) (by omega) (by omega)

theorem new_right (n c : Nat) (most : Int) (hn : 1 ≤ n) (hn2 : n ≤ 7) (hc : 1 ≤ c) (hc2 : c ≤ 256) (hm : 1 ≤ most) (hm2 : most ≤ 1099511627776) : rightL most (List.replicate n (List.replicate c 0)) := by
  have hcols : colsOf (List.replicate n (List.replicate c (0 : Int))) = c := by
    obtain ⟨m, rfl⟩ : ∃ m, n = m + 1 := ⟨n - 1, by omega⟩
    simp [colsOf, List.replicate_succ]
  refine ⟨hm, hm2, by rw [List.length_replicate]; exact hn, by rw [List.length_replicate]; exact hn2, fun r hr => ?_⟩
  rw [hcols]
  obtain ⟨_, rfl⟩ := List.mem_replicate.1 hr
  refine ⟨by rw [List.length_replicate]; exact hc, by rw [List.length_replicate]; exact hc2, List.length_replicate, fun x hx => ?_⟩
  obtain ⟨_, rfl⟩ := List.mem_replicate.1 hx
  omega

theorem short_l0 (l : List ByteArray) (hl : l.length ≤ 1000000) : ∀ (d k i : Nat), l.length - i = d → i ≤ l.length → d < k →
    rillmeterref10_Short.l0 k l i = some (decide (∀ s ∈ l.drop i, s.size ≤ 100)) := by
  intro d
  induction d with
  | zero =>
    intro k i h0 h1 h2
    obtain ⟨k, rfl⟩ : ∃ m, k = m + 1 := ⟨k - 1, by omega⟩
    simp only [rillmeterref10_Short.l0]
    rw [if_neg (by omega), List.drop_of_length_le (by omega)]
    simp
  | succ d ih =>
    intro k i h0 h1 h2
    obtain ⟨k, rfl⟩ : ∃ m, k = m + 1 := ⟨k - 1, by omega⟩
    have g : i < l.length := by omega
    have e : rdOf ByteArray.empty l i = l[i] := by simp [rdOf, g]
    simp only [rillmeterref10_Short.l0]
    rw [if_pos (by omega), if_pos (by omega), e, i64_in ((i : Int) + 1) (by omega) (by omega), show (i : Int) + 1 = ((i + 1 : Nat) : Int) by omega, ih k (i + 1) (by omega) (by omega) (by omega), List.drop_eq_getElem_cons g]
    by_cases c : (l[i].size : Int) > 100
    · rw [if_pos c]
      exact congrArg some (decide_eq_false (fun h => by have := h l[i] List.mem_cons_self; omega)).symm
    · rw [if_neg c]
      exact congrArg some (decide_eq_decide.2 ⟨fun h s hs => by rcases List.mem_cons.1 hs with rfl | hs; omega; exact h s hs, fun h s hs => h s (List.mem_cons_of_mem _ hs)⟩)

theorem short_spec (k : Nat) (l : List ByteArray) (m : Int) (hm : 0 ≤ m ∧ m ≤ 1000) (hk : 1002 ≤ k) :
    rillmeterref10_Short.f k l m = some (decide ((l.length : Int) ≤ m ∧ ∀ s ∈ l, s.size ≤ 100)) := by
  unfold rillmeterref10_Short.f
  by_cases c : (l.length : Int) > m
  · rw [if_pos c]
    exact congrArg some (decide_eq_false (fun h => by omega)).symm
  · have h := short_l0 l (by omega) l.length k 0 (by omega) (by omega) (by omega)
    rw [show ((0 : Nat) : Int) = 0 from rfl, List.drop_zero] at h
    rw [if_neg c, h]
    exact congrArg some (decide_eq_decide.2 ⟨fun h => ⟨by omega, h⟩, fun h => h.2⟩)

theorem rmul_l0 (d : Nat) : ∀ (k : Nat) (x n out : Int), 0 ≤ x → x < 2305843009213693951 → 0 ≤ n → n < 2305843009213693951 → n < 2 ^ d → 0 ≤ out → out < 2305843009213693951 → d < k →
    rillmeterref01_Mul.l0 k x n out = some ((out + x * n) % 2305843009213693951) := by
  induction d with
  | zero =>
    intro k x n out x0 x1 n0 n1 nd o0 o1 hk
    obtain ⟨k, rfl⟩ : ∃ m, k = m + 1 := ⟨k - 1, by omega⟩
    have hn : n = 0 := by simp at nd; omega
    simp only [rillmeterref01_Mul.l0]
    rw [if_neg (by omega), hn]
    exact congrArg some (by simp; omega)
  | succ d ih =>
    intro k x n out x0 x1 n0 n1 nd o0 o1 hk
    obtain ⟨k, rfl⟩ : ∃ m, k = m + 1 := ⟨k - 1, by omega⟩
    simp only [rillmeterref01_Mul.l0]
    by_cases hp : n > 0
    · have hd : n / 2 < 2 ^ d := by rw [Int.pow_succ] at nd; omega
      rw [if_pos hp, Int.tmod_eq_emod_of_nonneg n0, Int.tdiv_eq_ediv_of_nonneg n0, u64_in (x + x) (by omega) (by omega), u64_in (n / 2) (by omega) (by omega),
        u64_in (out + x) (by omega) (by omega), Int.tmod_eq_emod_of_nonneg (by omega), Int.tmod_eq_emod_of_nonneg (by omega)]
      split
      · rw [ih k _ (n / 2) _ (by omega) (by omega) (by omega) (by omega) hd (by omega) (by omega) (by omega)]
        have e : n = 2 * (n / 2) + 1 := by omega
        refine congrArg some ?_
        generalize n / 2 = m at *
        subst e
        rw [Int.add_emod, Int.emod_emod, Int.mul_emod, Int.emod_emod, ← Int.mul_emod, ← Int.add_emod]
        exact congrArg (· % _) (by grind)
      · rw [ih k _ (n / 2) _ (by omega) (by omega) (by omega) (by omega) hd o0 o1 (by omega)]
        have e : n = 2 * (n / 2) := by omega
        refine congrArg some ?_
        generalize n / 2 = m at *
        subst e
        rw [Int.add_emod, Int.mul_emod, Int.emod_emod, ← Int.mul_emod, ← Int.add_emod]
        exact congrArg (· % _) (by grind)
    · have hn : n = 0 := by omega
      rw [if_neg hp, hn]
      exact congrArg some (by simp; omega)

theorem rmul_spec (k : Nat) (a b : Int) (h0 : 0 ≤ a) (g0 : 0 ≤ b) (hk : 65 ≤ k) :
    rillmeterref01_Mul.f k a b = some (a * b % 2305843009213693951) := by
  unfold rillmeterref01_Mul.f
  rw [Int.tmod_eq_emod_of_nonneg h0, Int.tmod_eq_emod_of_nonneg g0]
  rw [rmul_l0 61 k _ _ 0 (by omega) (by omega) (by omega) (by omega) (by omega) (by omega) (by omega) (by omega), Int.zero_add, ← Int.mul_emod]

theorem radd_spec (a b : Int) (h0 : 0 ≤ a) (g0 : 0 ≤ b) : rillmeterref01_Add.f a b = some ((a + b) % 2305843009213693951) := by
  unfold rillmeterref01_Add.f
  rw [Int.tmod_eq_emod_of_nonneg h0, Int.tmod_eq_emod_of_nonneg g0, u64_in _ (by omega) (by omega), Int.tmod_eq_emod_of_nonneg (by omega)]
  exact congrArg some (by omega)

theorem rpow_rec (d : Nat) : ∀ (k : Nat) (a n : Int), 0 ≤ a → a < 18446744073709551616 → 0 ≤ n → n < 18446744073709551616 → n < 2 ^ d → 66 + d ≤ k →
    rillmeterref01_Pow.f k a n = some (a ^ n.toNat % 2305843009213693951) := by
  induction d with
  | zero =>
    intro k a n x0 x1 n0 n1 nd hk
    obtain ⟨k, rfl⟩ : ∃ m, k = m + 1 := ⟨k - 1, by omega⟩
    have hn : n = 0 := by simp at nd; omega
    simp only [rillmeterref01_Pow.f]
    rw [if_pos hn, hn]
    exact congrArg some (by simp)
  | succ d ih =>
    intro k a n x0 x1 n0 n1 nd hk
    obtain ⟨k, rfl⟩ : ∃ m, k = m + 1 := ⟨k - 1, by omega⟩
    simp only [rillmeterref01_Pow.f]
    by_cases hp : n = 0
    · rw [if_pos hp, hp]
      exact congrArg some (by simp)
    · have hd : n / 2 < 2 ^ d := by rw [Int.pow_succ] at nd; omega
      rw [if_neg hp, Int.tmod_eq_emod_of_nonneg n0, Int.tdiv_eq_ediv_of_nonneg n0, u64_in (n / 2) (by omega) (by omega)]
      rw [ih k a (n / 2) x0 x1 (by omega) (by omega) hd (by omega)]
      simp only [Option.bind_some]
      rw [rmul_spec k _ _ (by omega) (by omega) (by omega)]
      simp only [Option.bind_some]
      have e2 : a ^ (n / 2).toNat % 2305843009213693951 * (a ^ (n / 2).toNat % 2305843009213693951) % 2305843009213693951 = a ^ (2 * (n.toNat / 2)) % 2305843009213693951 := by
        rw [← Int.mul_emod, ← Int.pow_add, show (n / 2).toNat + (n / 2).toNat = 2 * (n.toNat / 2) by omega]
      rw [e2]
      split
      · rw [rmul_spec k _ _ (by omega) x0 (by omega)]
        have e : n.toNat = 2 * (n.toNat / 2) + 1 := by omega
        refine congrArg some ?_
        rw [Int.mul_emod, Int.emod_emod, ← Int.mul_emod]
        conv => rhs; rw [e, Int.pow_succ]
      · have e : n.toNat = 2 * (n.toNat / 2) := by omega
        refine congrArg some ?_
        conv => rhs; rw [e]

theorem rpow_spec (k : Nat) (a n : Int) (h0 : 0 ≤ a) (h1 : a < 18446744073709551616) (g0 : 0 ≤ n) (g1 : n < 18446744073709551616) (hk : 130 ≤ k) :
    rillmeterref01_Pow.f k a n = some (a ^ n.toNat % 2305843009213693951) :=
  rpow_rec 64 k a n h0 h1 g0 g1 (by omega) (by omega)

theorem rrow_j0 (k : Nat) (seed i : Int) (h0 : 0 ≤ seed) (hi0 : 0 ≤ i) (hi : i < 9223372036854775808) (hk : 132 ≤ k) : rillmeterref02_Row.j0 k seed i = some (hrow seed i) := by
  obtain ⟨k, rfl⟩ : ∃ m, k = m + 1 := ⟨k - 1, by omega⟩
  simp only [rillmeterref02_Row.j0]
  unfold hrow hmid
  rw [if_neg (by omega), u64_in i (by omega) (by omega), radd_spec seed 3 h0 (by omega), radd_spec i 2 hi0 (by omega)]
  simp only [Option.bind_some]
  rw [rmul_spec k _ _ (by omega) (by omega) (by omega)]
  simp only [Option.bind_some]
  rw [radd_spec _ 5 (by omega) (by omega)]
  simp only [Option.bind_some]
  rw [rpow_spec k _ 2 (by omega) (by omega) (by omega) (by omega) (by omega), show (2 : Int).toNat = 2 from rfl]
  simp only [Option.bind_some]
  rw [show ∀ x : Int, x ^ 2 = x * x from fun x => by rw [Int.pow_succ, Int.pow_succ, Int.pow_zero, Int.one_mul]]

theorem rrow_spec (k : Nat) (seed i : Int) (h0 : 0 ≤ seed) (hi : i < 9223372036854775808) (hk : 132 ≤ k) : rillmeterref02_Row.f k seed i = some (hrow seed i) := by
  unfold rillmeterref02_Row.f
  by_cases a : i < 0
  · rw [if_pos a, rrow_j0 k seed 0 h0 (by omega) (by omega) hk]
    unfold hrow hmid
    rw [if_pos a, if_neg (by omega)]
  · rw [if_neg a, rrow_j0 k seed i h0 (by omega) hi hk]

theorem rof_spec (a : Int) (h0 : 0 ≤ a) : rillmeterref01_Of.f a = some (a % 2305843009213693951) := by
  unfold rillmeterref01_Of.f
  rw [Int.tmod_eq_emod_of_nonneg h0]

theorem strOf_nought : strOfNums [0] = (⟨#[0]⟩ : ByteArray) := by rfl

theorem rwords_l1 (s : ByteArray) (hs : s.size ≤ 1000100) (h4 : s.size % 4 = 0) : ∀ (m k j : Nat) (l : List Int), j + m = words s → l.length = j → m < k →
    rillmeterref02_words.l1 k s l (4 * j) = some (l ++ (List.range' j m).map (fun (i : Nat) => wordAt s (4 * (i : Int)))) := by
  intro m
  induction m with
  | zero =>
    intro k j l h0 hl hk
    obtain ⟨k, rfl⟩ : ∃ m, k = m + 1 := ⟨k - 1, by omega⟩
    unfold words at h0
    simp only [rillmeterref02_words.l1]
    rw [if_neg (by omega)]
    simp
  | succ m ih =>
    intro k j l h0 hl hk
    obtain ⟨k, rfl⟩ : ∃ m, k = m + 1 := ⟨k - 1, by omega⟩
    have hw : words s = (s.size + 3) / 4 := rfl
    have b0 := bt_range s (4 * j)
    have b1 := bt_range s (4 * j + 1)
    have b2 := bt_range s (4 * j + 2)
    have b3 := bt_range s (4 * j + 3)
    simp only [rillmeterref02_words.l1]
    rw [i64_in (4 * (j : Int) + 1) (by omega) (by omega), i64_in (4 * (j : Int) + 2) (by omega) (by omega), i64_in (4 * (j : Int) + 3) (by omega) (by omega), i64_in (4 * (j : Int) + 4) (by omega) (by omega)]
    rw [if_pos (by omega), if_pos (by omega), if_pos (by omega), if_pos (by omega), if_pos (by omega), if_pos (by omega), if_pos (by omega), if_pos (by omega), if_pos (by omega)]
    rw [u64_in (bt s (4 * j)) (by omega) (by omega), u64_in (bt s (4 * j + 1)) (by omega) (by omega), u64_in (bt s (4 * j + 2)) (by omega) (by omega), u64_in (bt s (4 * j + 3)) (by omega) (by omega),
      u64_in (bt s (4 * j) * 16777216) (by omega) (by omega), u64_in (bt s (4 * j + 1) * 65536) (by omega) (by omega), u64_in (bt s (4 * j + 2) * 256) (by omega) (by omega),
      u64_in (bt s (4 * j) * 16777216 + bt s (4 * j + 1) * 65536) (by omega) (by omega), u64_in (_ + bt s (4 * j + 2) * 256) (by omega) (by omega), u64_in (_ + bt s (4 * j + 3)) (by omega) (by omega)]
    rw [show 4 * (j : Int) + 4 = 4 * ((j + 1 : Nat) : Int) by omega, ih k (j + 1) _ (by omega) (by simp [hl]) (by omega)]
    rw [List.range'_succ, List.map_cons, List.append_assoc]
    have e : bt s (4 * j) * 16777216 + bt s (4 * j + 1) * 65536 + bt s (4 * j + 2) * 256 + bt s (4 * j + 3) = wordAt s (4 * j) := by unfold wordAt; omega
    rw [e]
    rfl

theorem words_push (s : ByteArray) (h : s.size % 4 ≠ 0) : words (s ++ (⟨#[0]⟩ : ByteArray)) = words s := by
  have hsz : (s ++ (⟨#[0]⟩ : ByteArray)).size = s.size + 1 := by rw [ByteArray.size_append]; rfl
  unfold words
  omega

theorem rwords_l0 : ∀ (d k : Nat) (s : ByteArray), s.size + d ≤ 1000050 → (4 - s.size % 4) % 4 = d → d ≤ 3 → words s + d + 2 ≤ k →
    rillmeterref02_words.l0 k s = some ((List.range' 0 (words s)).map (fun (i : Nat) => wordAt s (4 * (i : Int)))) := by
  intro d
  induction d with
  | zero =>
    intro k s hs hd _ hk
    obtain ⟨k, rfl⟩ : ∃ m, k = m + 1 := ⟨k - 1, by omega⟩
    simp only [rillmeterref02_words.l0]
    rw [if_pos (by omega)]
    have h := rwords_l1 s (by omega) (by omega) (words s) k 0 [] (by omega) rfl (by omega)
    rw [show (4 * ((0 : Nat) : Int)) = 0 from rfl] at h
    rw [h]; simp
  | succ d ih =>
    intro k s hs hd h3 hk
    obtain ⟨k, rfl⟩ : ∃ m, k = m + 1 := ⟨k - 1, by omega⟩
    have hsz : (s ++ (⟨#[0]⟩ : ByteArray)).size = s.size + 1 := by rw [ByteArray.size_append]; rfl
    have h1 : (⟨#[0]⟩ : ByteArray).size = 1 := rfl
    simp only [rillmeterref02_words.l0]
    rw [if_neg (by omega)]
    simp only [Option.bind_some, strOf_nought]
    rw [h1, if_pos (by omega)]
    by_cases hd0 : d = 0
    · subst hd0
      rw [ih k (s ++ (⟨#[0]⟩ : ByteArray)) (by omega) (by omega) (by omega) (by rw [words_push s (by omega)]; omega), words_push s (by omega)]
      simp only [wordAt_push]
    · rw [ih k (s ++ (⟨#[0]⟩ : ByteArray)) (by omega) (by omega) (by omega) (by rw [words_push s (by omega)]; omega), words_push s (by omega)]
      simp only [wordAt_push]

theorem rwords_spec (k : Nat) (s : ByteArray) (hs : s.size ≤ 1000000) (hk : words s + 5 ≤ k) :
    rillmeterref02_words.f k s = some ((List.range' 0 (words s)).map (fun (i : Nat) => wordAt s (4 * (i : Int)))) :=
  rwords_l0 ((4 - s.size % 4) % 4) k s (by omega) rfl (by omega) (by omega)

theorem rsum_l0 (s : ByteArray) (a : Int) (a0 : 0 ≤ a) (a1 : a < 18446744073709551616) (hW : words s ≤ 1000000) : ∀ (m k j : Nat) (n : Int), j + m = words s → 0 ≤ n → n < 2305843009213693951 → m + 131 ≤ k →
    rillmeterref02_Sum.l0 k a n ((List.range' 0 (words s)).map (fun (i : Nat) => wordAt s (4 * (i : Int)))) j = some ((roll s a m n (4 * j) * a) ^ 17 % 2305843009213693951) := by
  intro m
  induction m with
  | zero =>
    intro k j n hj n0 n1 hk
    obtain ⟨k, rfl⟩ : ∃ m, k = m + 1 := ⟨k - 1, by omega⟩
    simp only [rillmeterref02_Sum.l0]
    rw [if_neg (by simp; omega), rmul_spec k a n a0 n0 (by omega)]
    simp only [Option.bind_some]
    rw [rpow_spec k _ 17 (by omega) (by omega) (by omega) (by omega) (by omega), show (17 : Int).toNat = 17 from rfl, pow_emod, Int.mul_comm a n]
    rfl
  | succ m ih =>
    intro k j n hj n0 n1 hk
    obtain ⟨k, rfl⟩ : ∃ m, k = m + 1 := ⟨k - 1, by omega⟩
    have hw := wordAt_range s (4 * j)
    have e : rd ((List.range' 0 (words s)).map (fun (i : Nat) => wordAt s (4 * (i : Int)))) j = wordAt s (4 * j) := by
      simp [rd, show j < words s by omega]
    simp only [rillmeterref02_Sum.l0]
    rw [if_pos (by simp; omega), rmul_spec k a n a0 n0 (by omega), e]
    simp only [Option.bind_some]
    rw [if_pos (by omega), radd_spec _ 1 hw.1 (by omega)]
    simp only [Option.bind_some]
    rw [radd_spec _ _ (by omega) (by omega), i64_in ((j : Int) + 1) (by omega) (by omega)]
    simp only [Option.bind_some]
    rw [show (j : Int) + 1 = ((j + 1 : Nat) : Int) by omega, ih k (j + 1) _ (by omega) (by omega) (by omega) (by omega)]
    simp only [roll]
    rw [show (4 * ((j + 1 : Nat) : Int)) = 4 * (j : Int) + 4 by omega, Int.mul_comm a n]
    have e2 : (n * a % 2305843009213693951 + (wordAt s (4 * j) + 1) % 2305843009213693951) % 2305843009213693951 = (n * a + wordAt s (4 * j) + 1) % 2305843009213693951 := by omega
    rw [e2]

theorem rsum_spec (k : Nat) (seed : Int) (s : ByteArray) (hs : s.size ≤ 1000000) (h0 : 0 ≤ seed) (hk : words s + 135 ≤ k) :
    rillmeterref02_Sum.f k seed s = some (hsum seed s) := by
  unfold rillmeterref02_Sum.f hsum
  have hw : words s = (s.size + 3) / 4 := rfl
  rw [radd_spec seed 2 h0 (by omega), u64_in _ (by omega) (by omega), rof_spec _ (by omega), rwords_spec k s hs (by omega)]
  simp only [Option.bind_some]
  have h := rsum_l0 s ((seed + 2) % 2305843009213693951) (by omega) (by omega) (by omega) (words s) k 0 ((s.size : Int) % 2305843009213693951) (by omega) (by omega) (by omega) (by omega)
  rw [show ((0 : Nat) : Int) = 0 from rfl, show (4 * (0 : Int)) = 0 from rfl, show (s.size : Int) % 2305843009213693951 = s.size by omega] at h
  rw [show (s.size : Int) % 2305843009213693951 = s.size by omega]
  exact h

theorem rcell_spec (k : Nat) (seed : Int) (key : ByteArray) (n : Int) (hs : key.size ≤ 1000000) (h0 : 0 ≤ seed) (hn : n < 9223372036854775808) (hk : words key + 135 ≤ k) :
    rillmeterref02_Cell.f k seed key n = some (hcell seed key n) := by
  unfold rillmeterref02_Cell.f hcell
  by_cases a : n < 1
  · rw [if_pos a, if_pos a]
  · rw [if_neg a, if_neg a, rsum_spec k seed key hs h0 hk]
    simp only [Option.bind_some]
    have r := hsum_range seed key
    have r1 := Int.emod_nonneg (hsum seed key) (b := n) (by omega)
    have r2 := Int.emod_lt_of_pos (hsum seed key) (b := n) (by omega)
    rw [u64_in n (by omega) (by omega), if_neg (by omega), Int.tmod_eq_emod_of_nonneg r.1, i64_in _ (by omega) (by omega)]

theorem rcol_spec (k : Nat) (s : Int) (key : ByteArray) (i : Nat) (c : Int) (hs0 : 0 ≤ s) (hi : i < 1000) (hc : c ≤ 256) (hkey : key.size ≤ 1000) (hk : 500 ≤ k) : rillmeterref11_Cell.f k s key i c = some (hcell (hrow s i) key c) := by
  have hw := words_le key 250 (by omega)
  have hh := hrow_range s i
  unfold rillmeterref11_Cell.f
  rw [rrow_spec k s i hs0 (by omega) (by omega)]
  simp only [Option.bind_some]
  rw [rcell_spec k _ key _ (by omega) hh.1 (by omega) (by omega)]
  rfl

-- SKIP

theorem awake15 : rillmeterlaw15_awake.f 400 = some true := by decide +kernel
theorem awake15_spec : Evt (fun k => rillmeterlaw15_awake.f k) true := ⟨400, fun k hk => at_rounds (g := fun k => rillmeterlaw15_awake.f k) rillmeterlaw15_awake.mono hk awake15⟩
def newOk (b r v n c : Int) : Prop := 1 ≤ b ∧ b ≤ 256 ∧ 1 ≤ r ∧ r ≤ 8 ∧ 1 ≤ v ∧ v ≤ 64 ∧ 1 ≤ n ∧ n ≤ 7 ∧ 1 ≤ c ∧ c ≤ 256
instance (b r v n c : Int) : Decidable (newOk b r v n c) := inferInstanceAs (Decidable (1 ≤ b ∧ b ≤ 256 ∧ 1 ≤ r ∧ r ≤ 8 ∧ 1 ≤ v ∧ v ≤ 64 ∧ 1 ≤ n ∧ n ≤ 7 ∧ 1 ≤ c ∧ c ≤ 256))
/-- no entry in any bucket -/
def noB (b : Int) : List S56 := List.replicate b.toNat z56
def noL (n c : Int) : List (List Int) := List.replicate n.toNat (List.replicate c.toNat 0)
theorem elnew_spec (s b r v n c : Int) (h0 : 0 ≤ s) (h1 : s < 18446744073709551616) : Evt (fun k => elastic_New.f k s b r v n c) (if newOk b r v n c then (s, r, v, noB b, hrow s 1, 255, noL n c, 0) else (0, 0, 0, [], 0, 0, [], 1)) := by
  refine ⟨20, fun k hk => ?_⟩
  simp only [elastic_New.f]
  rw [row_spec s 1 h0 h1 (by decide), Option.bind_some, new_spec k _ _ _ _ hk, Option.bind_some]
  by_cases g : 1 ≤ n ∧ n ≤ 7 ∧ 1 ≤ c ∧ c ≤ 256
  · rw [if_pos (show 1 ≤ n ∧ n ≤ 7 ∧ 1 ≤ c ∧ c ≤ 256 ∧ (1 : Int) ≤ 255 ∧ (255 : Int) ≤ 1099511627776 from ⟨g.1, g.2.1, g.2.2.1, g.2.2.2, by decide, by decide⟩)]
    simp only
    rw [if_pos trivial]
    by_cases g2 : newOk b r v n c
    · rw [if_pos g2]
      obtain ⟨g3, g4, g5, g6, g7, g8, _⟩ := g2
      rw [if_neg (by omega), if_neg (by omega), if_neg (by omega), if_neg (by omega), if_neg (by omega), if_neg (by omega), if_pos (by omega), if_pos (by omega)]
      rfl
    · rw [if_neg g2]
      by_cases q1 : b < 1
      · rw [if_pos q1]
      · rw [if_neg q1]
        by_cases q2 : b > 256
        · rw [if_pos q2]
        · rw [if_neg q2]
          by_cases q3 : r < 1
          · rw [if_pos q3]
          · rw [if_neg q3]
            by_cases q4 : r > 8
            · rw [if_pos q4]
            · rw [if_neg q4]
              by_cases q5 : v < 1
              · rw [if_pos q5]
              · rw [if_neg q5]
                by_cases q6 : v > 64
                · rw [if_pos q6]
                · exact absurd ⟨by omega, by omega, by omega, by omega, by omega, by omega, g⟩ g2
  · rw [if_neg (show ¬ (1 ≤ n ∧ n ≤ 7 ∧ 1 ≤ c ∧ c ≤ 256 ∧ (1 : Int) ≤ 255 ∧ (255 : Int) ≤ 1099511627776) from fun h => g ⟨h.1, h.2.1, h.2.2.1, h.2.2.2.1⟩)]
    simp only
    rw [if_neg (by decide), if_neg (show ¬ newOk b r v n c from fun h => g ⟨h.2.2.2.2.2.2.1, h.2.2.2.2.2.2.2.1, h.2.2.2.2.2.2.2.2.1, h.2.2.2.2.2.2.2.2.2⟩)]

theorem take56 (l : List S56) (i : Nat) (h : i < l.length) : l.take (i + 1) = l.take i ++ [rd_T56 l (i : Int)] ∧ rd_T56 l (i : Int) ∈ l := by
  refine ⟨?_, ?_⟩
  · rw [List.take_add_one, List.getElem?_eq_getElem (by omega)]
    simp [rd_T56, List.getD_eq_getElem?_getD, h]
  · unfold rd_T56
    rw [Int.toNat_natCast, List.getD_eq_getElem?_getD, List.getElem?_eq_getElem h]
    exact List.getElem_mem _
theorem take76 (l : List S76) (i : Nat) (h : i < l.length) : l.take (i + 1) = l.take i ++ [rd_T76 l (i : Int)] ∧ rd_T76 l (i : Int) ∈ l := by
  refine ⟨?_, ?_⟩
  · rw [List.take_add_one, List.getElem?_eq_getElem (by omega)]
    simp [rd_T76, List.getD_eq_getElem?_getD, h]
  · unfold rd_T76
    rw [Int.toNat_natCast, List.getD_eq_getElem?_getD, List.getElem?_eq_getElem h]
    exact List.getElem_mem _
theorem tl_inj {a b : ByteArray} : a.toList = b.toList ↔ a = b := by
  rw [ByteArray.toList_eq, ByteArray.toList_eq]
  constructor
  · intro h
    apply ByteArray.ext
    exact Array.toList_inj.1 h
  · intro h; rw [h]
/-- the keys of entries -/
def keysE (l : List S76) : List ByteArray := l.map (·.f0)
theorem go_spec (key : ByteArray) : ∀ (l : List S76) (i : Nat), (key ∉ keysE l ∧ elastic_find.go key l i = -1) ∨ ∃ j, j < l.length ∧ (rd_T76 l (j : Int)).f0 = key ∧ elastic_find.go key l i = ((i + j : Nat) : Int) ∧ key ∈ keysE l := by
  intro l
  induction l with
  | nil => intro i; exact .inl ⟨by simp [keysE], rfl⟩
  | cons y l ih =>
    intro i
    rw [elastic_find.go]
    by_cases h : y.f0 = key
    · rw [if_pos (tl_inj.2 h)]
      exact .inr ⟨0, by simp, h, by simp, by simp [keysE, h]⟩
    · rw [if_neg (fun g => h (tl_inj.1 g))]
      rcases ih (i + 1) with ⟨h1, h2⟩ | ⟨j, h1, h2, h3, h4⟩
      · refine .inl ⟨?_, h2⟩
        simp only [keysE, List.map_cons, List.mem_cons, not_or] at h1 ⊢
        exact ⟨fun g => h g.symm, h1⟩
      · refine .inr ⟨j + 1, by simp; omega, ?_, ?_, ?_⟩
        · rw [← h2]
          unfold rd_T76
          simp [List.getD_eq_getElem?_getD]
        · rw [h3]; omega
        · simp only [keysE, List.map_cons, List.mem_cons] at h4 ⊢
          exact .inr h4
theorem go_at : ∀ (l : List S76) (i j : Nat), (keysE l).Nodup → j < l.length → elastic_find.go (rd_T76 l (j : Int)).f0 l i = ((i + j : Nat) : Int) := by
  intro l
  induction l with
  | nil => intro i j _ h; exact absurd h (Nat.not_lt_zero _)
  | cons y l ih =>
    intro i j hn hj
    have hn' : y.f0 ∉ keysE l ∧ (keysE l).Nodup := by simpa [keysE] using hn
    cases j with
    | zero =>
      rw [elastic_find.go, if_pos (by rfl)]; simp
    | succ j =>
      have e : rd_T76 (y :: l) ((j + 1 : Nat) : Int) = rd_T76 l (j : Int) := by unfold rd_T76; simp [List.getD_eq_getElem?_getD]
      have hj' : j < l.length := by simpa using hj
      have hm : (rd_T76 l (j : Int)).f0 ∈ keysE l := List.mem_map.2 ⟨_, (take76 l j hj').2, rfl⟩
      rw [e, elastic_find.go, if_neg (fun g => hn'.1 (by rw [tl_inj.1 g]; exact hm)), ih (i + 1) j hn'.2 hj']
      congr 1; omega
/-- a bucket that was fed t keys at most -/
def bOk (r t : Int) (y : S56) : Prop := (y.f0.length : Int) ≤ r ∧ (0 ≤ y.f1 ∧ y.f1 ≤ t) ∧ (∀ e ∈ y.f0, 1 ≤ e.f1 ∧ e.f1 ≤ t) ∧ (keysE y.f0).Nodup ∧ ∀ e ∈ y.f0, e.f0.size ≤ 1000
theorem bucket_ok (r t : Int) (hr : r ≤ 8) (ht : t ≤ 1000000) (y : S56) (h : bOk r t y) : ∀ k, 20 ≤ k → elastic_Bucket_right.f k y.f0 y.f1 r = some true := by
  obtain ⟨h1, h2, h3, h4, _⟩ := h
  have main : ∀ (d i k : Nat), i + d = y.f0.length → d < k → elastic_Bucket_right.l0 k r y.f0 (y.f0.length : Int) (i : Int) y.f0 y.f1 = some true := by
    intro d
    induction d with
    | zero =>
      intro i k hi hk
      obtain ⟨k, rfl⟩ : ∃ z, k = z + 1 := ⟨k - 1, by omega⟩
      simp only [elastic_Bucket_right.l0]
      rw [if_neg (by omega), if_pos h1, if_pos (by omega), decide_eq_true (by omega)]
    | succ d ih =>
      intro i k hi hk
      obtain ⟨k, rfl⟩ : ∃ z, k = z + 1 := ⟨k - 1, by omega⟩
      obtain ⟨_, hm⟩ := take76 y.f0 i (by omega)
      have hv := h3 _ hm
      simp only [elastic_Bucket_right.l0]
      rw [if_pos (by omega), if_pos (by omega), if_pos (by omega), if_neg (by omega), if_neg (by omega)]
      simp only [elastic_find.f]
      rw [if_pos (by omega), Option.bind_some, go_at y.f0 0 i h4 (by omega), if_neg (by omega), i64_in ((i : Int) + 1) (by omega) (by omega), show (i : Int) + 1 = ((i + 1 : Nat) : Int) by omega]
      exact ih (i + 1) k (by omega) (by omega)
  intro k hk
  exact main y.f0.length 0 k (by omega) (by omega)
theorem any_ok (r t : Int) (hr : r ≤ 8) (ht : t ≤ 1000000) (k : Nat) (hk : 20 ≤ k) : ∀ B : List S56, (∀ y ∈ B, bOk r t y) → elastic_Bucket_44.any k r B = some false := by
  intro B
  induction B with
  | nil => intro _; rfl
  | cons y l ih =>
    intro h
    rw [elastic_Bucket_44.any, List.foldr_cons, ← elastic_Bucket_44.any, ih (fun z hz => h z (List.mem_cons_of_mem _ hz)), bucket_ok r t hr ht y (h y List.mem_cons_self) k hk, Option.bind_some, if_pos rfl]
/-- a sketch that was fed t keys -/
structure Fed (s r v t : Int) (B : List S56) (rows : List (List Int)) : Prop where
  s0 : 0 ≤ s
  s1 : s < 18446744073709551616
  r0 : 1 ≤ r
  r1 : r ≤ 8
  v0 : 1 ≤ v
  v1 : v ≤ 64
  b0 : 1 ≤ B.length
  b1 : B.length ≤ 256
  t0 : 0 ≤ t
  t1 : t ≤ 1000
  lt : rightL 255 rows
  bs : ∀ y ∈ B, bOk r t y
theorem right_fed {s r v t : Int} {B : List S56} {rows : List (List Int)} (h : Fed s r v t B rows) (k : Nat) (hk : 300 ≤ k) : elastic_Right.f k s r v B (hrow s 1) 255 rows = some true := by
  simp only [elastic_Right.f]
  rw [if_pos h.r0, if_pos h.r1, if_pos h.v0, if_pos h.v1, if_pos (by have := h.b0; omega), if_pos (by have := h.b1; omega), right_spec k _ _ _ hk, decide_eq_true h.lt, Option.bind_some, if_pos rfl, row_spec s 1 h.s0 h.s1 (by decide), Option.bind_some, if_pos rfl, if_pos trivial]
  unfold elastic_Bucket_44.f
  rw [if_pos (by have := h.b1; omega), any_ok r t h.r1 (by have := h.t1; omega) k (by omega) B h.bs]
  rfl
/-- the place of a key -/
def placeOf (s : Int) (n : Nat) (key : ByteArray) : Nat := (hcell (hrow s 0) key n).toNat
theorem place_lt (s : Int) (n : Nat) (key : ByteArray) (h : 1 ≤ n) : placeOf s n key < n ∧ hcell (hrow s 0) key n = (placeOf s n key : Int) := by
  have := hcell_range (hrow s 0) key n (by omega)
  unfold placeOf; omega
theorem bucket_spec {s : Int} (h0 : 0 ≤ s) (h1 : s < 18446744073709551616) (r v : Int) (B : List S56) (hB : B.length ≤ 256) (hB1 : 1 ≤ B.length) (H m : Int) (rows : List (List Int)) (key : ByteArray) (hk : key.size ≤ 1000) (k : Nat) (hk2 : 2000 ≤ k) : elastic_bucket.f k s r v B H m rows key = some (placeOf s B.length key : Int) := by
  have hw := words_le key 250 (by omega)
  have hr := hrow_range s 0
  simp only [elastic_bucket.f]
  rw [row_spec s 0 h0 h1 (by decide), Option.bind_some, cell_spec k (hrow s 0) key B.length (by omega) hr.1 (by omega) (by omega) (by omega), Option.bind_some, (place_lt s B.length key hB1).2]
theorem lst_bucket (B : List S56) (h : B.length ≤ 256) : elastic_Bucket_32.f B = some B := by
  simp only [elastic_Bucket_32.f, Option.bind_some]
  rw [if_pos (by simp; omega)]; rfl
theorem lst_entry (l : List S76) (h : l.length ≤ 256) : elastic_Entry_29.f l = some l := by
  simp only [elastic_Entry_29.f, Option.bind_some]
  rw [if_pos (by simp; omega)]; rfl
theorem mem_set76 {l : List S76} {j : Nat} {x e : S76} (h : e ∈ l.set j x) : e = x ∨ e ∈ l := by
  rcases List.mem_or_eq_of_mem_set h with h | h
  · exact .inr h
  · exact .inl h
/-- what voting does: nothing but to the light ones, or an entry goes there and the key takes its place -/
theorem vote_spec {s v t H : Int} (hH0 : 0 ≤ H) (hH1 : H < 18446744073709551616) (hv : 1 ≤ v ∧ v ≤ 64) (ht : 0 ≤ t ∧ t ≤ 1000) (r : Int) (B : List S56) (rows : List (List Int)) (hlt : rightL 255 rows) (es : List S76) (hl1 : 1 ≤ es.length) (hl : es.length ≤ 8) (he : ∀ e ∈ es, (1 ≤ e.f1 ∧ e.f1 ≤ t) ∧ e.f0.size ≤ 1000) (ag : Int) (key : ByteArray) (hkey : key.size ≤ 1000) :
    ∃ es' ag' rows', Evt (fun k => elastic_vote.f k s r v B H 255 rows es ag key) (es', ag', H, 255, rows') ∧ ((es' = es ∧ ag' = ag ∧ rows' = addRows H 255 key 1 rows) ∨ ∃ j, j < es.length ∧ es' = es.set j ⟨key, 1, true⟩ ∧ ag' = 0 ∧ rows' = addRows H 255 (rd_T76 es (j : Int)).f0 (rd_T76 es (j : Int)).f1 rows) := by
  have main : ∀ (d i j : Nat), i + d = es.length → j < es.length → ∃ es' ag' rows', Evt (fun k => elastic_vote.l0 k key (j : Int) es (es.length : Int) (i : Int) s r v B H 255 rows es ag) (es', ag', H, 255, rows') ∧ ((es' = es ∧ ag' = ag ∧ rows' = addRows H 255 key 1 rows) ∨ ∃ j, j < es.length ∧ es' = es.set j ⟨key, 1, true⟩ ∧ ag' = 0 ∧ rows' = addRows H 255 (rd_T76 es (j : Int)).f0 (rd_T76 es (j : Int)).f1 rows) := by
    intro d
    induction d with
    | zero =>
      intro i j hi hj
      obtain ⟨_, hm⟩ := take76 es j hj
      obtain ⟨⟨h1, h2⟩, h3⟩ := he _ hm
      have hmul : v * (rd_T76 es (j : Int)).f1 ≤ 64 * 1000 := Int.le_trans (Int.mul_le_mul_of_nonneg_right hv.2 (by omega)) (Int.mul_le_mul_of_nonneg_left (by omega) (by decide))
      have hmul0 : 0 ≤ v * (rd_T76 es (j : Int)).f1 := Int.mul_nonneg (by omega) (by omega)
      have hw : wrap64 (v * (rd_T76 es (j : Int)).f1) = v * (rd_T76 es (j : Int)).f1 := i64_in _ (by omega) (by omega)
      by_cases c : ag < v * (rd_T76 es (j : Int)).f1
      · refine ⟨es, ag, addRows H 255 key 1 rows, ⟨2101, fun k hk => ?_⟩, .inl ⟨rfl, rfl, rfl⟩⟩
        obtain ⟨k, rfl⟩ : ∃ z, k = z + 1 := ⟨k - 1, by omega⟩
        simp only [elastic_vote.l0]
        rw [if_neg (by omega), if_pos (by omega), if_pos (by omega), hw, if_pos c, addf_spec k H 255 1 key rows hH0 hH1 hkey (by omega), if_pos ⟨hlt, by decide, by decide⟩]
        rfl
      · refine ⟨es.set j ⟨key, 1, true⟩, 0, addRows H 255 (rd_T76 es (j : Int)).f0 (rd_T76 es (j : Int)).f1 rows, ⟨2101, fun k hk => ?_⟩, .inr ⟨j, hj, rfl, rfl, rfl⟩⟩
        obtain ⟨k, rfl⟩ : ∃ z, k = z + 1 := ⟨k - 1, by omega⟩
        simp only [elastic_vote.l0]
        rw [if_neg (by omega), if_pos (by omega), if_pos (by omega), hw, if_neg c, addf_spec k H 255 (rd_T76 es (j : Int)).f1 (rd_T76 es (j : Int)).f0 rows hH0 hH1 h3 (by omega), if_pos ⟨hlt, by omega, by omega⟩, Int.toNat_natCast]
        rfl
    | succ d ih =>
      intro i j hi hj
      by_cases c : (rd_T76 es (i : Int)).f1 < (rd_T76 es (j : Int)).f1
      · obtain ⟨e1, e2, e3, h1, h2⟩ := ih (i + 1) i (by omega) (by omega)
        refine ⟨e1, e2, e3, Evt.step h1 (fun k => ?_), h2⟩
        simp only [elastic_vote.l0]
        rw [if_pos (by omega), if_pos (by omega), if_pos (by omega), if_pos (by omega), if_pos (by omega), if_pos c, i64_in ((i : Int) + 1) (by omega) (by omega)]
        rfl
      · obtain ⟨e1, e2, e3, h1, h2⟩ := ih (i + 1) j (by omega) hj
        refine ⟨e1, e2, e3, Evt.step h1 (fun k => ?_), h2⟩
        simp only [elastic_vote.l0]
        rw [if_pos (by omega), if_pos (by omega), if_pos (by omega), if_pos (by omega), if_pos (by omega), if_neg c, i64_in ((i : Int) + 1) (by omega) (by omega)]
        rfl
  obtain ⟨e1, e2, e3, h1, h2⟩ := main es.length 0 0 (by omega) (by omega)
  exact ⟨e1, e2, e3, h1.eq (fun k => rfl), h2⟩
theorem keys_set (l : List S76) (j : Nat) (x : S76) : keysE (l.set j x) = (keysE l).set j x.f0 := by
  unfold keysE; rw [List.map_set]
theorem nodup_set {α : Type} : ∀ (l : List α) (j : Nat) (x : α), l.Nodup → x ∉ l → (l.set j x).Nodup := by
  intro l
  induction l with
  | nil => intro j x _ _; exact List.nodup_nil
  | cons y l ih =>
    intro j x h hx
    rw [List.nodup_cons] at h
    rw [List.mem_cons, not_or] at hx
    cases j with
    | zero => rw [List.set_cons_zero, List.nodup_cons]; exact ⟨hx.2, h.2⟩
    | succ j =>
      rw [List.set_cons_succ, List.nodup_cons]
      refine ⟨fun g => ?_, ih j x h.2 hx.2⟩
      rcases List.mem_or_eq_of_mem_set g with g | g
      · exact h.1 g
      · exact hx.1 g.symm
theorem set_same {α : Type} : ∀ (l : List α) (j : Nat) (x : α), l[j]? = some x → l.set j x = l := by
  intro l
  induction l with
  | nil => intro j x h; rfl
  | cons y l ih =>
    intro j x h
    cases j with
    | zero => simp at h; rw [List.set_cons_zero, h]
    | succ j => rw [List.set_cons_succ, ih j x (by simpa using h)]
theorem rd76 (l : List S76) (j : Nat) (h : j < l.length) : l[j]? = some (rd_T76 l (j : Int)) := by
  rw [List.getElem?_eq_getElem h]; simp [rd_T76, List.getD_eq_getElem?_getD, h]
theorem rd56 (l : List S56) (j : Nat) (h : j < l.length) : l[j]? = some (rd_T56 l (j : Int)) := by
  rw [List.getElem?_eq_getElem h]; simp [rd_T56, List.getD_eq_getElem?_getD, h]
/-- one key more: always a sketch that was fed one more; told whole where the key has or finds a place -/
theorem add_fed {s r v t : Int} {B : List S56} {rows : List (List Int)} (h : Fed s r v t B rows) (ht : t < 1000) (key : ByteArray) (hkey : key.size ≤ 1000) :
    ∃ y' rows', Evt (fun k => elastic_Add.f k s r v B (hrow s 1) 255 rows key) (s, r, v, B.set (placeOf s B.length key) y', hrow s 1, 255, rows', 0) ∧ Fed s r v (t + 1) (B.set (placeOf s B.length key) y') rows' ∧
      ((∃ j, j < (rd_T56 B (placeOf s B.length key : Int)).f0.length ∧ (rd_T76 (rd_T56 B (placeOf s B.length key : Int)).f0 (j : Int)).f0 = key ∧ rows' = rows ∧ y' = ⟨(rd_T56 B (placeOf s B.length key : Int)).f0.set j ⟨key, (rd_T76 (rd_T56 B (placeOf s B.length key : Int)).f0 (j : Int)).f1 + 1, (rd_T76 (rd_T56 B (placeOf s B.length key : Int)).f0 (j : Int)).f2⟩, (rd_T56 B (placeOf s B.length key : Int)).f1⟩) ∨
       (key ∉ keysE (rd_T56 B (placeOf s B.length key : Int)).f0 ∧ ((rd_T56 B (placeOf s B.length key : Int)).f0.length : Int) < r ∧ rows' = rows ∧ y' = ⟨(rd_T56 B (placeOf s B.length key : Int)).f0 ++ [⟨key, 1, false⟩], (rd_T56 B (placeOf s B.length key : Int)).f1⟩) ∨
       (key ∉ keysE (rd_T56 B (placeOf s B.length key : Int)).f0 ∧ r ≤ ((rd_T56 B (placeOf s B.length key : Int)).f0.length : Int) ∧ ((y' = ⟨(rd_T56 B (placeOf s B.length key : Int)).f0, (rd_T56 B (placeOf s B.length key : Int)).f1 + 1⟩ ∧ rows' = addRows (hrow s 1) 255 key 1 rows) ∨
         ∃ j, j < (rd_T56 B (placeOf s B.length key : Int)).f0.length ∧ y' = ⟨(rd_T56 B (placeOf s B.length key : Int)).f0.set j ⟨key, 1, true⟩, 0⟩ ∧ rows' = addRows (hrow s 1) 255 (rd_T76 (rd_T56 B (placeOf s B.length key : Int)).f0 (j : Int)).f0 (rd_T76 (rd_T56 B (placeOf s B.length key : Int)).f0 (j : Int)).f1 rows))) := by
  have hp := (place_lt s B.length key h.b0).1
  have hbs := bucket_spec h.s0 h.s1 r v B h.b1 h.b0 (hrow s 1) 255 rows key hkey
  have hB1 := h.b1
  generalize placeOf s B.length key = p at *
  have hm := (take56 B p hp).2
  have hb := h.bs _ hm
  generalize hy : rd_T56 B (p : Int) = y at *
  obtain ⟨es, ag⟩ := y
  obtain ⟨q1, q2, q3, q4, q5⟩ := hb
  simp only at q1 q2 q3 q4 q5
  have hr1 := h.r1
  have hr0 := h.r0
  have ht0 := h.t0
  -- the sketch behind: the other buckets as they were
  have fed' : ∀ (y' : S56) (rows' : List (List Int)), bOk r (t + 1) y' → rightL 255 rows' → Fed s r v (t + 1) (B.set p y') rows' := by
    intro y' rows' h1 h2
    refine ⟨h.s0, h.s1, h.r0, h.r1, h.v0, h.v1, by rw [List.length_set]; exact h.b0, by rw [List.length_set]; exact h.b1, by omega, by omega, h2, fun z hz => ?_⟩
    rcases List.mem_or_eq_of_mem_set hz with hz | hz
    · obtain ⟨w1, w2, w3, w4, w5⟩ := h.bs z hz
      exact ⟨w1, ⟨w2.1, by omega⟩, fun e he => ⟨(w3 e he).1, by have := (w3 e he).2; omega⟩, w4, w5⟩
    · rw [hz]; exact h1
  have hlen : es.length ≤ 8 := by omega
  have start : ∀ (k : Nat), 2000 ≤ k → elastic_Add.f k s r v B (hrow s 1) 255 rows key = (if elastic_find.go key es 0 ≥ 0 then (if 0 ≤ elastic_find.go key es 0 then (if elastic_find.go key es 0 < (es.length : Int) then (elastic_Add.j0 k key (p : Int) (elastic_find.go key es 0) (((rd_T76 es (elastic_find.go key es 0)).f1) == 1099511627776) s r v B (hrow s 1) 255 rows es ag) else (none)) else (none)) else (elastic_Add.j0 k key (p : Int) (elastic_find.go key es 0) false s r v B (hrow s 1) 255 rows es ag)) := by
    intro k hk
    simp only [elastic_Add.f]
    rw [right_fed h k (by omega), Option.bind_some, if_pos rfl, hbs k hk, Option.bind_some, if_pos (by omega), if_pos (by omega), hy, lst_entry es (by omega), Option.bind_some]
    simp only [elastic_find.f]
    rw [if_pos (by omega), Option.bind_some]
  rcases go_spec key es 0 with ⟨g1, g2⟩ | ⟨j, g1, g2, g3, g4⟩
  · rw [g2] at start
    by_cases c : (es.length : Int) < r
    · refine ⟨⟨es ++ [⟨key, 1, false⟩], ag⟩, rows, ⟨2001, fun k hk => ?_⟩, fed' _ _ ⟨by simp; omega, by simp only; omega, fun e he => ?_, ?_, fun e he => ?_⟩ h.lt, .inr (.inl ⟨g1, c, rfl, rfl⟩)⟩
      · obtain ⟨k, rfl⟩ : ∃ z, k = z + 1 := ⟨k - 1, by omega⟩
        refine (start (k + 1) (by omega)).trans ?_
        rw [if_neg (by decide)]
        simp only [elastic_Add.j0]
        rw [if_neg (by decide), if_neg (by decide), if_pos c, if_pos (by omega), lst_bucket B hB1, Option.bind_some, if_pos (by omega), if_pos (by omega), Int.toNat_natCast]
      · rcases List.mem_append.1 he with he | he
        · have := q3 e he; omega
        · rw [List.mem_singleton.1 he]; exact ⟨Int.le_refl _, by show (1 : Int) ≤ t + 1; omega⟩
      · show (keysE (es ++ [⟨key, 1, false⟩])).Nodup
        have : keysE (es ++ [⟨key, 1, false⟩]) = keysE es ++ [key] := by simp [keysE]
        rw [this, List.nodup_append]
        refine ⟨q4, by simp, fun a ha b hb => ?_⟩
        rw [List.mem_singleton.1 hb]
        intro e; rw [e] at ha; exact g1 ha
      · rcases List.mem_append.1 he with he | he
        · exact q5 e he
        · rw [List.mem_singleton.1 he]; exact hkey
    · obtain ⟨es', ag', rows', hv1, hv2⟩ := vote_spec (s := s) (v := v) (t := t) (H := hrow s 1) (hrow_range s 1).1 (by have := (hrow_range s 1).2; omega) ⟨h.v0, h.v1⟩ ⟨h.t0, by omega⟩ r B rows h.lt es (by omega) hlen (fun e he => ⟨q3 e he, q5 e he⟩) (ag + 1) key hkey
      have walk : Evt (fun k => elastic_Add.f k s r v B (hrow s 1) 255 rows key) (s, r, v, B.set p ⟨es', ag'⟩, hrow s 1, 255, rows', 0) := by
        obtain ⟨m, e⟩ := hv1
        refine ⟨2001 + m, fun k hk => ?_⟩
        obtain ⟨k, rfl⟩ : ∃ z, k = z + 1 := ⟨k - 1, by omega⟩
        refine (start (k + 1) (by omega)).trans ?_
        have e := e k (by omega)
        simp only at e
        rw [if_neg (by decide)]
        simp only [elastic_Add.j0]
        rw [if_neg (by decide), if_neg (by decide), if_neg c, if_neg (by omega), i64_in (ag + 1) (by omega) (by omega), e, Option.bind_some, lst_bucket B hB1, Option.bind_some, if_pos (by omega), if_pos (by omega), Int.toNat_natCast]
      rcases hv2 with ⟨rfl, rfl, rfl⟩ | ⟨j, hj, rfl, rfl, rfl⟩
      · exact ⟨⟨es', ag + 1⟩, _, walk, fed' _ _ ⟨q1, by simp only; omega, fun e he => ⟨(q3 e he).1, by have := (q3 e he).2; omega⟩, q4, q5⟩ (addRows_right _ _ _ _ _ h.lt (by decide)), .inr (.inr ⟨g1, by simp only; omega, .inl ⟨rfl, rfl⟩⟩)⟩
      · have hmj := (take76 es j hj).2
        refine ⟨⟨es.set j ⟨key, 1, true⟩, 0⟩, _, walk, fed' _ _ ⟨by simp only [List.length_set]; omega, by simp only; omega, fun e he => ?_, ?_, fun e he => ?_⟩ (addRows_right _ _ _ _ _ h.lt (by have := (q3 _ hmj).1; omega)), .inr (.inr ⟨g1, by simp only; omega, .inr ⟨j, hj, rfl, rfl⟩⟩)⟩
        · rcases mem_set76 he with he | he
          · rw [he]; exact ⟨Int.le_refl _, by show (1 : Int) ≤ t + 1; omega⟩
          · have := q3 e he; omega
        · rw [keys_set]; exact nodup_set _ _ _ q4 g1
        · rcases mem_set76 he with he | he
          · rw [he]; exact hkey
          · exact q5 e he
  · rw [g3] at start
    have hmj := (take76 es j g1).2
    have hvj := q3 _ hmj
    have hw : wrap64 ((rd_T76 es (j : Int)).f1 + 1) = (rd_T76 es (j : Int)).f1 + 1 := i64_in _ (by omega) (by omega)
    refine ⟨⟨es.set j ⟨key, (rd_T76 es (j : Int)).f1 + 1, (rd_T76 es (j : Int)).f2⟩, ag⟩, rows, ⟨2001, fun k hk => ?_⟩, fed' _ _ ⟨by simp only [List.length_set]; omega, by simp only; omega, fun e he => ?_, ?_, fun e he => ?_⟩ h.lt, .inl ⟨j, g1, g2, rfl, rfl⟩⟩
    · obtain ⟨k, rfl⟩ : ∃ z, k = z + 1 := ⟨k - 1, by omega⟩
      refine (start (k + 1) (by omega)).trans ?_
      rw [Nat.zero_add, if_pos (by omega), if_pos (by omega), if_pos (by omega)]
      simp only [elastic_Add.j0]
      rw [show ((rd_T76 es (j : Int)).f1 == 1099511627776) = false from beq_eq_false_iff_ne.2 (by omega), if_neg (by decide), if_pos (by omega), if_pos (by omega), if_pos (by omega), lst_bucket B hB1, Option.bind_some, if_pos (by omega), if_pos (by omega), Int.toNat_natCast, Int.toNat_natCast, hw, g2]
    · rcases mem_set76 he with he | he
      · rw [he]; simp only; omega
      · have := q3 e he; omega
    · show (keysE (es.set j _)).Nodup
      rw [keys_set]
      have : (keysE es)[j]? = some key := by unfold keysE; rw [List.getElem?_map, rd76 es j g1, Option.map_some, g2]
      rw [set_same _ _ _ this]; exact q4
    · rcases mem_set76 he with he | he
      · rw [he]; exact hkey
      · exact q5 e he
/-- how often a key stands in a list -/
def cnt (key : ByteArray) (l : List ByteArray) : Nat := l.countP (fun x => decide (x = key))
theorem cnt_snoc (key x : ByteArray) (l : List ByteArray) : cnt key (l ++ [x]) = cnt key l + (if x = key then 1 else 0) := by
  unfold cnt
  rw [List.countP_append, List.countP_singleton]
  by_cases h : x = key <;> simp [h]
theorem cnt_le (key : ByteArray) (l : List ByteArray) : cnt key l ≤ l.length := List.countP_le_length
theorem takeK (l : List ByteArray) (i : Nat) (h : i < l.length) : l.take (i + 1) = l.take i ++ [rdOf ByteArray.empty l (i : Int)] ∧ rdOf ByteArray.empty l (i : Int) ∈ l := by
  rw [rdOf_eq ByteArray.empty l i h]
  refine ⟨?_, List.getElem_mem _⟩
  rw [List.take_add_one, List.getElem?_eq_getElem h]
  rfl
theorem many_spec (l : List ByteArray) (hl : l.length ≤ 1000000) (key : ByteArray) : Evt (fun k => rillmeterlaw15_many.f k l key) (cnt key l : Int) := by
  have main : ∀ (d i : Nat), i + d = l.length → Evt (fun k => rillmeterlaw15_many.l0 k key (cnt key (l.take i) : Int) l (l.length : Int) (i : Int)) (cnt key l : Int) := by
    intro d
    induction d with
    | zero =>
      intro i hi
      refine Evt.step (Evt.now (f := fun _ => some _) (fun _ => rfl)) (fun k => ?_)
      simp only [rillmeterlaw15_many.l0]
      rw [if_neg (by omega), List.take_of_length_le (by omega)]
    | succ d ih =>
      intro i hi
      obtain ⟨e, _⟩ := takeK l i (by omega)
      have hI := ih (i + 1) (by omega)
      rw [e, cnt_snoc] at hI
      have hc := cnt_le key (l.take i)
      rw [List.length_take] at hc
      refine Evt.step hI (fun k => ?_)
      simp only [rillmeterlaw15_many.l0]
      rw [if_pos (by omega), if_pos (by omega), if_pos (by omega), i64_in ((i : Int) + 1) (by omega) (by omega), show (i : Int) + 1 = ((i + 1 : Nat) : Int) by omega]
      by_cases c : rdOf ByteArray.empty l (i : Int) = key
      · rw [if_pos (tl_inj.2 c), if_pos c, i64_in _ (by omega) (by omega)]
        rfl
      · rw [if_neg (fun g => c (tl_inj.1 g)), if_neg c]
        rfl
  have h := main l.length 0 (by omega)
  exact h.eq (fun k => rfl)
theorem rd_set (B : List S56) (p q : Nat) (y : S56) (hp : p < B.length) : rd_T56 (B.set p y) (q : Int) = if p = q then y else rd_T56 B (q : Int) := by
  unfold rd_T56
  rw [Int.toNat_natCast, List.getD_eq_getElem?_getD, List.getD_eq_getElem?_getD, List.getElem?_set]
  by_cases h : p = q
  · rw [if_pos h, if_pos (by subst h; exact hp), if_pos h]; rfl
  · rw [if_neg h, if_neg h]
theorem rd_no (m : Nat) (i : Int) : rd_T56 (List.replicate m z56) i = z56 := by
  unfold rd_T56
  rw [List.getD_eq_getElem?_getD, List.getElem?_replicate]
  split <;> rfl
theorem noB_len (b : Int) : (noB b).length = b.toNat := List.length_replicate
theorem fed_start {s b r v n c : Int} (h0 : 0 ≤ s) (h1 : s < 18446744073709551616) (g : newOk b r v n c) : Fed s r v 0 (noB b) (noL n c) := by
  obtain ⟨g1, g2, g3, g4, g5, g6, g7, g8, g9, g10⟩ := g
  refine ⟨h0, h1, g3, g4, g5, g6, by rw [noB_len]; omega, by rw [noB_len]; omega, Int.le_refl _, by decide, new_right n.toNat c.toNat 255 (by omega) (by omega) (by omega) (by omega) (by decide) (by decide), fun y hy => ?_⟩
  rw [(List.mem_replicate.1 hy).2]
  exact ⟨by show ((0 : Nat) : Int) ≤ r; omega, ⟨Int.le_refl _, Int.le_refl _⟩, fun e he => (by cases he), List.nodup_nil, fun e he => (by cases he)⟩
/-- how much of what is told belongs to such keys -/
def tot (p : ByteArray → Bool) : List (ByteArray × Int) → Int
  | [] => 0
  | y :: t => (if p y.1 = true then y.2 else 0) + tot p t
theorem tot_app (p : ByteArray → Bool) (b : List (ByteArray × Int)) : ∀ a, tot p (a ++ b) = tot p a + tot p b := by
  intro a
  induction a with
  | nil => show tot p b = 0 + tot p b; omega
  | cons y t ih => show (if p y.1 = true then y.2 else 0) + tot p (t ++ b) = (if p y.1 = true then y.2 else 0) + tot p t + tot p b; rw [ih]; omega
theorem tot_nn (p : ByteArray → Bool) : ∀ l : List (ByteArray × Int), (∀ y ∈ l, 0 ≤ y.2) → 0 ≤ tot p l := by
  intro l
  induction l with
  | nil => intro _; exact Int.le_refl _
  | cons y t ih =>
    intro h
    have h1 := h y (List.mem_cons_self ..)
    have h2 := ih (fun z hz => h z (List.mem_cons_of_mem _ hz))
    simp only [tot]
    split <;> omega
theorem tot_none (p : ByteArray → Bool) : ∀ l : List (ByteArray × Int), (∀ y ∈ l, p y.1 = true → y.2 = 0) → tot p l = 0 := by
  intro l
  induction l with
  | nil => intro _; rfl
  | cons y t ih =>
    intro h
    have h1 := h y (List.mem_cons_self ..)
    have h2 := ih (fun z hz => h z (List.mem_cons_of_mem _ hz))
    simp only [tot]
    by_cases c : p y.1 = true
    · rw [if_pos c, h1 c]; omega
    · rw [if_neg c]; omega
theorem tot_le (p q : ByteArray → Bool) (hpq : ∀ b, p b = true → q b = true) : ∀ l : List (ByteArray × Int), (∀ y ∈ l, 0 ≤ y.2) → tot p l ≤ tot q l := by
  intro l
  induction l with
  | nil => intro _; exact Int.le_refl _
  | cons y t ih =>
    intro h
    have h1 := h y (List.mem_cons_self ..)
    have h2 := ih (fun z hz => h z (List.mem_cons_of_mem _ hz))
    simp only [tot]
    by_cases c : p y.1 = true
    · rw [if_pos c, if_pos (hpq _ c)]; omega
    · rw [if_neg c]; split <;> omega
theorem tot_split (p q : ByteArray → Bool) : ∀ l : List (ByteArray × Int), tot p l = tot (fun b => p b && q b) l + tot (fun b => p b && !q b) l := by
  intro l
  induction l with
  | nil => rfl
  | cons y t ih =>
    simp only [tot]
    rw [ih]
    by_cases h1 : p y.1 = true <;> by_cases h2 : q y.1 = true <;> simp [h1, h2] <;> omega
def prE (es : List S76) : List (ByteArray × Int) := es.map (fun e => (e.f0, e.f1))
def prB : List S56 → List (ByteArray × Int)
  | [] => []
  | b :: t => prE b.f0 ++ prB t
theorem rd76_cons (e : S76) (t : List S76) (j : Nat) : rd_T76 (e :: t) ((j + 1 : Nat) : Int) = rd_T76 t (j : Int) := by
  unfold rd_T76
  rw [Int.toNat_natCast, Int.toNat_natCast]
  rfl
theorem rd56_cons (e : S56) (t : List S56) (j : Nat) : rd_T56 (e :: t) ((j + 1 : Nat) : Int) = rd_T56 t (j : Int) := by
  unfold rd_T56
  rw [Int.toNat_natCast, Int.toNat_natCast]
  rfl
theorem tot_setE (p : ByteArray → Bool) (x : S76) : ∀ (es : List S76) (j : Nat), j < es.length → tot p (prE (es.set j x)) = tot p (prE es) - (if p (rd_T76 es (j : Int)).f0 = true then (rd_T76 es (j : Int)).f1 else 0) + (if p x.f0 = true then x.f1 else 0) := by
  intro es
  induction es with
  | nil => intro j h; exact absurd h (Nat.not_lt_zero _)
  | cons e t ih =>
    intro j h
    cases j with
    | zero =>
      show (if p x.f0 = true then x.f1 else 0) + tot p (prE t) = (if p e.f0 = true then e.f1 else 0) + tot p (prE t) - (if p e.f0 = true then e.f1 else 0) + (if p x.f0 = true then x.f1 else 0)
      omega
    | succ j =>
      rw [rd76_cons]
      have := ih j (by simp only [List.length_cons] at h; omega)
      show (if p e.f0 = true then e.f1 else 0) + tot p (prE (t.set j x)) = (if p e.f0 = true then e.f1 else 0) + tot p (prE t) - (if p (rd_T76 t (j : Int)).f0 = true then (rd_T76 t (j : Int)).f1 else 0) + (if p x.f0 = true then x.f1 else 0)
      rw [this]
      omega
theorem tot_setB (p : ByteArray → Bool) (x : S56) : ∀ (B : List S56) (j : Nat), j < B.length → tot p (prB (B.set j x)) = tot p (prB B) - tot p (prE (rd_T56 B (j : Int)).f0) + tot p (prE x.f0) := by
  intro B
  induction B with
  | nil => intro j h; exact absurd h (Nat.not_lt_zero _)
  | cons e t ih =>
    intro j h
    cases j with
    | zero =>
      show tot p (prE x.f0 ++ prB t) = tot p (prE e.f0 ++ prB t) - tot p (prE e.f0) + tot p (prE x.f0)
      rw [tot_app, tot_app]
      omega
    | succ j =>
      rw [rd56_cons]
      have := ih j (by simp only [List.length_cons] at h; omega)
      show tot p (prE e.f0 ++ prB (t.set j x)) = tot p (prE e.f0 ++ prB t) - tot p (prE (rd_T56 t (j : Int)).f0) + tot p (prE x.f0)
      rw [tot_app, tot_app, this]
      omega
/-- the keys that fall on the cell of this one in row j -/
def sameCell (s : Int) (key : ByteArray) (j : Nat) (c : Int) (b : ByteArray) : Bool := decide (hcell (hrow s j) b c = hcell (hrow s j) key c)
def sameKey (key b : ByteArray) : Bool := decide (b = key)
/-- what came: W went to the light ones, the rest is in the buckets -/
structure Bnd (s r c : Int) (m n : Nat) (l : List ByteArray) (B : List S56) (rows : List (List Int)) (W : List (ByteArray × Int)) : Prop where
  sum : ∀ p : ByteArray → Bool, tot p W + tot p (prB B) = (l.countP p : Nat)
  nn : ∀ y ∈ W, 0 ≤ y.2
  val : ∀ j, j < rows.length → ∀ key, valAt (hrow s 1) key rows j = mn (tot (sameCell (hrow s 1) key j c) W) 255
  cols : (colsOf rows : Int) = c
  len : rows.length = m
  pl : ∀ q : Nat, q < n → ∀ e ∈ (rd_T56 B (q : Int)).f0, placeOf s n e.f0 = q
  free : ∀ q : Nat, q < n → ∀ e ∈ (rd_T56 B (q : Int)).f0, e.f2 = false → ∀ y ∈ W, y.1 ≠ e.f0
  low : ∀ q : Nat, q < n → ((rd_T56 B (q : Int)).f0.length : Int) < r → ∀ y ∈ W, placeOf s n y.1 ≠ q
theorem countP_snoc (p : ByteArray → Bool) (l : List ByteArray) (key : ByteArray) : ((l ++ [key]).countP p : Int) = (l.countP p : Int) + (if p key = true then 1 else 0) := by
  rw [List.countP_append, List.countP_singleton]
  split <;> simp
theorem bnd_step {s r c : Int} {m n : Nat} {l : List ByteArray} {B : List S56} {rows rows' : List (List Int)} {W W' : List (ByteArray × Int)} {key : ByteArray} {y' : S56} (hB : B.length = n) (hq : placeOf s n key < n) (h : Bnd s r c m n l B rows W)
    (h1 : ∀ p : ByteArray → Bool, tot p W' + tot p (prE y'.f0) = tot p W + tot p (prE (rd_T56 B (placeOf s n key : Int)).f0) + (if p key = true then 1 else 0))
    (h2 : ∀ y ∈ W', 0 ≤ y.2)
    (h3 : (∀ j, j < rows'.length → ∀ key, valAt (hrow s 1) key rows' j = mn (tot (sameCell (hrow s 1) key j c) W') 255) ∧ (colsOf rows' : Int) = c ∧ rows'.length = m)
    (h4 : ∀ e ∈ y'.f0, e.f0 = key ∨ ∃ e0 ∈ (rd_T56 B (placeOf s n key : Int)).f0, e0.f0 = e.f0)
    (h5 : ∀ e ∈ y'.f0, e.f2 = false → ∀ y ∈ W', y.1 ≠ e.f0)
    (h6 : ∀ y ∈ W', y ∈ W ∨ placeOf s n y.1 = placeOf s n key)
    (h7 : (y'.f0.length : Int) < r → ∀ y ∈ W', placeOf s n y.1 ≠ placeOf s n key) : Bnd s r c m n (l ++ [key]) (B.set (placeOf s n key) y') rows' W' := by
  generalize hqq : placeOf s n key = q at *
  have hset : ∀ q' : Nat, rd_T56 (B.set q y') (q' : Int) = if q = q' then y' else rd_T56 B (q' : Int) := fun q' => rd_set B q q' y' (by omega)
  refine ⟨fun p => ?_, h2, h3.1, h3.2.1, h3.2.2, fun q' hq' e he => ?_, fun q' hq' e he hf y hy => ?_, fun q' hq' hl y hy => ?_⟩
  · have a := h.sum p
    have b := h1 p
    rw [tot_setB p y' B q (by omega), countP_snoc]
    omega
  · rw [hset] at he
    by_cases g : q = q'
    · rw [if_pos g] at he
      rcases h4 e he with e1 | ⟨e0, m0, e1⟩
      · rw [e1, hqq]; exact g
      · rw [← e1, h.pl q hq e0 m0]; exact g
    · rw [if_neg g] at he
      exact h.pl q' hq' e he
  · rw [hset] at he
    by_cases g : q = q'
    · rw [if_pos g] at he
      exact h5 e he hf y hy
    · rw [if_neg g] at he
      rcases h6 y hy with e1 | e1
      · exact h.free q' hq' e he hf y e1
      · intro e2
        rw [e2, h.pl q' hq' e he] at e1
        exact g e1.symm
  · rw [hset] at hl
    by_cases g : q = q'
    · rw [if_pos g] at hl
      rw [← g]
      exact h7 hl y hy
    · rw [if_neg g] at hl
      rcases h6 y hy with e1 | e1
      · exact h.low q' hq' hl y e1
      · rw [e1]; exact g
theorem bnd_rows {s c : Int} {m : Nat} {rows : List (List Int)} {W : List (ByteArray × Int)} (hr : rightL 255 rows) (key : ByteArray) (a : Int) (ha : 0 ≤ a) (hn : ∀ y ∈ W, 0 ≤ y.2)
    (h : (∀ j, j < rows.length → ∀ key, valAt (hrow s 1) key rows j = mn (tot (sameCell (hrow s 1) key j c) W) 255) ∧ (colsOf rows : Int) = c ∧ rows.length = m) :
    (∀ j, j < (addRows (hrow s 1) 255 key a rows).length → ∀ key2, valAt (hrow s 1) key2 (addRows (hrow s 1) 255 key a rows) j = mn (tot (sameCell (hrow s 1) key2 j c) ((key, a) :: W)) 255) ∧ (colsOf (addRows (hrow s 1) 255 key a rows) : Int) = c ∧ (addRows (hrow s 1) 255 key a rows).length = m := by
  refine ⟨fun j hj key2 => ?_, ?_, by rw [addRows_length]; exact h.2.2⟩
  · rw [addRows_length] at hj
    have hl : (rows.getD j []).length = colsOf rows := (hr.2.2.2.2 _ (getD_row rows j hj)).2.2.1
    have hv := valAt_add (hrow s 1) 255 key key2 a rows j hr hj
    unfold cellAt at hv
    rw [hl, h.2.1] at hv
    rw [hv, h.1 j hj key2]
    have ht := tot_nn (sameCell (hrow s 1) key2 j c) W hn
    simp only [tot]
    by_cases e : hcell (hrow (hrow s 1) j) key c = hcell (hrow (hrow s 1) j) key2 c
    · rw [if_pos e.symm, if_pos (show sameCell (hrow s 1) key2 j c key = true from decide_eq_true e)]
      generalize tot (sameCell (hrow s 1) key2 j c) W = z at *
      unfold mn
      split <;> split <;> split <;> omega
    · rw [if_neg (fun x => e x.symm), if_neg (show ¬ sameCell (hrow s 1) key2 j c key = true from fun x => e (of_decide_eq_true x)), Int.zero_add]
  · rw [addRows_cols _ _ _ _ _ hr.2.2.1]; exact h.2.1
theorem mem_set_ne {x e : S76} : ∀ (l : List S76) (j : Nat), e ∈ l.set j x → e = x ∨ ∃ i, i ≠ j ∧ l[i]? = some e := by
  intro l
  induction l with
  | nil => intro j h; cases h
  | cons a t ih =>
    intro j h
    cases j with
    | zero =>
      rcases List.mem_cons.1 h with h | h
      · exact .inl h
      · obtain ⟨i, hi⟩ := List.mem_iff_getElem?.1 h
        exact .inr ⟨i + 1, by omega, by rw [List.getElem?_cons_succ]; exact hi⟩
    | succ j =>
      rcases List.mem_cons.1 h with h | h
      · exact .inr ⟨0, by omega, by rw [h]; rfl⟩
      · rcases ih j h with h | ⟨i, h1, h2⟩
        · exact .inl h
        · exact .inr ⟨i + 1, by omega, by rw [List.getElem?_cons_succ]; exact h2⟩
theorem bnd_snoc {s r v t c : Int} {m n : Nat} {l : List ByteArray} {B : List S56} {rows rows' : List (List Int)} {W : List (ByteArray × Int)} {key : ByteArray} {y' : S56} (hB : B.length = n) (hq : placeOf s n key < n) (hF : Fed s r v t B rows) (h : Bnd s r c m n l B rows W)
    (hA : (∃ j, j < (rd_T56 B (placeOf s n key : Int)).f0.length ∧ (rd_T76 (rd_T56 B (placeOf s n key : Int)).f0 (j : Int)).f0 = key ∧ rows' = rows ∧ y' = ⟨(rd_T56 B (placeOf s n key : Int)).f0.set j ⟨key, (rd_T76 (rd_T56 B (placeOf s n key : Int)).f0 (j : Int)).f1 + 1, (rd_T76 (rd_T56 B (placeOf s n key : Int)).f0 (j : Int)).f2⟩, (rd_T56 B (placeOf s n key : Int)).f1⟩) ∨
       (key ∉ keysE (rd_T56 B (placeOf s n key : Int)).f0 ∧ ((rd_T56 B (placeOf s n key : Int)).f0.length : Int) < r ∧ rows' = rows ∧ y' = ⟨(rd_T56 B (placeOf s n key : Int)).f0 ++ [⟨key, 1, false⟩], (rd_T56 B (placeOf s n key : Int)).f1⟩) ∨
       (key ∉ keysE (rd_T56 B (placeOf s n key : Int)).f0 ∧ r ≤ ((rd_T56 B (placeOf s n key : Int)).f0.length : Int) ∧ ((y' = ⟨(rd_T56 B (placeOf s n key : Int)).f0, (rd_T56 B (placeOf s n key : Int)).f1 + 1⟩ ∧ rows' = addRows (hrow s 1) 255 key 1 rows) ∨
         ∃ j, j < (rd_T56 B (placeOf s n key : Int)).f0.length ∧ y' = ⟨(rd_T56 B (placeOf s n key : Int)).f0.set j ⟨key, 1, true⟩, 0⟩ ∧ rows' = addRows (hrow s 1) 255 (rd_T76 (rd_T56 B (placeOf s n key : Int)).f0 (j : Int)).f0 (rd_T76 (rd_T56 B (placeOf s n key : Int)).f0 (j : Int)).f1 rows))) :
    ∃ W', Bnd s r c m n (l ++ [key]) (B.set (placeOf s n key) y') rows' W' := by
  have hpl := h.pl _ hq
  have hfree := h.free _ hq
  have hlow := h.low _ hq
  have hbk := hF.bs _ (take56 B (placeOf s n key) (by omega)).2
  obtain ⟨b1, b2, b3, b4, b5⟩ := hbk
  have hstep := @bnd_step s r c m n l B rows rows' W (key := key) (y' := y') (hB := hB) (hq := hq) (h := h)
  have hk : ∀ e ∈ (rd_T56 B (placeOf s n key : Int)).f0, e.f0 ∈ keysE (rd_T56 B (placeOf s n key : Int)).f0 := fun e he => List.mem_map_of_mem he
  generalize hes : (rd_T56 B (placeOf s n key : Int)) = y at *
  rcases hA with ⟨j, j1, j2, j3, j4⟩ | ⟨j1, j2, j3, j4⟩ | ⟨j1, j2, ⟨j4, j3⟩ | ⟨j, j0, j4, j3⟩⟩
  · have hmj := (take76 y.f0 j j1).2
    refine ⟨W, hstep (W' := W) (fun p => ?_) h.nn (by rw [j3]; exact ⟨h.val, h.cols, h.len⟩) (fun e he => ?_) (fun e he hf z hz => ?_) (fun z hz => .inl hz) (fun hl => ?_)⟩
    · rw [j4]
      show tot p W + tot p (prE (y.f0.set j _)) = _
      rw [tot_setE p _ y.f0 j j1, j2]
      simp only
      split <;> omega
    · rw [j4] at he
      rcases mem_set76 he with he | he
      · exact .inl (by rw [he])
      · exact .inr ⟨e, he, rfl⟩
    · rw [j4] at he
      rcases mem_set76 he with he | he
      · rw [he] at hf ⊢
        have := hfree _ hmj hf z hz
        rw [j2] at this
        exact this
      · exact hfree e he hf z hz
    · rw [j4] at hl
      simp only [List.length_set] at hl
      exact hlow hl
  · refine ⟨W, hstep (W' := W) (fun p => ?_) h.nn (by rw [j3]; exact ⟨h.val, h.cols, h.len⟩) (fun e he => ?_) (fun e he hf z hz => ?_) (fun z hz => .inl hz) (fun hl => ?_)⟩
    · rw [j4]
      show tot p W + tot p (prE (y.f0 ++ [_])) = _
      unfold prE
      rw [List.map_append, tot_app]
      simp only [List.map_cons, List.map_nil, tot]
      omega
    · rw [j4] at he
      rcases List.mem_append.1 he with he | he
      · exact .inr ⟨e, he, rfl⟩
      · exact .inl (by rw [List.mem_singleton.1 he])
    · rw [j4] at he
      rcases List.mem_append.1 he with he | he
      · exact hfree e he hf z hz
      · rw [List.mem_singleton.1 he]
        intro e2
        exact hlow j2 z hz (by rw [e2])
    · rw [j4] at hl
      simp only [List.length_append, List.length_singleton] at hl
      exact hlow (by omega)
  · have h3 := bnd_rows hF.lt key 1 (by decide) h.nn ⟨h.val, h.cols, h.len⟩
    refine ⟨(key, 1) :: W, hstep (W' := (key, 1) :: W) (fun p => ?_) (fun z hz => ?_) (by rw [j3]; exact h3) (fun e he => ?_) (fun e he hf z hz => ?_) (fun z hz => ?_) (fun hl => ?_)⟩
    · rw [j4]
      simp only [tot]
      omega
    · rcases List.mem_cons.1 hz with hz | hz
      · rw [hz]; show (0 : Int) ≤ 1; decide
      · exact h.nn z hz
    · rw [j4] at he
      exact .inr ⟨e, he, rfl⟩
    · rw [j4] at he
      rcases List.mem_cons.1 hz with hz | hz
      · rw [hz]
        intro e2
        simp only at e2
        exact j1 (by rw [e2]; exact hk e he)
      · exact hfree e he hf z hz
    · rcases List.mem_cons.1 hz with hz | hz
      · right; rw [hz]
      · exact .inl hz
    · rw [j4] at hl
      simp only at hl
      omega
  · have hmj := (take76 y.f0 j j0).2
    have hv := b3 _ hmj
    have h3 := bnd_rows hF.lt (rd_T76 y.f0 (j : Int)).f0 (rd_T76 y.f0 (j : Int)).f1 (by omega) h.nn ⟨h.val, h.cols, h.len⟩
    refine ⟨((rd_T76 y.f0 (j : Int)).f0, (rd_T76 y.f0 (j : Int)).f1) :: W, hstep (W' := ((rd_T76 y.f0 (j : Int)).f0, (rd_T76 y.f0 (j : Int)).f1) :: W) (fun p => ?_) (fun z hz => ?_) (by rw [j3]; exact h3) (fun e he => ?_) (fun e he hf z hz => ?_) (fun z hz => ?_) (fun hl => ?_)⟩
    · rw [j4]
      show _ + tot p (prE (y.f0.set j _)) = _
      rw [tot_setE p _ y.f0 j j0]
      simp only [tot]
      omega
    · rcases List.mem_cons.1 hz with hz | hz
      · rw [hz]; show 0 ≤ (rd_T76 y.f0 (j : Int)).f1; omega
      · exact h.nn z hz
    · rw [j4] at he
      rcases mem_set76 he with he | he
      · exact .inl (by rw [he])
      · exact .inr ⟨e, he, rfl⟩
    · rw [j4] at he
      rcases mem_set_ne _ _ he with he | ⟨i, hi, he⟩
      · rw [he] at hf; cases hf
      · rcases List.mem_cons.1 hz with hz | hz
        · rw [hz]
          intro e2
          simp only at e2
          have k1 : (keysE y.f0)[i]? = some e.f0 := by unfold keysE; rw [List.getElem?_map, he]; rfl
          have k2 : (keysE y.f0)[j]? = some e.f0 := by unfold keysE; rw [List.getElem?_map, rd76 y.f0 j j0, ← e2]; rfl
          have hil : j < (keysE y.f0).length := by unfold keysE; rw [List.length_map]; exact j0
          exact hi ((List.getElem?_inj hil b4).1 (k2.trans k1.symm)).symm
        · exact hfree e (List.mem_of_getElem? he) hf z hz
    · rcases List.mem_cons.1 hz with hz | hz
      · right; rw [hz]; exact hpl _ hmj
      · exact .inl hz
    · rw [j4] at hl
      simp only [List.length_set] at hl
      omega
theorem prB_no (m : Nat) : prB (List.replicate m z56) = [] := by
  induction m with
  | zero => rfl
  | succ m ih => rw [List.replicate_succ]; show prE z56.f0 ++ prB (List.replicate m z56) = []; rw [ih]; rfl
theorem valAt_zero (s : Int) (key : ByteArray) (n c j : Nat) : valAt s key (List.replicate n (List.replicate c 0)) j = 0 := by
  unfold valAt
  generalize (cellAt s key j ((List.replicate n (List.replicate c (0 : Int))).getD j [])).toNat = q
  by_cases h : j < n
  · by_cases g : q < c
    · simp [List.getD_eq_getElem?_getD, h, g]
    · simp [List.getD_eq_getElem?_getD, h, g]
  · simp [List.getD_eq_getElem?_getD, h]
theorem bnd_start {s b r v n c : Int} (g : newOk b r v n c) : Bnd s r c n.toNat b.toNat [] (noB b) (noL n c) [] := by
  obtain ⟨g1, g2, g3, g4, g5, g6, g7, g8, g9, g10⟩ := g
  have hz : ∀ p : Nat, rd_T56 (noB b) (p : Int) = z56 := fun p => rd_no _ _
  refine ⟨fun p => ?_, fun y hy => (by cases hy), fun j _ key => ?_, ?_, List.length_replicate, fun p _ e he => (by rw [hz] at he; cases he), fun p _ e he => (by rw [hz] at he; cases he), fun p _ _ y hy => (by cases hy)⟩
  · unfold noB; rw [prB_no]; rfl
  · unfold noL; rw [valAt_zero]; rfl
  · unfold colsOf noL
    obtain ⟨m, hm⟩ : ∃ m, n.toNat = m + 1 := ⟨n.toNat - 1, by omega⟩
    rw [hm, List.replicate_succ]
    show ((List.replicate c.toNat (0 : Int)).length : Int) = c
    rw [List.length_replicate]; omega
theorem fedb_l0 {s r v c : Int} {m n : Nat} (l : List ByteArray) (hl : l.length ≤ 300) (hk : ∀ x ∈ l, x.size ≤ 100) : ∀ (d i : Nat) (B : List S56) (rows : List (List Int)) (W : List (ByteArray × Int)), i + d = l.length → Fed s r v i B rows → B.length = n → Bnd s r c m n (l.take i) B rows W →
    ∃ B' rows' W', Evt (fun k => rillmeterlaw15_fed.l0 k l (l.length : Int) (i : Int) s r v B (hrow s 1) 255 rows) (s, r, v, B', hrow s 1, 255, rows', true) ∧ Fed s r v l.length B' rows' ∧ B'.length = n ∧ Bnd s r c m n l B' rows' W' := by
  intro d
  induction d with
  | zero =>
    intro i B rows W hi hF hB hE
    have e : i = l.length := by omega
    subst e
    rw [List.take_length] at hE
    refine ⟨B, rows, W, Evt.step (Evt.now (f := fun _ => some _) (fun _ => rfl)) (fun k => ?_), hF, hB, hE⟩
    simp only [rillmeterlaw15_fed.l0]
    rw [if_neg (by omega)]
  | succ d ih =>
    intro i B rows W hi hF hB hE
    obtain ⟨e, hm⟩ := takeK l i (by omega)
    have hx := hk _ hm
    obtain ⟨y', rows', ⟨m1, e1⟩, hF', hA⟩ := add_fed hF (by omega) (rdOf ByteArray.empty l (i : Int)) (by omega)
    rw [hB] at e1 hF' hA
    have hn1 : 1 ≤ n := by have := hF.b0; omega
    have hpl := (place_lt s n (rdOf ByteArray.empty l (i : Int)) hn1).1
    obtain ⟨W1, hW1⟩ := bnd_snoc hB hpl hF hE hA
    rw [← e] at hW1
    obtain ⟨B', R', W', ⟨m2, e2⟩, q1, q2, q3⟩ := ih (i + 1) (B.set (placeOf s n (rdOf ByteArray.empty l (i : Int))) y') rows' W1 (by omega) (show Fed s r v ((i + 1 : Nat) : Int) _ _ from (show ((i + 1 : Nat) : Int) = (i : Int) + 1 by omega) ▸ hF') (by rw [List.length_set]; exact hB) hW1
    refine ⟨B', R', W', ⟨m1 + m2 + 1, fun k hk => ?_⟩, q1, q2, q3⟩
    obtain ⟨k, rfl⟩ : ∃ z, k = z + 1 := ⟨k - 1, by omega⟩
    have e1 := e1 k (by omega)
    have e2 := e2 k (by omega)
    simp only at e1 e2
    simp only [rillmeterlaw15_fed.l0]
    rw [if_pos (by omega), if_pos (by omega), if_pos (by omega), e1, Option.bind_some, i64_in ((i : Int) + 1) (by omega) (by omega), show (i : Int) + 1 = ((i + 1 : Nat) : Int) by omega]
    exact e2
def shortK (l : List ByteArray) : Prop := (l.length : Int) ≤ 300 ∧ ∀ s ∈ l, s.size ≤ 100
theorem fedb_ok {s b r v n c : Int} (h0 : 0 ≤ s) (h1 : s < 18446744073709551616) (g : newOk b r v n c) (l : List ByteArray) (hl : shortK l) :
    ∃ B rows W, Evt (fun k => rillmeterlaw15_fed.f k s b r v n c l) (s, r, v, B, hrow s 1, 255, rows, true) ∧ Fed s r v l.length B rows ∧ B.length = b.toNat ∧ Bnd s r c n.toNat b.toNat l B rows W := by
  obtain ⟨B, rows, W, ⟨m2, e2⟩, q1, q2, q3⟩ := fedb_l0 (n := b.toNat) l (by have := hl.1; omega) hl.2 l.length 0 (noB b) (noL n c) [] (by omega) (fed_start h0 h1 g) (noB_len b) (by rw [List.take_zero]; exact bnd_start g)
  obtain ⟨m1, e1⟩ := elnew_spec s b r v n c h0 h1
  rw [if_pos g] at e1
  refine ⟨B, rows, W, ⟨m1 + m2 + 1003, fun k hk => ?_⟩, q1, q2, q3⟩
  obtain ⟨k, rfl⟩ : ∃ z, k = z + 1 := ⟨k - 1, by omega⟩
  have e1 := e1 (k + 1) (by omega)
  have e2 := e2 k (by omega)
  simp only at e1 e2
  simp only [rillmeterlaw15_fed.f]
  rw [e1, Option.bind_some]
  simp only
  rw [if_pos trivial, short_spec (k + 1) l 300 ⟨by decide, by decide⟩ (by omega), decide_eq_true (show (l.length : Int) ≤ 300 ∧ ∀ s ∈ l, s.size ≤ 100 from hl), Option.bind_some, Bool.not_true]
  simp only [rillmeterlaw15_fed.j0]
  rw [if_neg (by decide)]
  exact e2
theorem fed_no {s b r v n c : Int} (h0 : 0 ≤ s) (h1 : s < 18446744073709551616) (l : List ByteArray) (h : ¬ (newOk b r v n c ∧ shortK l)) :
    ∃ R, Evt (fun k => rillmeterlaw15_fed.f k s b r v n c l) R ∧ R.2.2.2.2.2.2.2 = false := by
  obtain ⟨m1, e1⟩ := elnew_spec s b r v n c h0 h1
  by_cases g : newOk b r v n c
  · have hl : ¬ shortK l := fun q => h ⟨g, q⟩
    rw [if_pos g] at e1
    refine ⟨(s, r, v, noB b, hrow s 1, 255, noL n c, false), ⟨m1 + 1003, fun k hk => ?_⟩, rfl⟩
    obtain ⟨k, rfl⟩ : ∃ z, k = z + 1 := ⟨k - 1, by omega⟩
    have e1 := e1 (k + 1) (by omega)
    simp only at e1
    simp only [rillmeterlaw15_fed.f]
    rw [e1, Option.bind_some]
    simp only
    rw [if_pos trivial, short_spec (k + 1) l 300 ⟨by decide, by decide⟩ (by omega), decide_eq_false (show ¬ ((l.length : Int) ≤ 300 ∧ ∀ s ∈ l, s.size ≤ 100) from hl), Option.bind_some, Bool.not_false]
    simp only [rillmeterlaw15_fed.j0]
    rw [if_pos trivial]
  · rw [if_neg g] at e1
    refine ⟨(0, 0, 0, [], 0, 0, [], false), ⟨m1 + 1, fun k hk => ?_⟩, rfl⟩
    obtain ⟨k, rfl⟩ : ∃ z, k = z + 1 := ⟨k - 1, by omega⟩
    have e1 := e1 (k + 1) (by omega)
    simp only at e1
    simp only [rillmeterlaw15_fed.f]
    rw [e1, Option.bind_some]
    simp only
    rw [if_neg (by decide)]
    simp only [rillmeterlaw15_fed.j0]
    rw [if_pos trivial]
/-- the votes of a key are all that is kept of it -/
theorem kept {s r t c v : Int} {m n : Nat} {l : List ByteArray} {B : List S56} {rows : List (List Int)} {W : List (ByteArray × Int)} (hB : B.length = n) (hF : Fed s r v t B rows) (h : Bnd s r c m n l B rows W) (key : ByteArray) (hq : placeOf s n key < n) :
    tot (sameKey key) (prB B) = tot (sameKey key) (prE (rd_T56 B (placeOf s n key : Int)).f0) := by
  have e := tot_setB (sameKey key) z56 B (placeOf s n key) (by omega)
  have z : tot (sameKey key) (prE z56.f0) = 0 := rfl
  have main : ∀ B' : List S56, (∀ y ∈ B', ∀ e ∈ y.f0, e.f0 ≠ key) → tot (sameKey key) (prB B') = 0 := by
    intro B'
    induction B' with
    | nil => intro _; rfl
    | cons y u ih =>
      intro hh
      show tot (sameKey key) (prE y.f0 ++ prB u) = 0
      rw [tot_app, ih (fun z hz => hh z (List.mem_cons_of_mem _ hz)), tot_none]
      · rfl
      · intro w hw g
        obtain ⟨e, he, rfl⟩ := List.mem_map.1 hw
        exact absurd (of_decide_eq_true g) (hh y (List.mem_cons_self ..) e he)
  have h0 : tot (sameKey key) (prB (B.set (placeOf s n key) z56)) = 0 := by
    apply main
    intro y hy e he g
    obtain ⟨i, hi⟩ := List.mem_iff_getElem?.1 hy
    rw [List.getElem?_set] at hi
    by_cases c1 : placeOf s n key = i
    · rw [if_pos c1, if_pos (by omega)] at hi
      rw [← Option.some.inj hi] at he
      cases he
    · rw [if_neg c1] at hi
      have hlt : i < B.length := by
        rcases Nat.lt_or_ge i B.length with q | q
        · exact q
        · rw [List.getElem?_eq_none q] at hi; cases hi
      have : y = rd_T56 B (i : Int) := by
        have := rd56 B i hlt
        rw [hi] at this
        exact Option.some.inj this
      rw [this] at he
      have := h.pl i (by omega) e he
      rw [g] at this
      exact c1 this
  omega
theorem kept_at (key : ByteArray) (es : List S76) (h : (keysE es).Nodup) : (key ∉ keysE es → tot (sameKey key) (prE es) = 0) ∧ ∀ j, j < es.length → (rd_T76 es (j : Int)).f0 = key → tot (sameKey key) (prE es) = (rd_T76 es (j : Int)).f1 := by
  have hno : ∀ es : List S76, (∀ e ∈ es, e.f0 = key → e.f1 = 0) → tot (sameKey key) (prE es) = 0 := fun es hh => tot_none _ _ (fun w hw g => by
    obtain ⟨e, he, rfl⟩ := List.mem_map.1 hw
    exact hh e he (of_decide_eq_true g))
  refine ⟨fun g => hno es (fun e he q => absurd (show key ∈ keysE es by rw [← q]; exact List.mem_map_of_mem he) g), fun j hj g => ?_⟩
  have e := tot_setE (sameKey key) ⟨key, 0, false⟩ es j hj
  have z := hno (es.set j ⟨key, 0, false⟩) (fun e he q => by
    rcases mem_set_ne _ _ he with he | ⟨i, hi, he⟩
    · rw [he]
    · have k1 : (keysE es)[i]? = some key := by unfold keysE; rw [List.getElem?_map, he, ← q]; rfl
      have k2 : (keysE es)[j]? = some key := by unfold keysE; rw [List.getElem?_map, rd76 es j hj, ← g]; rfl
      have hil : j < (keysE es).length := by unfold keysE; rw [List.length_map]; exact hj
      exact absurd ((List.getElem?_inj hil h).1 (k2.trans k1.symm)).symm hi)
  rw [if_pos (show sameKey key (rd_T76 es (j : Int)).f0 = true from decide_eq_true g), if_pos (show sameKey key key = true from decide_eq_true rfl)] at e
  simp only at e
  omega
/-- what is told of a key: its votes, and what is light of its cells -/
theorem get_bnd {s r v t c : Int} {m n : Nat} {B : List S56} {rows : List (List Int)} {l : List ByteArray} {W : List (ByteArray × Int)} (hB : B.length = n) (hF : Fed s r v t B rows) (h : Bnd s r c m n l B rows W) (key : ByteArray) (hs : key.size ≤ 100) :
    ∃ lo hi ex full, (∀ k, 2200 ≤ k → elastic_Get.f k s r v B (hrow s 1) 255 rows key = some (lo, hi, ex, full)) ∧ lo + tot (sameKey key) W = (cnt key l : Int) ∧
      ((hi = lo ∧ ex = true ∧ full = false ∧ tot (sameKey key) W = 0) ∨ (hi = lo + getL (hrow s 1) 255 key rows ∧ ex = (getL (hrow s 1) 255 key rows == 0) ∧ full = !(decide (getL (hrow s 1) 255 key rows < 255)))) := by
  have hp := (place_lt s n key (by have := hF.b0; omega)).1
  have hk := kept hB hF h key hp
  have hsum := h.sum (sameKey key)
  have hpB : placeOf s n key < B.length := by omega
  have hbk := hF.bs _ (take56 B _ hpB).2
  have hfree := h.free _ hp
  have hbs := fun k (hk : 2000 ≤ k) => bucket_spec hF.s0 hF.s1 r v B hF.b1 hF.b0 (hrow s 1) 255 rows key (by omega) k hk
  rw [hB] at hbs
  have hr1 := hF.r1
  have ht1 := hF.t1
  have hg := getL_range (hrow s 1) 255 key rows hF.lt
  have hH := hrow_range s 1
  have hget : ∀ k, 2200 ≤ k → least_Get.f k (hrow s 1) 255 rows key = some (getL (hrow s 1) 255 key rows, decide (getL (hrow s 1) 255 key rows < 255)) := fun k hk => by
    rw [getf_spec k (hrow s 1) 255 key rows hH.1 (by omega) (by omega) (by omega), if_pos hF.lt]
  have start : ∀ k, 2200 ≤ k → elastic_Get.f k s r v B (hrow s 1) 255 rows key = ((some (elastic_find.go key (rd_T56 B (placeOf s n key : Int)).f0 0) : Option Int).bind fun t262 => (if t262 ≥ 0 then (if 0 ≤ t262 then (if t262 < (((rd_T56 B (placeOf s n key : Int)).f0).length : Int) then (if ((rd_T76 ((rd_T56 B (placeOf s n key : Int)).f0) t262).f2 = true) then ((least_Get.f k (hrow s 1) 255 rows key).bind fun bt265 => (some ((rd_T76 ((rd_T56 B (placeOf s n key : Int)).f0) t262).f1, wrap64 (((rd_T76 ((rd_T56 B (placeOf s n key : Int)).f0) t262).f1) + bt265.1), (bt265.1 == 0), !bt265.2))) else (some ((rd_T76 ((rd_T56 B (placeOf s n key : Int)).f0) t262).f1, (rd_T76 ((rd_T56 B (placeOf s n key : Int)).f0) t262).f1, true, false))) else (none)) else (none)) else ((least_Get.f k (hrow s 1) 255 rows key).bind fun bt267 => (some (0, wrap64 (0 + bt267.1), (bt267.1 == 0), !bt267.2))))) := by
    intro k hk
    simp only [elastic_Get.f]
    rw [right_fed hF k (by omega), Option.bind_some, if_pos rfl, hbs k (by omega), Option.bind_some, if_pos (by omega), if_pos (by omega)]
    have := hbk.1
    simp only [elastic_find.f]
    rw [if_pos (by omega)]
  generalize rd_T56 B (placeOf s n key : Int) = y at *
  obtain ⟨q1, q2, q3, q4, q5⟩ := hbk
  obtain ⟨z1, z2⟩ := kept_at key y.f0 q4
  have hcnt : (l.countP (sameKey key) : Int) = (cnt key l : Int) := rfl
  rcases go_spec key y.f0 0 with ⟨g1, g2⟩ | ⟨j, g1, g2, g3, _⟩
  · have z := z1 g1
    refine ⟨0, 0 + getL (hrow s 1) 255 key rows, _, _, fun k hk => ?_, by omega, .inr ⟨rfl, rfl, rfl⟩⟩
    rw [start k hk, g2, Option.bind_some, if_neg (by decide), hget k hk, Option.bind_some]
    simp only
    rw [i64_in _ (by omega) (by omega)]
  · have z := z2 j g1 g2
    have hmj := (take76 y.f0 j g1).2
    have hv := q3 _ hmj
    by_cases f : (rd_T76 y.f0 (j : Int)).f2 = true
    · refine ⟨(rd_T76 y.f0 (j : Int)).f1, (rd_T76 y.f0 (j : Int)).f1 + getL (hrow s 1) 255 key rows, _, _, fun k hk => ?_, by omega, .inr ⟨rfl, rfl, rfl⟩⟩
      rw [start k hk, g3, Nat.zero_add, Option.bind_some, if_pos (by omega), if_pos (by omega), if_pos (by omega), if_pos f, hget k hk, Option.bind_some]
      simp only
      rw [i64_in _ (by omega) (by omega)]
    · have f := Bool.eq_false_iff.2 f
      have hz : tot (sameKey key) W = 0 := tot_none _ _ (fun w hw g => by
        have := hfree _ hmj f w hw
        rw [g2] at this
        exact absurd (of_decide_eq_true g) this)
      refine ⟨(rd_T76 y.f0 (j : Int)).f1, (rd_T76 y.f0 (j : Int)).f1, true, false, fun k hk => ?_, by omega, .inl ⟨rfl, rfl, rfl, hz⟩⟩
      rw [start k hk, g3, Nat.zero_add, Option.bind_some, if_pos (by omega), if_pos (by omega), if_pos (by omega), if_neg (by rw [f]; decide)]
/-- the keys, but this one, that fall on its cell in row j -/
def oth (s : Int) (key : ByteArray) (j : Nat) (c : Int) (b : ByteArray) : Bool := sameCell s key j c b && !sameKey key b
theorem told_bnd {s r v t c lo hi : Int} {ex full : Bool} {m n : Nat} {B : List S56} {rows : List (List Int)} {l : List ByteArray} {W : List (ByteArray × Int)} (hF : Fed s r v t B rows) (h : Bnd s r c m n l B rows W) (key : ByteArray) (hlo : lo + tot (sameKey key) W = (cnt key l : Int))
    (hh : (hi = lo ∧ ex = true ∧ full = false ∧ tot (sameKey key) W = 0) ∨ (hi = lo + getL (hrow s 1) 255 key rows ∧ ex = (getL (hrow s 1) 255 key rows == 0) ∧ full = !(decide (getL (hrow s 1) 255 key rows < 255)))) :
    lo ≤ cnt key l ∧ lo ≤ hi ∧ (full = false → (cnt key l : Int) ≤ hi ∧ (ex = true → lo = cnt key l ∧ hi = cnt key l) ∧ ∀ i, i < m → hi ≤ (cnt key l : Int) + (l.countP (oth (hrow s 1) key i c) : Int)) := by
  have hw := tot_nn (sameKey key) W h.nn
  have hg := getL_range (hrow s 1) 255 key rows hF.lt
  rcases hh with ⟨e1, e2, e3, e4⟩ | ⟨e1, e2, e3⟩
  · exact ⟨by omega, by omega, fun _ => ⟨by omega, fun _ => ⟨by omega, by omega⟩, fun i _ => by omega⟩⟩
  · refine ⟨by omega, by omega, fun hf => ?_⟩
    rw [hf] at e3
    have hlt : getL (hrow s 1) 255 key rows < 255 := by
      by_cases g : getL (hrow s 1) 255 key rows < 255
      · exact g
      · rw [decide_eq_false g] at e3; cases e3
    obtain ⟨d1, d2, d3⟩ := downTo_bound (valAt (hrow s 1) key rows) rows.length 0 255
    change getL (hrow s 1) 255 key rows ≤ 255 at d1
    have hcell : ∀ i, i < rows.length → tot (sameKey key) W ≤ tot (sameCell (hrow s 1) key i c) W := fun i _ => tot_le _ _ (fun b hb => by
      have := of_decide_eq_true hb
      rw [this]
      exact decide_eq_true rfl) W h.nn
    have hlow : tot (sameKey key) W ≤ getL (hrow s 1) 255 key rows := by
      rcases d3 with d3 | ⟨i, i1, i2, d3⟩
      · change getL (hrow s 1) 255 key rows = 255 at d3; omega
      · change getL (hrow s 1) 255 key rows = _ at d3
        have := hcell i (by omega)
        rw [h.val i (by omega)] at d3
        have hm := mn_le (tot (sameCell (hrow s 1) key i c) W) 255
        omega
    refine ⟨by omega, fun hex => ?_, fun i hi2 => ?_⟩
    · rw [hex] at e2
      have : getL (hrow s 1) 255 key rows = 0 := eq_of_beq e2.symm
      omega
    · have hir : i < rows.length := by rw [h.len]; exact hi2
      have a1 := d2 i (by omega) (by omega)
      change getL (hrow s 1) 255 key rows ≤ _ at a1
      rw [h.val i hir] at a1
      have hm := (mn_le (tot (sameCell (hrow s 1) key i c) W) 255).1
      have sp := tot_split (sameCell (hrow s 1) key i c) (sameKey key) W
      have s1 : tot (fun b => sameCell (hrow s 1) key i c b && sameKey key b) W ≤ tot (sameKey key) W := tot_le _ _ (fun b hb => (Bool.and_eq_true_iff.1 hb).2) W h.nn
      have s2 := h.sum (oth (hrow s 1) key i c)
      have s3 : 0 ≤ tot (oth (hrow s 1) key i c) (prB B) := tot_nn _ _ (fun y hy => by
        have main : ∀ B' : List S56, (∀ b ∈ B', bOk r t b) → ∀ y ∈ prB B', 0 ≤ y.2 := by
          intro B'
          induction B' with
          | nil => intro _ y hy; cases hy
          | cons b u ih =>
            intro hb y hy
            rcases List.mem_append.1 hy with hy | hy
            · obtain ⟨e, he, rfl⟩ := List.mem_map.1 hy
              have := ((hb b (List.mem_cons_self ..)).2.2.1 e he).1
              show 0 ≤ e.f1
              omega
            · exact ih (fun z hz => hb z (List.mem_cons_of_mem _ hz)) y hy
        exact main B hF.bs y hy)
      have s4 : tot (fun b => sameCell (hrow s 1) key i c b && !sameKey key b) W = tot (oth (hrow s 1) key i c) W := rfl
      omega
theorem countP_take (p : ByteArray → Bool) (l : List ByteArray) (i : Nat) (h : i < l.length) : ((l.take (i + 1)).countP p : Int) = ((l.take i).countP p : Int) + (if p (rdOf ByteArray.empty l (i : Int)) = true then 1 else 0) := by
  rw [(takeK l i h).1, countP_snoc]
theorem bb_l1 {s b r v n c hi lo : Int} {full : Bool} {B : List S56} {rows : List (List Int)} {l : List ByteArray} {key : ByteArray} (vv aa bb cc : Int) (hc : c ≤ 256) (hl : l.length ≤ 300) (hk : ∀ x ∈ l, x.size ≤ 100) (hkey : key.size ≤ 100) (i : Nat) (hi7 : i < 7)
    (next : Evt (fun k => rillmeterlaw15_ElasticBounds.l0 k l key hi full (cnt key l : Int) ((i + 1 : Nat) : Int) aa bb r cc n c s r v B (hrow s 1) 255 rows) true)
    (ok : full = false → hi ≤ (cnt key l : Int) + (l.countP (oth (hrow s 1) key i c) : Int)) : ∀ (d m : Nat), m + d = l.length →
      Evt (fun k => rillmeterlaw15_ElasticBounds.l1 k l key hi full (cnt key l : Int) (i : Int) ((l.take m).countP (oth (hrow s 1) key i c) : Int) l (l.length : Int) (m : Int) aa bb r cc n c s r v B (hrow s 1) 255 rows) true := by
  have hH := hrow_range s 1
  intro d
  induction d with
  | zero =>
    intro m hm
    have hcl := cnt_le key l
    have hol : l.countP (oth (hrow s 1) key i c) ≤ l.length := List.countP_le_length
    refine Evt.step next (fun k => ?_)
    simp only [rillmeterlaw15_ElasticBounds.l1]
    rw [if_neg (by omega), List.take_of_length_le (by omega), i64_in ((i : Int) + 1) (by omega) (by omega), show (i : Int) + 1 = ((i + 1 : Nat) : Int) by omega]
    cases hf : full with
    | true => rw [if_pos rfl]
    | false => rw [if_neg (by decide), i64_in _ (by omega) (by omega), if_neg (by have := ok hf; omega)]
  | succ d ih =>
    intro m hm
    obtain ⟨e, hmem⟩ := takeK l m (by omega)
    have hx := hk _ hmem
    have hol : (l.take m).countP (oth (hrow s 1) key i c) ≤ (l.take m).length := List.countP_le_length
    rw [List.length_take] at hol
    obtain ⟨m1, e1⟩ := ih (m + 1) (by omega)
    rw [countP_take _ l m (by omega)] at e1
    refine ⟨m1 + 601, fun k hk2 => ?_⟩
    obtain ⟨k, rfl⟩ : ∃ z, k = z + 1 := ⟨k - 1, by omega⟩
    have e1 := e1 k (by omega)
    simp only at e1
    simp only [rillmeterlaw15_ElasticBounds.l1]
    rw [if_pos (by omega), if_pos (by omega), if_pos (by omega), i64_in ((m : Int) + 1) (by omega) (by omega), show (m : Int) + 1 = ((m + 1 : Nat) : Int) by omega]
    by_cases g : rdOf ByteArray.empty l (m : Int) = key
    · rw [if_pos (tl_inj.2 g)]
      rw [if_neg (by unfold oth sameKey; rw [decide_eq_true g]; simp), Int.add_zero] at e1
      exact e1
    · rw [if_neg (fun q => g (tl_inj.1 q)), rcol_spec k (hrow s 1) _ i c hH.1 (by omega) hc (by omega) (by omega), Option.bind_some, rcol_spec k (hrow s 1) key i c hH.1 (by omega) hc (by omega) (by omega), Option.bind_some]
      by_cases g2 : hcell (hrow (hrow s 1) i) (rdOf ByteArray.empty l (m : Int)) c = hcell (hrow (hrow s 1) i) key c
      · rw [if_pos g2, i64_in _ (by omega) (by omega)]
        rw [if_pos (by unfold oth sameKey sameCell; rw [decide_eq_false g, decide_eq_true g2]; rfl)] at e1
        exact e1
      · rw [if_neg g2]
        rw [if_neg (by unfold oth sameKey sameCell; rw [decide_eq_false g2]; simp), Int.add_zero] at e1
        exact e1
theorem bb_l0 {s b r v n c hi lo : Int} {full : Bool} {B : List S56} {rows : List (List Int)} {l : List ByteArray} {key : ByteArray} (aa bb cc : Int) (hn : 1 ≤ n ∧ n ≤ 7) (hc : c ≤ 256) (hl : l.length ≤ 300) (hk : ∀ x ∈ l, x.size ≤ 100) (hkey : key.size ≤ 100)
    (ok : full = false → ∀ i, i < n.toNat → hi ≤ (cnt key l : Int) + (l.countP (oth (hrow s 1) key i c) : Int)) : ∀ (d i : Nat), i + d = n.toNat →
      Evt (fun k => rillmeterlaw15_ElasticBounds.l0 k l key hi full (cnt key l : Int) (i : Int) aa bb r cc n c s r v B (hrow s 1) 255 rows) true := by
  intro d
  induction d with
  | zero =>
    intro i hi
    obtain ⟨m0, e0⟩ := awake15_spec
    refine ⟨m0 + 1, fun k hk2 => ?_⟩
    obtain ⟨k, rfl⟩ : ∃ z, k = z + 1 := ⟨k - 1, by omega⟩
    have e0 := e0 k (by omega)
    simp only at e0
    simp only [rillmeterlaw15_ElasticBounds.l0]
    rw [if_neg (by omega), e0]
    rfl
  | succ d ih =>
    intro i hi2
    have h1 := bb_l1 (s := s) (b := aa) (r := r) (v := v) (n := n) (c := c) (hi := hi) (lo := lo) (full := full) (B := B) (rows := rows) (l := l) (key := key) aa aa bb cc hc hl hk hkey i (by omega) (ih (i + 1) (by omega)) (fun hf => ok hf i (by omega)) l.length 0 (by omega)
    refine Evt.step h1 (fun k => ?_)
    simp only [rillmeterlaw15_ElasticBounds.l0]
    rw [if_pos (by omega)]
    rfl
theorem ElasticBounds : rillmeterlaw15_ElasticBounds.Pure := by
  intro s b r v n c l key hs _ _ _ _ _ _ _
  have hb : 0 ≤ s ∧ s < 18446744073709551616 := by
    simp only [Lit.wf] at hs
    have h1 := Bool.and_eq_true_iff.1 hs
    have h2 := of_decide_eq_true h1.1
    have h3 := of_decide_eq_true h1.2
    have e1 : IntKind.u64.min = 0 := by decide
    have e2 : IntKind.u64.max = 18446744073709551615 := by decide
    omega
  obtain ⟨m0, e0⟩ := awake15_spec
  have hend : ∀ k, m0 ≤ k → ∀ x1 x2 x3 x4 x5 x6 y1 y2 y3 y4 y5 y6 y7, rillmeterlaw15_ElasticBounds.j0 (k + 1) l key true x1 x2 x3 x4 x5 x6 y1 y2 y3 y4 y5 y6 y7 = some true := by
    intro k hk x1 x2 x3 x4 x5 x6 y1 y2 y3 y4 y5 y6 y7
    have e0 := e0 k hk
    simp only at e0
    simp only [rillmeterlaw15_ElasticBounds.j0]
    rw [if_pos trivial, e0]
    rfl
  by_cases g : newOk b r v n c ∧ shortK l
  · obtain ⟨g, hl⟩ := g
    obtain ⟨B, rows, W, ⟨m1, e1⟩, q1, q2, q3⟩ := fedb_ok hb.1 hb.2 g l hl
    obtain ⟨g1, g2, g3, g4, g5, g6, g7, g8, g9, g10⟩ := g
    have hl0 : l.length ≤ 300 := by have := hl.1; omega
    by_cases ck : (key.size : Int) > 100
    · refine ⟨m0 + m1 + 1, ?_⟩
      have e1 := e1 (m0 + m1 + 1) (by omega)
      simp only at e1
      simp only [rillmeterlaw15_ElasticBounds.f]
      rw [e1, Option.bind_some]
      simp only
      rw [if_pos trivial, decide_eq_true ck]
      exact hend _ (by omega) _ _ _ _ _ _ _ _ _ _ _ _ _
    · have hkey : key.size ≤ 100 := by omega
      obtain ⟨lo, hi, ex, full, hget, hlo, hh⟩ := get_bnd q2 q1 q3 key hkey
      obtain ⟨t1, t2, t3⟩ := told_bnd q1 q3 key hlo hh
      obtain ⟨m2, e2⟩ := many_spec l (by omega) key
      obtain ⟨m3, e3⟩ := bb_l0 (s := s) (b := b) (r := r) (v := v) (n := n) (c := c) (hi := hi) (lo := lo) (full := full) (B := B) (rows := rows) (l := l) (key := key) s b v ⟨g7, g8⟩ g10 hl0 hl.2 hkey (fun hf => (t3 hf).2.2) n.toNat 0 (by omega)
      refine ⟨m1 + m2 + m3 + 2203, ?_⟩
      have e1 := e1 (m1 + m2 + m3 + 2203) (by omega)
      have e2 := e2 (m1 + m2 + m3 + 2202) (by omega)
      have e3 := e3 (m1 + m2 + m3 + 2201) (by omega)
      simp only at e1 e2 e3
      simp only [rillmeterlaw15_ElasticBounds.f]
      rw [e1, Option.bind_some]
      simp only
      rw [if_pos trivial, decide_eq_false ck]
      have fin : rillmeterlaw15_ElasticBounds.j1 (m1 + m2 + m3 + 2202) l key hi full (cnt key l : Int) false s b r v n c s r v B (hrow s 1) 255 rows = some true := by
        simp only [rillmeterlaw15_ElasticBounds.j1]
        rw [if_neg (by decide)]
        exact e3
      simp only [rillmeterlaw15_ElasticBounds.j0]
      rw [if_neg (by decide), hget _ (by omega), Option.bind_some, e2, Option.bind_some]
      simp only
      rw [if_neg (by omega), if_neg (by omega)]
      cases hf : full with
      | true =>
        rw [hf] at fin
        rw [if_pos rfl]
        cases ex with
        | true => rw [if_pos rfl]; exact fin
        | false => rw [if_neg (by decide)]; exact fin
      | false =>
        rw [hf] at fin
        obtain ⟨t4, t5, t6⟩ := t3 hf
        rw [if_neg (by decide), if_neg (by omega)]
        cases hx : ex with
        | true =>
          obtain ⟨t7, t8⟩ := t5 hx
          rw [if_pos rfl, if_pos t7, show (hi != (cnt key l : Int)) = false from by rw [t8]; exact bne_self_eq_false _]
          exact fin
        | false => rw [if_neg (by decide)]; exact fin
  · obtain ⟨R, ⟨m1, e1⟩, hR⟩ := fed_no hb.1 hb.2 l g
    refine ⟨m0 + m1 + 1, ?_⟩
    have e1 := e1 (m0 + m1 + 1) (by omega)
    simp only at e1
    simp only [rillmeterlaw15_ElasticBounds.f]
    rw [e1, Option.bind_some, hR, if_neg (by decide)]
    exact hend _ (by omega) _ _ _ _ _ _ _ _ _ _ _ _ _

end Go.Proofs.Ytljmjjeghebdpaa.Pure
