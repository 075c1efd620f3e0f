/- Each flow that is listed came, at least as often as it is told. No condition beyond the kinds of the arguments. -/
import Derived.Test.YtljmjjeghebdpaaPElasticSeeny
import Derived.Test.YtljmjjeghebdpaaBits
import Derived.Test.YtljmjjeghebdpaaHash
import Derived.Test.YtljmjjeghebdpaaLeast
import Derived.Test.YtljmjjeghebdpaaLeastVal
import Derived.Test.YtljmjjeghebdpaaEvs
namespace Go.Proofs.Ytljmjjeghebdpaa.Pure
open Go.RowKit Go.Proofs.Ytljmjjeghebdpaa.PElasticSeen Go.Proofs.YtljmjjeghebdpaaW.PrintWords Go.Proofs.YtljmjjeghebdpaaW.PrintLast Go.Proofs.Ytljmjjeghebdpaa.Bits Go.Proofs.Ytljmjjeghebdpaa.Hash Go.Proofs.Ytljmjjeghebdpaa.Least Go.Proofs.Ytljmjjeghebdpaa.LeastVal Go.Proofs.Ytljmjjeghebdpaa.Evs
set_option linter.unusedSimpArgs false
set_option linter.unusedVariables false

theorem min_l0 (l : List Int) (hl : l.length ≤ 256) : ∀ (d k i : Nat) (m : Int), l.length - i = d → i ≤ l.length → d < k →
    ∃ t, slices_Min_int_int.l0 k l m i = some t ∧ ∀ c, c ≤ t ↔ (c ≤ m ∧ ∀ j, i ≤ j → j < l.length → c ≤ l.getD j 0) := by
  intro d
  induction d with
  | zero =>
    intro k i m h0 hi hk
    obtain ⟨k, rfl⟩ : ∃ m, k = m + 1 := ⟨k - 1, by omega⟩
    simp only [slices_Min_int_int.l0]
    rw [if_neg (by omega)]
    exact ⟨m, rfl, fun c => ⟨fun h => ⟨h, fun j a b => by omega⟩, fun h => h.1⟩⟩
  | succ d ih =>
    intro k i m h0 hi hk
    obtain ⟨k, rfl⟩ : ∃ m, k = m + 1 := ⟨k - 1, by omega⟩
    have g : i < l.length := by omega
    have e : rd l (i : Int) = l.getD i 0 := rfl
    have hm := mn_le m (l.getD i 0)
    obtain ⟨t, ht, ht2⟩ := ih k (i + 1) (mn m (l.getD i 0)) (by omega) (by omega) (by omega)
    simp only [slices_Min_int_int.l0]
    rw [if_pos (by omega), if_pos (by omega), e, i64_in ((i : Int) + 1) (by omega) (by omega), show (i : Int) + 1 = ((i + 1 : Nat) : Int) by omega]
    refine ⟨t, ht, fun c => (ht2 c).trans ⟨fun h => ⟨by have := h.1; omega, fun j a b => ?_⟩, fun h => ⟨?_, fun j a b => h.2 j (by omega) b⟩⟩⟩
    · by_cases e' : j = i
      · subst e'; have := h.1; omega
      · exact h.2 j (by omega) b
    · have := h.1; have := h.2 i (Nat.le_refl _) g; omega

theorem min_spec (k : Nat) (l : List Int) (h1 : 1 ≤ l.length) (hl : l.length ≤ 256) (hk : 258 ≤ k) : ∃ t, slices_Min_int_int.f k l = some t ∧ ∀ c, c ≤ t ↔ ∀ j, j < l.length → c ≤ l.getD j 0 := by
  obtain ⟨t, ht, ht2⟩ := min_l0 l hl (l.length - 1) k 1 (l.getD 0 0) (by omega) (by omega) (by omega)
  unfold slices_Min_int_int.f
  rw [if_pos (by omega)]
  refine ⟨t, ht, fun c => (ht2 c).trans ⟨fun h j b => ?_, fun h => ⟨h 0 (by omega), fun j _ b => h j b⟩⟩⟩
  by_cases e : j = 0
  · subst e; exact h.1
  · exact h.2 j (by omega) b

theorem mx_ge (a b : Int) : a ≤ mx a b ∧ b ≤ mx a b ∧ (mx a b = a ∨ mx a b = b) := by
  unfold mx
  split <;> omega

theorem max_l0 (l : List Int) (hl : l.length ≤ 256) : ∀ (d k i : Nat) (m : Int), l.length - i = d → i ≤ l.length → d < k →
    ∃ t, slices_Max_int_int.l0 k l m i = some t ∧ ∀ c, t ≤ c ↔ (m ≤ c ∧ ∀ j, i ≤ j → j < l.length → l.getD j 0 ≤ c) := by
  intro d
  induction d with
  | zero =>
    intro k i m h0 hi hk
    obtain ⟨k, rfl⟩ : ∃ m, k = m + 1 := ⟨k - 1, by omega⟩
    simp only [slices_Max_int_int.l0]
    rw [if_neg (by omega)]
    exact ⟨m, rfl, fun c => ⟨fun h => ⟨h, fun j a b => by omega⟩, fun h => h.1⟩⟩
  | succ d ih =>
    intro k i m h0 hi hk
    obtain ⟨k, rfl⟩ : ∃ m, k = m + 1 := ⟨k - 1, by omega⟩
    have g : i < l.length := by omega
    have e : rd l (i : Int) = l.getD i 0 := rfl
    have hm := mx_ge m (l.getD i 0)
    obtain ⟨t, ht, ht2⟩ := ih k (i + 1) (mx m (l.getD i 0)) (by omega) (by omega) (by omega)
    simp only [slices_Max_int_int.l0]
    rw [if_pos (by omega), if_pos (by omega), e, i64_in ((i : Int) + 1) (by omega) (by omega), show (i : Int) + 1 = ((i + 1 : Nat) : Int) by omega]
    refine ⟨t, ht, fun c => (ht2 c).trans ⟨fun h => ⟨by have := h.1; omega, fun j a b => ?_⟩, fun h => ⟨?_, fun j a b => h.2 j (by omega) b⟩⟩⟩
    · by_cases e' : j = i
      · subst e'; have := h.1; omega
      · exact h.2 j (by omega) b
    · have := h.1; have := h.2 i (Nat.le_refl _) g; omega

theorem max_spec (k : Nat) (l : List Int) (h1 : 1 ≤ l.length) (hl : l.length ≤ 256) (hk : 258 ≤ k) : ∃ t, slices_Max_int_int.f k l = some t ∧ ∀ c, t ≤ c ↔ ∀ j, j < l.length → l.getD j 0 ≤ c := by
  obtain ⟨t, ht, ht2⟩ := max_l0 l hl (l.length - 1) k 1 (l.getD 0 0) (by omega) (by omega) (by omega)
  unfold slices_Max_int_int.f
  rw [if_pos (by omega)]
  refine ⟨t, ht, fun c => (ht2 c).trans ⟨fun h j b => ?_, fun h => ⟨h 0 (by omega), fun j _ b => h j b⟩⟩⟩
  by_cases e : j = 0
  · subst e; exact h.1
  · exact h.2 j (by omega) b

def rowB (most : Int) (rows : List (List Int)) (r : List Int) : Bool := decide (rowOk most (colsOf rows) r)

theorem right_l0 (s most : Int) (rows : List (List Int)) (h1 : 1 ≤ rows.length) (h7 : rows.length ≤ 7) : ∀ (d k i : Nat), rows.length - i = d → i ≤ rows.length → d + 260 ≤ k →
    least_Right.l0 k rows rows.length i s most rows = some ((rows.drop i).all (rowB most rows)) := by
  intro d
  induction d with
  | zero =>
    intro k i h0 hi hk
    obtain ⟨k, rfl⟩ : ∃ m, k = m + 1 := ⟨k - 1, by omega⟩
    simp only [least_Right.l0]
    rw [if_neg (by omega), List.drop_of_length_le (by omega)]
    rfl
  | succ d ih =>
    intro k i h0 hi hk
    obtain ⟨k, rfl⟩ : ∃ m, k = m + 1 := ⟨k - 1, by omega⟩
    have g : i < rows.length := by omega
    have hb := ih k (i + 1) (by omega) (by omega) (by omega)
    have e : rd_L1 rows (i : Int) = rows[i] := by
      show rows.getD i [] = rows[i]
      simp [List.getD_eq_getElem?_getD, g]
    have e0 : ((rd_L1 rows 0).length : Int) = (colsOf rows : Int) := rfl
    rw [List.drop_eq_getElem_cons g, List.all_cons]
    simp only [least_Right.l0]
    rw [if_pos (by omega), if_pos (by omega), if_pos (by omega), e, e0, i64_in ((i : Int) + 1) (by omega) (by omega), show (i : Int) + 1 = ((i + 1 : Nat) : Int) by omega]
    generalize rows[i] = r
    by_cases c1 : (r.length : Int) < 1
    · rw [if_pos c1, rowB, decide_eq_false (fun o => by have := o.1; omega)]; rfl
    · rw [if_neg c1]
      by_cases c2 : (r.length : Int) > 256
      · rw [if_pos c2, rowB, decide_eq_false (fun o => by have := o.2.1; omega)]; rfl
      · rw [if_neg c2, if_pos (by omega)]
        by_cases c3 : (r.length : Int) = (colsOf rows : Int)
        · rw [if_pos c3]
          obtain ⟨t, ht, ht2⟩ := min_spec k r (by omega) (by omega) (by omega)
          obtain ⟨u, hu, hu2⟩ := max_spec k r (by omega) (by omega) (by omega)
          rw [ht]; simp only [Option.bind_some]
          by_cases c4 : t < 0
          · rw [if_pos c4, rowB, decide_eq_false (fun o => by have := (ht2 0).2 (fun j hj => (o.2.2.2 _ (getD_num r j hj)).1); omega)]; rfl
          · rw [if_neg c4, hu]; simp only [Option.bind_some]
            by_cases c5 : u > most
            · rw [if_pos c5, rowB, decide_eq_false (fun o => by have := (hu2 most).2 (fun j hj => (o.2.2.2 _ (getD_num r j hj)).2); omega)]; rfl
            · rw [if_neg c5, rowB, decide_eq_true, hb]; rfl
              refine ⟨by omega, by omega, by omega, fun x hx => ?_⟩
              obtain ⟨n, hn, hn2⟩ := List.mem_iff_getElem.1 hx
              have A := (ht2 0).1 (by omega) n hn
              have B := (hu2 most).1 (by omega) n hn
              have E : r.getD n 0 = x := by simp [List.getD_eq_getElem?_getD, hn, hn2]
              omega
        · rw [if_neg c3, rowB, decide_eq_false (fun o => by have := o.2.2.1; omega)]; rfl

theorem all_rows (most : Int) (rows : List (List Int)) (h1 : 1 ≤ most) (h2 : most ≤ 1099511627776) (h3 : 1 ≤ rows.length) (h4 : rows.length ≤ 7) : rows.all (rowB most rows) = decide (rightL most rows) := by
  rw [Bool.eq_iff_iff, List.all_eq_true, decide_eq_true_iff]
  unfold rowB rightL
  exact ⟨fun h => ⟨h1, h2, h3, h4, fun r hr => of_decide_eq_true (h r hr)⟩, fun h r hr => decide_eq_true (h.2.2.2.2 r hr)⟩

theorem right_spec (k : Nat) (s most : Int) (rows : List (List Int)) (hk : 300 ≤ k) : least_Right.f k s most rows = some (decide (rightL most rows)) := by
  obtain ⟨k, rfl⟩ : ∃ m, k = m + 1 := ⟨k - 1, by omega⟩
  unfold least_Right.f
  by_cases c1 : most < 1
  · rw [if_pos c1, decide_eq_false (fun o => by have := o.1; omega)]; rfl
  · rw [if_neg c1]
    by_cases c2 : most > 1099511627776
    · rw [if_pos c2, decide_eq_false (fun o => by have := o.2.1; omega)]; rfl
    · rw [if_neg c2]
      by_cases c3 : (rows.length : Int) < 1
      · rw [if_pos c3, decide_eq_false (fun o => by have := o.2.2.1; omega)]; rfl
      · rw [if_neg c3]
        by_cases c4 : (rows.length : Int) > 7
        · rw [decide_eq_true c4, decide_eq_false (fun o => by have := o.2.2.2.1; omega)]; rfl
        · rw [decide_eq_false c4]
          simp only [least_Right.j0]
          rw [if_neg (by decide)]
          have h := right_l0 s most rows (by omega) (by omega) rows.length k 0 (by omega) (by omega) (by omega)
          rw [List.drop_zero, all_rows most rows (by omega) (by omega) (by omega) (by omega)] at h
          exact h

theorem of_spec (a : Int) (h0 : 0 ≤ a) (h1 : a < 18446744073709551616) : field_Of.f a = some (a % 2305843009213693951) := by
  unfold field_Of.f
  rw [and_p a h0 h1, u64_in _ (by omega) (by omega)]
  split
  · rw [u64_in _ (by omega) (by omega)]
    exact congrArg some (by omega)
  · exact congrArg some (by omega)

theorem add_spec (a b : Int) (h0 : 0 ≤ a) (h1 : a < 18446744073709551616) (g0 : 0 ≤ b) (g1 : b < 18446744073709551616) :
    field_Add.f a b = some ((a + b) % 2305843009213693951) := by
  unfold field_Add.f
  rw [of_spec a h0 h1, of_spec b g0 g1]
  simp only [Option.bind_some]
  rw [u64_in _ (by omega) (by omega), of_spec _ (by omega) (by omega)]
  simp only [Option.bind_some]
  exact congrArg some (by omega)

theorem mul64_spec (a b : Int) (h0 : 0 ≤ a) (h1 : a < 18446744073709551616) (g0 : 0 ≤ b) (g1 : b < 18446744073709551616) :
    bits_Mul64.f a b = some (a * b / 18446744073709551616, a * b % 18446744073709551616) := by
  unfold bits_Mul64.f
  have hh := halves a b
  obtain ⟨p0, p1⟩ := mul_bd (a := a / 4294967296) (b := b / 4294967296) (by omega) (by omega) (by omega) (by omega)
  obtain ⟨q0, q1⟩ := mul_bd (a := a / 4294967296) (b := b % 4294967296) (by omega) (by omega) (by omega) (by omega)
  obtain ⟨r0, r1⟩ := mul_bd (a := a % 4294967296) (b := b / 4294967296) (by omega) (by omega) (by omega) (by omega)
  obtain ⟨s0, s1⟩ := mul_bd (a := a % 4294967296) (b := b % 4294967296) (by omega) (by omega) (by omega) (by omega)
  rw [and_32 a h0 h1, and_32 b g0 g1]
  generalize a / 4294967296 * (b / 4294967296) = p at *
  generalize a / 4294967296 * (b % 4294967296) = q at *
  generalize a % 4294967296 * (b / 4294967296) = r at *
  generalize a % 4294967296 * (b % 4294967296) = s at *
  generalize a * b = m at *
  clear h0 h1 g0 g1
  rw [u64_in p (by omega) (by omega), u64_in q (by omega) (by omega), u64_in r (by omega) (by omega), u64_in s (by omega) (by omega)]
  rw [u64_in (q + s / 4294967296) (by omega) (by omega)]
  rw [and_32 _ (by omega) (by omega)]
  rw [u64_in (p + _) (by omega) (by omega), u64_in (_ + r) (by omega) (by omega), wrap_u64 m]
  rw [u64_in _ (by omega) (by omega)]
  exact congrArg some (Prod.ext (by show _ = _; omega) rfl)

theorem mul_spec (a b : Int) (h0 : 0 ≤ a) (h1 : a < 18446744073709551616) (g0 : 0 ≤ b) (g1 : b < 18446744073709551616) :
    field_Mul.f a b = some (a * b % 2305843009213693951) := by
  unfold field_Mul.f
  rw [of_spec a h0 h1, of_spec b g0 g1, Int.mul_emod]
  simp only [Option.bind_some]
  have x0 : 0 ≤ a % 2305843009213693951 := by omega
  have x1 : a % 2305843009213693951 ≤ 2305843009213693950 := by omega
  have y0 : 0 ≤ b % 2305843009213693951 := by omega
  have y1 : b % 2305843009213693951 ≤ 2305843009213693950 := by omega
  generalize a % 2305843009213693951 = x at *
  generalize b % 2305843009213693951 = y at *
  rw [mul64_spec x y x0 (by omega) y0 (by omega)]
  simp only [Option.bind_some]
  have hm : 0 ≤ x * y ∧ x * y ≤ 2305843009213693950 * 2305843009213693950 := ⟨Int.mul_nonneg x0 y0, Int.mul_le_mul x1 y1 y0 (by omega)⟩
  generalize x * y = m at *
  obtain ⟨m0, m1⟩ := hm
  rw [and_p _ (by omega) (by omega)]
  rw [u64_in (_ * 8) (by omega) (by omega)]
  rw [or_3 _ _ (by omega) (by omega) (by omega) (by omega) (by omega)]
  rw [u64_in _ (by omega) (by omega), of_spec _ (by omega) (by omega)]
  simp only [Option.bind_some]
  exact congrArg some (by omega)

theorem row_spec (seed i : Int) (h0 : 0 ≤ seed) (h1 : seed < 18446744073709551616) (hi : i < 9223372036854775808) : hash_Row.f seed i = some (hrow seed i) := by
  unfold hash_Row.f hrow hmid
  have e : mx i 0 = if i < 0 then 0 else i := rfl
  rw [e, add_spec seed 3 h0 h1 (by omega) (by omega)]
  generalize hj : (if i < 0 then (0 : Int) else i) = j
  have hj0 : 0 ≤ j ∧ j < 9223372036854775808 := by rw [← hj]; split <;> omega
  simp only [Option.bind_some]
  rw [u64_in j (by omega) (by omega), add_spec j 2 (by omega) (by omega) (by omega) (by omega)]
  simp only [Option.bind_some]
  rw [mul_spec _ _ (by omega) (by omega) (by omega) (by omega)]
  simp only [Option.bind_some]
  rw [add_spec _ 5 (by omega) (by omega) (by omega) (by omega)]
  simp only [Option.bind_some]
  rw [mul_spec _ _ (by omega) (by omega) (by omega) (by omega)]
  rfl

theorem sq_half (x n : Int) (h0 : 0 ≤ n) : (x * x % 2305843009213693951) ^ (n / 2).toNat % 2305843009213693951 = x ^ (2 * (n.toNat / 2)) % 2305843009213693951 := by
  rw [pow_emod, Int.pow_mul, show (n / 2).toNat = n.toNat / 2 by omega, show x ^ 2 = x * x by grind]

theorem pow_l0 (d : Nat) : ∀ (k : Nat) (x n out : Int), 0 ≤ x → x < 2305843009213693951 → 0 ≤ n → n < 18446744073709551616 → n < 2 ^ d → 0 ≤ out → out < 2305843009213693951 → d < k →
    field_Pow.l0 k x n out = some (out * x ^ n.toNat % 2305843009213693951) := by
  induction d with
  | zero =>
    intro k x n out x0 x1 n0 n1 nd o0 o1 hk
    obtain ⟨k, rfl⟩ : ∃ m, k = m + 1 := ⟨k - 1, by omega⟩
    have hn : n = 0 := by simp at nd; omega
    simp only [field_Pow.l0]
    rw [if_neg (by omega), hn]
    exact congrArg some (by simp; omega)
  | succ d ih =>
    intro k x n out x0 x1 n0 n1 nd o0 o1 hk
    obtain ⟨k, rfl⟩ : ∃ m, k = m + 1 := ⟨k - 1, by omega⟩
    simp only [field_Pow.l0]
    by_cases hp : n > 0
    · rw [if_pos hp, and_1 n n0 n1, mul_spec x x x0 (by omega) x0 (by omega), mul_spec out x o0 (by omega) x0 (by omega)]
      simp only [Option.bind_some]
      have hd : n / 2 < 2 ^ d := by rw [Int.pow_succ] at nd; omega
      split
      · rw [ih k _ (n / 2) _ (by omega) (by omega) (by omega) (by omega) hd (by omega) (by omega) (by omega)]
        have e : n.toNat = 2 * (n.toNat / 2) + 1 := by omega
        refine congrArg some ?_
        rw [Int.mul_emod, sq_half x n n0, ← Int.mul_emod]
        rw [Int.mul_emod, Int.emod_emod, ← Int.mul_emod]
        conv => rhs; rw [e, Int.pow_succ, Int.mul_comm _ x, ← Int.mul_assoc]
      · rw [ih k _ (n / 2) _ (by omega) (by omega) (by omega) (by omega) hd o0 o1 (by omega)]
        have e : n.toNat = 2 * (n.toNat / 2) := by omega
        refine congrArg some ?_
        rw [Int.mul_emod, sq_half x n n0, ← Int.mul_emod]
        conv => rhs; rw [e]
    · have hn : n = 0 := by omega
      rw [if_neg hp, hn]
      exact congrArg some (by simp; omega)

theorem pow_spec (k : Nat) (a n : Int) (h0 : 0 ≤ a) (h1 : a < 18446744073709551616) (g0 : 0 ≤ n) (g1 : n < 18446744073709551616) (hk : 65 ≤ k) :
    field_Pow.f k a n = some (a ^ n.toNat % 2305843009213693951) := by
  unfold field_Pow.f
  rw [of_spec a h0 h1]
  simp only [Option.bind_some]
  rw [pow_l0 64 k _ n 1 (by omega) (by omega) g0 g1 (by omega) (by omega) (by omega) (by omega), Int.one_mul, pow_emod]

theorem sum_step (s : ByteArray) (a n i x j j' : Int) (k : Nat) (hj : j' = j + 1) (hs : s.size ≤ 140737488351232) (i0 : 0 ≤ i) (i1 : i ≤ s.size) (j0 : 0 ≤ j) (j1 : j < 4) (x0 : 0 ≤ x) (x1 : x < 72057594037927936) :
    hash_Sum.l1 (k + 1) s a n i x j = hash_Sum.l1 k s a n i (x * 256 + bt s (i + j)) j' := by
  subst hj
  have hb := bt_range s (i + j)
  conv => lhs; unfold hash_Sum.l1
  rw [if_pos j1, i64_in (i + j) (by omega) (by omega), i64_in (j + 1) (by omega) (by omega), u64_in (x * 256) (by omega) (by omega), u64_in (bt s (i + j)) (by omega) (by omega)]
  by_cases h : i + j < (s.size : Int)
  · rw [if_pos h, if_pos (by omega), or_8 (x * 256) _ (by omega) (by omega) (by omega) (by omega) (by omega)]
  · rw [if_neg h, bt_out s (i + j) (by omega), Int.add_zero]

theorem sum_word (s : ByteArray) (a n i : Int) (k : Nat) (hs : s.size ≤ 140737488351232) (i0 : 0 ≤ i) (i1 : i ≤ s.size) :
    hash_Sum.l1 (k + 4) s a n i 0 0 = hash_Sum.l1 k s a n i (wordAt s i) 4 := by
  have h0 := bt_range s i
  have h1 := bt_range s (i + 1)
  have h2 := bt_range s (i + 2)
  rw [sum_step s a n i 0 0 1 (k + 3) (by omega) hs i0 i1 (by omega) (by omega) (by omega) (by omega), Int.add_zero, Int.zero_mul, Int.zero_add,
    sum_step s a n i _ 1 2 (k + 2) (by omega) hs i0 i1 (by omega) (by omega) (by omega) (by omega),
    sum_step s a n i _ 2 3 (k + 1) (by omega) hs i0 i1 (by omega) (by omega) (by omega) (by omega),
    sum_step s a n i _ 3 4 k (by omega) hs i0 i1 (by omega) (by omega) (by omega) (by omega)]
  rfl

theorem sum_l0 (s : ByteArray) (a : Int) (hs : s.size ≤ 140737488351232) (a0 : 0 ≤ a) (a1 : a < 18446744073709551616) : ∀ (m k : Nat) (n i : Int), 0 ≤ i → (s.size : Int) ≤ i + 4 * m → i < (s.size : Int) + 4 → (0 < m → i + 4 * m < (s.size : Int) + 4) →
    0 ≤ n → n < 18446744073709551616 → 6 * m + 66 ≤ k →
    hash_Sum.l0 k s a n i = some ((roll s a m n i * a) ^ 17 % 2305843009213693951) := by
  intro m
  induction m with
  | zero =>
    intro k n i i0 i1 i2 i3 n0 n1 hk
    obtain ⟨k, rfl⟩ : ∃ m, k = m + 1 := ⟨k - 1, by omega⟩
    unfold hash_Sum.l0
    rw [if_neg (by omega), mul_spec n a n0 n1 a0 a1]
    simp only [Option.bind_some]
    rw [pow_spec k _ 17 (by omega) (by omega) (by omega) (by omega) (by omega), show (17 : Int).toNat = 17 from rfl, pow_emod]
    rfl
  | succ m ih =>
    intro k n i i0 i1 i2 i3 n0 n1 hk
    obtain ⟨k, rfl⟩ : ∃ m, k = m + 1 := ⟨k - 1, by omega⟩
    obtain ⟨k, rfl⟩ : ∃ m, k = m + 4 := ⟨k - 4, by omega⟩
    have hw := wordAt_range s i
    have i4 : i < (s.size : Int) := by omega
    unfold hash_Sum.l0
    rw [if_pos i4, sum_word s a n i k hs i0 (by omega)]
    obtain ⟨k, rfl⟩ : ∃ m, k = m + 1 := ⟨k - 1, by omega⟩
    unfold hash_Sum.l1
    rw [if_neg (by omega), mul_spec n a n0 n1 a0 a1, u64_in _ (by omega) (by omega)]
    simp only [Option.bind_some]
    rw [add_spec _ _ (by omega) (by omega) (by omega) (by omega), i64_in (i + 4) (by omega) (by omega)]
    simp only [Option.bind_some]
    rw [ih k _ (i + 4) (by omega) (by omega) (by omega) (by omega) (by omega) (by omega) (by omega)]
    simp only [roll]
    have e : (n * a % 2305843009213693951 + (wordAt s i + 1)) % 2305843009213693951 = (n * a + wordAt s i + 1) % 2305843009213693951 := by omega
    rw [e]

theorem sum_spec (k : Nat) (seed : Int) (s : ByteArray) (hs : s.size ≤ 140737488351232) (h0 : 0 ≤ seed) (h1 : seed < 18446744073709551616) (hk : 6 * words s + 66 ≤ k) :
    hash_Sum.f k seed s = some (hsum seed s) := by
  unfold hash_Sum.f
  rw [add_spec seed 2 h0 h1 (by omega) (by omega), u64_in _ (by omega) (by omega)]
  simp only [Option.bind_some]
  have hw : words s = (s.size + 3) / 4 := rfl
  exact sum_l0 s _ hs (by omega) (by omega) (words s) k s.size 0 (by omega) (by omega) (by omega) (by omega) (by omega) (by omega) hk

theorem cell_spec (k : Nat) (seed : Int) (key : ByteArray) (n : Int) (hs : key.size ≤ 140737488351232) (h0 : 0 ≤ seed) (h1 : seed < 18446744073709551616) (hn : n < 9223372036854775808) (hk : 6 * words key + 66 ≤ k) :
    hash_Cell.f k seed key n = some (hcell seed key n) := by
  unfold hash_Cell.f hcell
  by_cases a : n < 1
  · rw [if_pos a, if_pos a]
  · rw [if_neg a, if_neg a, sum_spec k seed key hs h0 h1 hk]
    simp only [Option.bind_some]
    have r := hsum_range seed key
    have r1 := Int.emod_nonneg (hsum seed key) (b := n) (by omega)
    have r2 := Int.emod_lt_of_pos (hsum seed key) (b := n) (by omega)
    rw [u64_in n (by omega) (by omega), if_neg (by omega), Int.tmod_eq_emod_of_nonneg r.1, i64_in _ (by omega) (by omega)]

theorem clone_nums (l : List Int) (h : l.length < 17592186044416) : slices_Clone_int_int.f l = some l := by
  unfold slices_Clone_int_int.f
  simp only [Option.bind_some, List.length_nil, List.nil_append]
  rw [if_pos (by omega)]

theorem getD_set (l : List (List Int)) (i j : Nat) (v : List Int) (h : i < l.length) : (l.set i v).getD j [] = if i = j then v else l.getD j [] := by
  by_cases e : i = j
  · subst e
    rw [if_pos rfl, List.getD_eq_getElem?_getD, List.getElem?_set_self h]
    rfl
  · rw [if_neg e, List.getD_eq_getElem?_getD, List.getElem?_set_ne e, ← List.getD_eq_getElem?_getD]

theorem clone_l0 (s most : Int) (rows : List (List Int)) (hl : rows.length ≤ 7) (hr : ∀ r ∈ rows, r.length ≤ 256) : ∀ (d k i : Nat) (cur : List (List Int)), rows.length - i = d → i ≤ rows.length → cur.length = rows.length → (∀ j, j < i → cur.getD j [] = rows.getD j []) → d < k →
    least_clone.l0 k cur rows rows.length i s most rows = some (s, most, rows) := by
  intro d
  induction d with
  | zero =>
    intro k i cur h0 hi hc hj hk
    obtain ⟨k, rfl⟩ : ∃ m, k = m + 1 := ⟨k - 1, by omega⟩
    simp only [least_clone.l0]
    rw [if_neg (by omega), ext_rows cur rows hc (fun j h => hj j (by omega))]
  | succ d ih =>
    intro k i cur h0 hi hc hj hk
    obtain ⟨k, rfl⟩ : ∃ m, k = m + 1 := ⟨k - 1, by omega⟩
    have g : i < rows.length := by omega
    have e : rd_L1 rows (i : Int) = rows.getD i [] := rfl
    have hm := hr _ (getD_row rows i g)
    simp only [least_clone.l0]
    rw [if_pos (by omega), if_pos (by omega), if_pos (by omega), e, clone_nums _ (by omega)]
    simp only [Option.bind_some]
    rw [if_pos (by omega), i64_in ((i : Int) + 1) (by omega) (by omega), show (i : Int) + 1 = ((i + 1 : Nat) : Int) by omega]
    refine ih k (i + 1) _ (by omega) (by omega) (by rw [List.length_set]; exact hc) (fun j hj2 => ?_) (by omega)
    show (cur.set i _).getD j [] = _
    rw [getD_set cur i j _ (by omega)]
    by_cases e' : i = j
    · rw [if_pos e', e']
    · rw [if_neg e']; exact hj j (by omega)

theorem clone_spec (k : Nat) (s most : Int) (rows : List (List Int)) (hl : rows.length ≤ 7) (hr : ∀ r ∈ rows, r.length ≤ 256) (hk : 10 ≤ k) : least_clone.f k s most rows = some (s, most, rows) := by
  unfold least_clone.f
  rw [if_pos (by omega), if_pos (by omega)]
  exact clone_l0 s most rows hl hr rows.length k 0 _ (by omega) (by omega) (by simp) (fun j h => by omega) (by omega)

theorem addf_l0 (s most n : Int) (key : ByteArray) (rows : List (List Int)) (hs0 : 0 ≤ s) (hs1 : s < 18446744073709551616) (h : rightL most rows) (hn : 0 ≤ n) (hn2 : n ≤ 1099511627776) (hkey : key.size ≤ 1000) : ∀ (d k i : Nat) (cur : List (List Int)), rows.length - i = d → i ≤ rows.length → cur.length = rows.length → (∀ j, j < i → cur.getD j [] = freshRow s most key n j (rows.getD j [])) → (∀ j, i ≤ j → cur.getD j [] = rows.getD j []) → d + 2000 ≤ k →
    least_Add.l0 k key n cur rows.length i s most = some (s, most, addRows s most key n rows, 0) := by
  have hw := words_le key 250 (by omega)
  intro d
  induction d with
  | zero =>
    intro k i cur h0 hi hc hj hj2 hk
    obtain ⟨k, rfl⟩ : ∃ m, k = m + 1 := ⟨k - 1, by omega⟩
    simp only [least_Add.l0]
    rw [if_neg (by omega), ext_rows cur (addRows s most key n rows) (by rw [addRows_length]; exact hc) (fun j h => by rw [hj j (by omega), addRows_get s most key n rows j (by omega)])]
  | succ d ih =>
    intro k i cur h0 hi hc hj hj2 hk
    obtain ⟨k, rfl⟩ : ∃ m, k = m + 1 := ⟨k - 1, by omega⟩
    have g : i < rows.length := by omega
    have h7 := h.2.2.2.1
    have e : rd_L1 cur (i : Int) = rows.getD i [] := hj2 i (Nat.le_refl _)
    have hr := hrow_range s i
    have ho := h.2.2.2.2 _ (getD_row rows i g)
    have hce := hcell_range (hrow s i) key (rows.getD i []).length (by have := ho.1; omega)
    have hlen := ho.2.1
    simp only [least_Add.l0]
    rw [if_pos (by omega), if_pos (by omega), row_spec s i hs0 hs1 (by omega)]
    simp only [Option.bind_some]
    rw [e, cell_spec k _ key _ (by omega) hr.1 (by omega) (by omega) (by omega)]
    simp only [Option.bind_some]
    rw [if_pos hce.1, if_pos hce.2]
    have hv : rd (rows.getD i []) (hcell (hrow s i) key (rows.getD i []).length) = (rows.getD i []).getD (cellAt s key i (rows.getD i [])).toNat 0 := rfl
    have hvr := ho.2.2.2 _ (getD_num (rows.getD i []) (cellAt s key i (rows.getD i [])).toNat (by unfold cellAt; omega))
    have hm := h.2.1
    rw [hv, i64_in _ (by omega) (by omega), i64_in ((i : Int) + 1) (by omega) (by omega), show (i : Int) + 1 = ((i + 1 : Nat) : Int) by omega]
    refine ih k (i + 1) _ (by omega) (by omega) (by rw [List.length_set]; exact hc) (fun j hj3 => ?_) (fun j hj3 => ?_) (by omega)
    · show (cur.set i (freshRow s most key n i (rows.getD i []))).getD j [] = _
      rw [getD_set cur i j _ (by omega)]
      by_cases e' : i = j
      · rw [if_pos e', e']
      · rw [if_neg e']; exact hj j (by omega)
    · show (cur.set i _).getD j [] = _
      rw [getD_set cur i j _ (by omega), if_neg (by omega)]
      exact hj2 j (by omega)

theorem addf_spec (k : Nat) (s most n : Int) (key : ByteArray) (rows : List (List Int)) (hs0 : 0 ≤ s) (hs1 : s < 18446744073709551616) (hkey : key.size ≤ 1000) (hk : 2100 ≤ k) :
    least_Add.f k s most rows key n = some (if rightL most rows ∧ 0 ≤ n ∧ n ≤ 1099511627776 then (s, most, addRows s most key n rows, 0) else (0, 0, [], 1)) := by
  obtain ⟨k, rfl⟩ : ∃ m, k = m + 1 := ⟨k - 1, by omega⟩
  unfold least_Add.f
  rw [right_spec _ s most rows (by omega)]
  simp only [Option.bind_some]
  by_cases r : rightL most rows
  · rw [if_pos (decide_eq_true r)]
    by_cases c1 : n < 0
    · rw [if_pos c1, if_neg (fun o => by have := o.2.1; omega)]; rfl
    · rw [if_neg c1]
      by_cases c2 : n > 1099511627776
      · rw [decide_eq_true c2, if_neg (fun o => by have := o.2.2; omega)]; rfl
      · rw [decide_eq_false c2, if_pos ⟨r, by omega, by omega⟩]
        simp only [least_Add.j0]
        rw [if_neg (by decide), clone_spec k s most rows r.2.2.2.1 (fun x hx => (r.2.2.2.2 x hx).2.1) (by omega)]
        simp only [Option.bind_some]
        have h7 := r.2.2.2.1
        exact addf_l0 s most n key rows hs0 hs1 r (by omega) (by omega) hkey rows.length k 0 rows (by omega) (by omega) rfl (fun j h => by omega) (fun j h => rfl) (by omega)
  · rw [if_neg (by rw [decide_eq_false r]; decide), if_neg (fun o => r o.1)]; rfl

theorem new_l0 (s most : Int) (c n : Nat) (hc : c ≤ 256) (hn : n ≤ 7) : ∀ (d k i : Nat), n - i = d → i ≤ n → d < k →
    least_New.l0 k c n i s most (List.replicate i (List.replicate c 0)) = some (s, most, List.replicate n (List.replicate c 0), 0) := by
  intro d
  induction d with
  | zero =>
    intro k i h0 hi hk
    obtain ⟨k, rfl⟩ : ∃ m, k = m + 1 := ⟨k - 1, by omega⟩
    simp only [least_New.l0]
    rw [if_neg (by omega), show i = n by omega]
  | succ d ih =>
    intro k i h0 hi hk
    obtain ⟨k, rfl⟩ : ∃ m, k = m + 1 := ⟨k - 1, by omega⟩
    have hl : (List.replicate i (List.replicate c (0 : Int))).length = i := List.length_replicate
    have h := ih k (i + 1) (by omega) (by omega) (by omega)
    rw [List.replicate_succ'] at h
    simp only [least_New.l0]
    rw [if_pos (by omega), if_pos (by omega), if_pos (by omega), if_pos (by omega), i64_in ((i : Int) + 1) (by omega) (by omega), show (i : Int) + 1 = ((i + 1 : Nat) : Int) by omega]
    exact h

theorem new_spec (k : Nat) (s n c most : Int) (hk : 20 ≤ k) : least_New.f k s n c most = some (if 1 ≤ n ∧ n ≤ 7 ∧ 1 ≤ c ∧ c ≤ 256 ∧ 1 ≤ most ∧ most ≤ 1099511627776 then (s, most, List.replicate n.toNat (List.replicate c.toNat 0), 0) else (0, 0, [], 1)) := by
  obtain ⟨k, rfl⟩ : ∃ m, k = m + 1 := ⟨k - 1, by omega⟩
  unfold least_New.f
  by_cases c1 : n < 1
  · rw [if_pos c1, if_neg (by omega)]; rfl
  · rw [if_neg c1]
    by_cases c2 : n > 7
    · rw [if_pos c2, if_neg (by omega)]; rfl
    · rw [if_neg c2]
      by_cases c3 : c < 1
      · rw [if_pos c3, if_neg (by omega)]; rfl
      · rw [if_neg c3]
        by_cases c4 : c > 256
        · rw [if_pos c4, if_neg (by omega)]; rfl
        · rw [if_neg c4]
          by_cases c5 : most < 1
          · rw [if_pos c5, if_neg (by omega)]; rfl
          · rw [if_neg c5]
            by_cases c6 : most > 1099511627776
            · rw [decide_eq_true c6, if_neg (by omega)]; rfl
            · rw [decide_eq_false c6, if_pos (by omega)]
              simp only [least_New.j0]
              rw [if_neg (by decide)]
              obtain ⟨n, rfl⟩ := Int.eq_ofNat_of_zero_le (show 0 ≤ n by omega)
              obtain ⟨c, rfl⟩ := Int.eq_ofNat_of_zero_le (show 0 ≤ c by omega)
              exact new_l0 s most c n (by omega) (by omega) n k 0 (by omega) (by omega) (by omega)

theorem new_right (n c : Nat) (most : Int) (hn : 1 ≤ n) (hn2 : n ≤ 7) (hc : 1 ≤ c) (hc2 : c ≤ 256) (hm : 1 ≤ most) (hm2 : most ≤ 1099511627776) : rightL most (List.replicate n (List.replicate c 0)) := by
  have hcols : colsOf (List.replicate n (List.replicate c (0 : Int))) = c := by
    obtain ⟨m, rfl⟩ : ∃ m, n = m + 1 := ⟨n - 1, by omega⟩
    simp [colsOf, List.replicate_succ]
  refine ⟨hm, hm2, by rw [List.length_replicate]; exact hn, by rw [List.length_replicate]; exact hn2, fun r hr => ?_⟩
  rw [hcols]
  obtain ⟨_, rfl⟩ := List.mem_replicate.1 hr
  refine ⟨by rw [List.length_replicate]; exact hc, by rw [List.length_replicate]; exact hc2, List.length_replicate, fun x hx => ?_⟩
  obtain ⟨_, rfl⟩ := List.mem_replicate.1 hx
  omega

theorem short_l0 (l : List ByteArray) (hl : l.length ≤ 1000000) : ∀ (d k i : Nat), l.length - i = d → i ≤ l.length → d < k →
    rillmeterref10_Short.l0 k l i = some (decide (∀ s ∈ l.drop i, s.size ≤ 100)) := by
  intro d
  induction d with
  | zero =>
    intro k i h0 h1 h2
    obtain ⟨k, rfl⟩ : ∃ m, k = m + 1 := ⟨k - 1, by omega⟩
    simp only [rillmeterref10_Short.l0]
    rw [if_neg (by omega), List.drop_of_length_le (by omega)]
    simp
  | succ d ih =>
    intro k i h0 h1 h2
    obtain ⟨k, rfl⟩ : ∃ m, k = m + 1 := ⟨k - 1, by omega⟩
    have g : i < l.length := by omega
    have e : rdOf ByteArray.empty l i = l[i] := by simp [rdOf, g]
    simp only [rillmeterref10_Short.l0]
    rw [if_pos (by omega), if_pos (by omega), e, i64_in ((i : Int) + 1) (by omega) (by omega), show (i : Int) + 1 = ((i + 1 : Nat) : Int) by omega, ih k (i + 1) (by omega) (by omega) (by omega), List.drop_eq_getElem_cons g]
    by_cases c : (l[i].size : Int) > 100
    · rw [if_pos c]
      exact congrArg some (decide_eq_false (fun h => by have := h l[i] List.mem_cons_self; omega)).symm
    · rw [if_neg c]
      exact congrArg some (decide_eq_decide.2 ⟨fun h s hs => by rcases List.mem_cons.1 hs with rfl | hs; omega; exact h s hs, fun h s hs => h s (List.mem_cons_of_mem _ hs)⟩)

theorem short_spec (k : Nat) (l : List ByteArray) (m : Int) (hm : 0 ≤ m ∧ m ≤ 1000) (hk : 1002 ≤ k) :
    rillmeterref10_Short.f k l m = some (decide ((l.length : Int) ≤ m ∧ ∀ s ∈ l, s.size ≤ 100)) := by
  unfold rillmeterref10_Short.f
  by_cases c : (l.length : Int) > m
  · rw [if_pos c]
    exact congrArg some (decide_eq_false (fun h => by omega)).symm
  · have h := short_l0 l (by omega) l.length k 0 (by omega) (by omega) (by omega)
    rw [show ((0 : Nat) : Int) = 0 from rfl, List.drop_zero] at h
    rw [if_neg c, h]
    exact congrArg some (decide_eq_decide.2 ⟨fun h => ⟨by omega, h⟩, fun h => h.2⟩)

-- SKIP
theorem awake15 : rillmeterlaw15_awake.f 400 = some true := by decide +kernel
theorem awake15_spec : Evt (fun k => rillmeterlaw15_awake.f k) true := ⟨400, fun k hk => at_rounds (g := fun k => rillmeterlaw15_awake.f k) rillmeterlaw15_awake.mono hk awake15⟩
def newOk (b r v n c : Int) : Prop := 1 ≤ b ∧ b ≤ 256 ∧ 1 ≤ r ∧ r ≤ 8 ∧ 1 ≤ v ∧ v ≤ 64 ∧ 1 ≤ n ∧ n ≤ 7 ∧ 1 ≤ c ∧ c ≤ 256
instance (b r v n c : Int) : Decidable (newOk b r v n c) := inferInstanceAs (Decidable (1 ≤ b ∧ b ≤ 256 ∧ 1 ≤ r ∧ r ≤ 8 ∧ 1 ≤ v ∧ v ≤ 64 ∧ 1 ≤ n ∧ n ≤ 7 ∧ 1 ≤ c ∧ c ≤ 256))
/-- no entry in any bucket -/
def noB (b : Int) : List S56 := List.replicate b.toNat z56
def noL (n c : Int) : List (List Int) := List.replicate n.toNat (List.replicate c.toNat 0)
theorem elnew_spec (s b r v n c : Int) (h0 : 0 ≤ s) (h1 : s < 18446744073709551616) : Evt (fun k => elastic_New.f k s b r v n c) (if newOk b r v n c then (s, r, v, noB b, hrow s 1, 255, noL n c, 0) else (0, 0, 0, [], 0, 0, [], 1)) := by
  refine ⟨20, fun k hk => ?_⟩
  simp only [elastic_New.f]
  rw [row_spec s 1 h0 h1 (by decide), Option.bind_some, new_spec k _ _ _ _ hk, Option.bind_some]
  by_cases g : 1 ≤ n ∧ n ≤ 7 ∧ 1 ≤ c ∧ c ≤ 256
  · rw [if_pos (show 1 ≤ n ∧ n ≤ 7 ∧ 1 ≤ c ∧ c ≤ 256 ∧ (1 : Int) ≤ 255 ∧ (255 : Int) ≤ 1099511627776 from ⟨g.1, g.2.1, g.2.2.1, g.2.2.2, by decide, by decide⟩)]
    simp only
    rw [if_pos trivial]
    by_cases g2 : newOk b r v n c
    · rw [if_pos g2]
      obtain ⟨g3, g4, g5, g6, g7, g8, _⟩ := g2
      rw [if_neg (by omega), if_neg (by omega), if_neg (by omega), if_neg (by omega), if_neg (by omega), if_neg (by omega), if_pos (by omega), if_pos (by omega)]
      rfl
    · rw [if_neg g2]
      by_cases q1 : b < 1
      · rw [if_pos q1]
      · rw [if_neg q1]
        by_cases q2 : b > 256
        · rw [if_pos q2]
        · rw [if_neg q2]
          by_cases q3 : r < 1
          · rw [if_pos q3]
          · rw [if_neg q3]
            by_cases q4 : r > 8
            · rw [if_pos q4]
            · rw [if_neg q4]
              by_cases q5 : v < 1
              · rw [if_pos q5]
              · rw [if_neg q5]
                by_cases q6 : v > 64
                · rw [if_pos q6]
                · exact absurd ⟨by omega, by omega, by omega, by omega, by omega, by omega, g⟩ g2
  · rw [if_neg (show ¬ (1 ≤ n ∧ n ≤ 7 ∧ 1 ≤ c ∧ c ≤ 256 ∧ (1 : Int) ≤ 255 ∧ (255 : Int) ≤ 1099511627776) from fun h => g ⟨h.1, h.2.1, h.2.2.1, h.2.2.2.1⟩)]
    simp only
    rw [if_neg (by decide), if_neg (show ¬ newOk b r v n c from fun h => g ⟨h.2.2.2.2.2.2.1, h.2.2.2.2.2.2.2.1, h.2.2.2.2.2.2.2.2.1, h.2.2.2.2.2.2.2.2.2⟩)]

theorem take56 (l : List S56) (i : Nat) (h : i < l.length) : l.take (i + 1) = l.take i ++ [rd_T56 l (i : Int)] ∧ rd_T56 l (i : Int) ∈ l := by
  refine ⟨?_, ?_⟩
  · rw [List.take_add_one, List.getElem?_eq_getElem (by omega)]
    simp [rd_T56, List.getD_eq_getElem?_getD, h]
  · unfold rd_T56
    rw [Int.toNat_natCast, List.getD_eq_getElem?_getD, List.getElem?_eq_getElem h]
    exact List.getElem_mem _
theorem take76 (l : List S76) (i : Nat) (h : i < l.length) : l.take (i + 1) = l.take i ++ [rd_T76 l (i : Int)] ∧ rd_T76 l (i : Int) ∈ l := by
  refine ⟨?_, ?_⟩
  · rw [List.take_add_one, List.getElem?_eq_getElem (by omega)]
    simp [rd_T76, List.getD_eq_getElem?_getD, h]
  · unfold rd_T76
    rw [Int.toNat_natCast, List.getD_eq_getElem?_getD, List.getElem?_eq_getElem h]
    exact List.getElem_mem _
theorem tl_inj {a b : ByteArray} : a.toList = b.toList ↔ a = b := by
  rw [ByteArray.toList_eq, ByteArray.toList_eq]
  constructor
  · intro h
    apply ByteArray.ext
    exact Array.toList_inj.1 h
  · intro h; rw [h]
/-- the keys of entries -/
def keysE (l : List S76) : List ByteArray := l.map (·.f0)
theorem go_spec (key : ByteArray) : ∀ (l : List S76) (i : Nat), (key ∉ keysE l ∧ elastic_find.go key l i = -1) ∨ ∃ j, j < l.length ∧ (rd_T76 l (j : Int)).f0 = key ∧ elastic_find.go key l i = ((i + j : Nat) : Int) ∧ key ∈ keysE l := by
  intro l
  induction l with
  | nil => intro i; exact .inl ⟨by simp [keysE], rfl⟩
  | cons y l ih =>
    intro i
    rw [elastic_find.go]
    by_cases h : y.f0 = key
    · rw [if_pos (tl_inj.2 h)]
      exact .inr ⟨0, by simp, h, by simp, by simp [keysE, h]⟩
    · rw [if_neg (fun g => h (tl_inj.1 g))]
      rcases ih (i + 1) with ⟨h1, h2⟩ | ⟨j, h1, h2, h3, h4⟩
      · refine .inl ⟨?_, h2⟩
        simp only [keysE, List.map_cons, List.mem_cons, not_or] at h1 ⊢
        exact ⟨fun g => h g.symm, h1⟩
      · refine .inr ⟨j + 1, by simp; omega, ?_, ?_, ?_⟩
        · rw [← h2]
          unfold rd_T76
          simp [List.getD_eq_getElem?_getD]
        · rw [h3]; omega
        · simp only [keysE, List.map_cons, List.mem_cons] at h4 ⊢
          exact .inr h4
theorem go_at : ∀ (l : List S76) (i j : Nat), (keysE l).Nodup → j < l.length → elastic_find.go (rd_T76 l (j : Int)).f0 l i = ((i + j : Nat) : Int) := by
  intro l
  induction l with
  | nil => intro i j _ h; exact absurd h (Nat.not_lt_zero _)
  | cons y l ih =>
    intro i j hn hj
    have hn' : y.f0 ∉ keysE l ∧ (keysE l).Nodup := by simpa [keysE] using hn
    cases j with
    | zero =>
      rw [elastic_find.go, if_pos (by rfl)]; simp
    | succ j =>
      have e : rd_T76 (y :: l) ((j + 1 : Nat) : Int) = rd_T76 l (j : Int) := by unfold rd_T76; simp [List.getD_eq_getElem?_getD]
      have hj' : j < l.length := by simpa using hj
      have hm : (rd_T76 l (j : Int)).f0 ∈ keysE l := List.mem_map.2 ⟨_, (take76 l j hj').2, rfl⟩
      rw [e, elastic_find.go, if_neg (fun g => hn'.1 (by rw [tl_inj.1 g]; exact hm)), ih (i + 1) j hn'.2 hj']
      congr 1; omega
/-- a bucket that was fed t keys at most -/
def bOk (r t : Int) (y : S56) : Prop := (y.f0.length : Int) ≤ r ∧ (0 ≤ y.f1 ∧ y.f1 ≤ t) ∧ (∀ e ∈ y.f0, 1 ≤ e.f1 ∧ e.f1 ≤ t) ∧ (keysE y.f0).Nodup ∧ ∀ e ∈ y.f0, e.f0.size ≤ 1000
theorem bucket_ok (r t : Int) (hr : r ≤ 8) (ht : t ≤ 1000000) (y : S56) (h : bOk r t y) : ∀ k, 20 ≤ k → elastic_Bucket_right.f k y.f0 y.f1 r = some true := by
  obtain ⟨h1, h2, h3, h4, _⟩ := h
  have main : ∀ (d i k : Nat), i + d = y.f0.length → d < k → elastic_Bucket_right.l0 k r y.f0 (y.f0.length : Int) (i : Int) y.f0 y.f1 = some true := by
    intro d
    induction d with
    | zero =>
      intro i k hi hk
      obtain ⟨k, rfl⟩ : ∃ z, k = z + 1 := ⟨k - 1, by omega⟩
      simp only [elastic_Bucket_right.l0]
      rw [if_neg (by omega), if_pos h1, if_pos (by omega), decide_eq_true (by omega)]
    | succ d ih =>
      intro i k hi hk
      obtain ⟨k, rfl⟩ : ∃ z, k = z + 1 := ⟨k - 1, by omega⟩
      obtain ⟨_, hm⟩ := take76 y.f0 i (by omega)
      have hv := h3 _ hm
      simp only [elastic_Bucket_right.l0]
      rw [if_pos (by omega), if_pos (by omega), if_pos (by omega), if_neg (by omega), if_neg (by omega)]
      simp only [elastic_find.f]
      rw [if_pos (by omega), Option.bind_some, go_at y.f0 0 i h4 (by omega), if_neg (by omega), i64_in ((i : Int) + 1) (by omega) (by omega), show (i : Int) + 1 = ((i + 1 : Nat) : Int) by omega]
      exact ih (i + 1) k (by omega) (by omega)
  intro k hk
  exact main y.f0.length 0 k (by omega) (by omega)
theorem any_ok (r t : Int) (hr : r ≤ 8) (ht : t ≤ 1000000) (k : Nat) (hk : 20 ≤ k) : ∀ B : List S56, (∀ y ∈ B, bOk r t y) → elastic_Bucket_44.any k r B = some false := by
  intro B
  induction B with
  | nil => intro _; rfl
  | cons y l ih =>
    intro h
    rw [elastic_Bucket_44.any, List.foldr_cons, ← elastic_Bucket_44.any, ih (fun z hz => h z (List.mem_cons_of_mem _ hz)), bucket_ok r t hr ht y (h y List.mem_cons_self) k hk, Option.bind_some, if_pos rfl]
/-- a sketch that was fed t keys -/
structure Fed (s r v t : Int) (B : List S56) (rows : List (List Int)) : Prop where
  s0 : 0 ≤ s
  s1 : s < 18446744073709551616
  r0 : 1 ≤ r
  r1 : r ≤ 8
  v0 : 1 ≤ v
  v1 : v ≤ 64
  b0 : 1 ≤ B.length
  b1 : B.length ≤ 256
  t0 : 0 ≤ t
  t1 : t ≤ 1000
  lt : rightL 255 rows
  bs : ∀ y ∈ B, bOk r t y
theorem right_fed {s r v t : Int} {B : List S56} {rows : List (List Int)} (h : Fed s r v t B rows) (k : Nat) (hk : 300 ≤ k) : elastic_Right.f k s r v B (hrow s 1) 255 rows = some true := by
  simp only [elastic_Right.f]
  rw [if_pos h.r0, if_pos h.r1, if_pos h.v0, if_pos h.v1, if_pos (by have := h.b0; omega), if_pos (by have := h.b1; omega), right_spec k _ _ _ hk, decide_eq_true h.lt, Option.bind_some, if_pos rfl, row_spec s 1 h.s0 h.s1 (by decide), Option.bind_some, if_pos rfl, if_pos trivial]
  unfold elastic_Bucket_44.f
  rw [if_pos (by have := h.b1; omega), any_ok r t h.r1 (by have := h.t1; omega) k (by omega) B h.bs]
  rfl
/-- the place of a key -/
def placeOf (s : Int) (n : Nat) (key : ByteArray) : Nat := (hcell (hrow s 0) key n).toNat
theorem place_lt (s : Int) (n : Nat) (key : ByteArray) (h : 1 ≤ n) : placeOf s n key < n ∧ hcell (hrow s 0) key n = (placeOf s n key : Int) := by
  have := hcell_range (hrow s 0) key n (by omega)
  unfold placeOf; omega
theorem bucket_spec {s : Int} (h0 : 0 ≤ s) (h1 : s < 18446744073709551616) (r v : Int) (B : List S56) (hB : B.length ≤ 256) (hB1 : 1 ≤ B.length) (H m : Int) (rows : List (List Int)) (key : ByteArray) (hk : key.size ≤ 1000) (k : Nat) (hk2 : 2000 ≤ k) : elastic_bucket.f k s r v B H m rows key = some (placeOf s B.length key : Int) := by
  have hw := words_le key 250 (by omega)
  have hr := hrow_range s 0
  simp only [elastic_bucket.f]
  rw [row_spec s 0 h0 h1 (by decide), Option.bind_some, cell_spec k (hrow s 0) key B.length (by omega) hr.1 (by omega) (by omega) (by omega), Option.bind_some, (place_lt s B.length key hB1).2]
theorem lst_bucket (B : List S56) (h : B.length ≤ 256) : elastic_Bucket_32.f B = some B := by
  simp only [elastic_Bucket_32.f, Option.bind_some]
  rw [if_pos (by simp; omega)]; rfl
theorem lst_entry (l : List S76) (h : l.length ≤ 256) : elastic_Entry_29.f l = some l := by
  simp only [elastic_Entry_29.f, Option.bind_some]
  rw [if_pos (by simp; omega)]; rfl
theorem mem_set76 {l : List S76} {j : Nat} {x e : S76} (h : e ∈ l.set j x) : e = x ∨ e ∈ l := by
  rcases List.mem_or_eq_of_mem_set h with h | h
  · exact .inr h
  · exact .inl h
/-- what voting does: nothing but to the light ones, or an entry goes there and the key takes its place -/
theorem vote_spec {s v t H : Int} (hH0 : 0 ≤ H) (hH1 : H < 18446744073709551616) (hv : 1 ≤ v ∧ v ≤ 64) (ht : 0 ≤ t ∧ t ≤ 1000) (r : Int) (B : List S56) (rows : List (List Int)) (hlt : rightL 255 rows) (es : List S76) (hl1 : 1 ≤ es.length) (hl : es.length ≤ 8) (he : ∀ e ∈ es, (1 ≤ e.f1 ∧ e.f1 ≤ t) ∧ e.f0.size ≤ 1000) (ag : Int) (key : ByteArray) (hkey : key.size ≤ 1000) :
    ∃ es' ag' rows', Evt (fun k => elastic_vote.f k s r v B H 255 rows es ag key) (es', ag', H, 255, rows') ∧ ((es' = es ∧ ag' = ag ∧ rows' = addRows H 255 key 1 rows) ∨ ∃ j, j < es.length ∧ es' = es.set j ⟨key, 1, true⟩ ∧ ag' = 0 ∧ rows' = addRows H 255 (rd_T76 es (j : Int)).f0 (rd_T76 es (j : Int)).f1 rows) := by
  have main : ∀ (d i j : Nat), i + d = es.length → j < es.length → ∃ es' ag' rows', Evt (fun k => elastic_vote.l0 k key (j : Int) es (es.length : Int) (i : Int) s r v B H 255 rows es ag) (es', ag', H, 255, rows') ∧ ((es' = es ∧ ag' = ag ∧ rows' = addRows H 255 key 1 rows) ∨ ∃ j, j < es.length ∧ es' = es.set j ⟨key, 1, true⟩ ∧ ag' = 0 ∧ rows' = addRows H 255 (rd_T76 es (j : Int)).f0 (rd_T76 es (j : Int)).f1 rows) := by
    intro d
    induction d with
    | zero =>
      intro i j hi hj
      obtain ⟨_, hm⟩ := take76 es j hj
      obtain ⟨⟨h1, h2⟩, h3⟩ := he _ hm
      have hmul : v * (rd_T76 es (j : Int)).f1 ≤ 64 * 1000 := Int.le_trans (Int.mul_le_mul_of_nonneg_right hv.2 (by omega)) (Int.mul_le_mul_of_nonneg_left (by omega) (by decide))
      have hmul0 : 0 ≤ v * (rd_T76 es (j : Int)).f1 := Int.mul_nonneg (by omega) (by omega)
      have hw : wrap64 (v * (rd_T76 es (j : Int)).f1) = v * (rd_T76 es (j : Int)).f1 := i64_in _ (by omega) (by omega)
      by_cases c : ag < v * (rd_T76 es (j : Int)).f1
      · refine ⟨es, ag, addRows H 255 key 1 rows, ⟨2101, fun k hk => ?_⟩, .inl ⟨rfl, rfl, rfl⟩⟩
        obtain ⟨k, rfl⟩ : ∃ z, k = z + 1 := ⟨k - 1, by omega⟩
        simp only [elastic_vote.l0]
        rw [if_neg (by omega), if_pos (by omega), if_pos (by omega), hw, if_pos c, addf_spec k H 255 1 key rows hH0 hH1 hkey (by omega), if_pos ⟨hlt, by decide, by decide⟩]
        rfl
      · refine ⟨es.set j ⟨key, 1, true⟩, 0, addRows H 255 (rd_T76 es (j : Int)).f0 (rd_T76 es (j : Int)).f1 rows, ⟨2101, fun k hk => ?_⟩, .inr ⟨j, hj, rfl, rfl, rfl⟩⟩
        obtain ⟨k, rfl⟩ : ∃ z, k = z + 1 := ⟨k - 1, by omega⟩
        simp only [elastic_vote.l0]
        rw [if_neg (by omega), if_pos (by omega), if_pos (by omega), hw, if_neg c, addf_spec k H 255 (rd_T76 es (j : Int)).f1 (rd_T76 es (j : Int)).f0 rows hH0 hH1 h3 (by omega), if_pos ⟨hlt, by omega, by omega⟩, Int.toNat_natCast]
        rfl
    | succ d ih =>
      intro i j hi hj
      by_cases c : (rd_T76 es (i : Int)).f1 < (rd_T76 es (j : Int)).f1
      · obtain ⟨e1, e2, e3, h1, h2⟩ := ih (i + 1) i (by omega) (by omega)
        refine ⟨e1, e2, e3, Evt.step h1 (fun k => ?_), h2⟩
        simp only [elastic_vote.l0]
        rw [if_pos (by omega), if_pos (by omega), if_pos (by omega), if_pos (by omega), if_pos (by omega), if_pos c, i64_in ((i : Int) + 1) (by omega) (by omega)]
        rfl
      · obtain ⟨e1, e2, e3, h1, h2⟩ := ih (i + 1) j (by omega) hj
        refine ⟨e1, e2, e3, Evt.step h1 (fun k => ?_), h2⟩
        simp only [elastic_vote.l0]
        rw [if_pos (by omega), if_pos (by omega), if_pos (by omega), if_pos (by omega), if_pos (by omega), if_neg c, i64_in ((i : Int) + 1) (by omega) (by omega)]
        rfl
  obtain ⟨e1, e2, e3, h1, h2⟩ := main es.length 0 0 (by omega) (by omega)
  exact ⟨e1, e2, e3, h1.eq (fun k => rfl), h2⟩
theorem keys_set (l : List S76) (j : Nat) (x : S76) : keysE (l.set j x) = (keysE l).set j x.f0 := by
  unfold keysE; rw [List.map_set]
theorem nodup_set {α : Type} : ∀ (l : List α) (j : Nat) (x : α), l.Nodup → x ∉ l → (l.set j x).Nodup := by
  intro l
  induction l with
  | nil => intro j x _ _; exact List.nodup_nil
  | cons y l ih =>
    intro j x h hx
    rw [List.nodup_cons] at h
    rw [List.mem_cons, not_or] at hx
    cases j with
    | zero => rw [List.set_cons_zero, List.nodup_cons]; exact ⟨hx.2, h.2⟩
    | succ j =>
      rw [List.set_cons_succ, List.nodup_cons]
      refine ⟨fun g => ?_, ih j x h.2 hx.2⟩
      rcases List.mem_or_eq_of_mem_set g with g | g
      · exact h.1 g
      · exact hx.1 g.symm
theorem set_same {α : Type} : ∀ (l : List α) (j : Nat) (x : α), l[j]? = some x → l.set j x = l := by
  intro l
  induction l with
  | nil => intro j x h; rfl
  | cons y l ih =>
    intro j x h
    cases j with
    | zero => simp at h; rw [List.set_cons_zero, h]
    | succ j => rw [List.set_cons_succ, ih j x (by simpa using h)]
theorem rd76 (l : List S76) (j : Nat) (h : j < l.length) : l[j]? = some (rd_T76 l (j : Int)) := by
  rw [List.getElem?_eq_getElem h]; simp [rd_T76, List.getD_eq_getElem?_getD, h]
theorem rd56 (l : List S56) (j : Nat) (h : j < l.length) : l[j]? = some (rd_T56 l (j : Int)) := by
  rw [List.getElem?_eq_getElem h]; simp [rd_T56, List.getD_eq_getElem?_getD, h]
/-- one key more: always a sketch that was fed one more; told whole where the key has or finds a place -/
theorem add_fed {s r v t : Int} {B : List S56} {rows : List (List Int)} (h : Fed s r v t B rows) (ht : t < 1000) (key : ByteArray) (hkey : key.size ≤ 1000) :
    ∃ y' rows', Evt (fun k => elastic_Add.f k s r v B (hrow s 1) 255 rows key) (s, r, v, B.set (placeOf s B.length key) y', hrow s 1, 255, rows', 0) ∧ Fed s r v (t + 1) (B.set (placeOf s B.length key) y') rows' ∧
      ((∃ j, j < (rd_T56 B (placeOf s B.length key : Int)).f0.length ∧ (rd_T76 (rd_T56 B (placeOf s B.length key : Int)).f0 (j : Int)).f0 = key ∧ rows' = rows ∧ y' = ⟨(rd_T56 B (placeOf s B.length key : Int)).f0.set j ⟨key, (rd_T76 (rd_T56 B (placeOf s B.length key : Int)).f0 (j : Int)).f1 + 1, (rd_T76 (rd_T56 B (placeOf s B.length key : Int)).f0 (j : Int)).f2⟩, (rd_T56 B (placeOf s B.length key : Int)).f1⟩) ∨
       (key ∉ keysE (rd_T56 B (placeOf s B.length key : Int)).f0 ∧ ((rd_T56 B (placeOf s B.length key : Int)).f0.length : Int) < r ∧ rows' = rows ∧ y' = ⟨(rd_T56 B (placeOf s B.length key : Int)).f0 ++ [⟨key, 1, false⟩], (rd_T56 B (placeOf s B.length key : Int)).f1⟩) ∨
       (key ∉ keysE (rd_T56 B (placeOf s B.length key : Int)).f0 ∧ r ≤ ((rd_T56 B (placeOf s B.length key : Int)).f0.length : Int) ∧ ((y' = ⟨(rd_T56 B (placeOf s B.length key : Int)).f0, (rd_T56 B (placeOf s B.length key : Int)).f1 + 1⟩ ∧ rows' = addRows (hrow s 1) 255 key 1 rows) ∨
         ∃ j, j < (rd_T56 B (placeOf s B.length key : Int)).f0.length ∧ y' = ⟨(rd_T56 B (placeOf s B.length key : Int)).f0.set j ⟨key, 1, true⟩, 0⟩ ∧ rows' = addRows (hrow s 1) 255 (rd_T76 (rd_T56 B (placeOf s B.length key : Int)).f0 (j : Int)).f0 (rd_T76 (rd_T56 B (placeOf s B.length key : Int)).f0 (j : Int)).f1 rows))) := by
  have hp := (place_lt s B.length key h.b0).1
  have hbs := bucket_spec h.s0 h.s1 r v B h.b1 h.b0 (hrow s 1) 255 rows key hkey
  have hB1 := h.b1
  generalize placeOf s B.length key = p at *
  have hm := (take56 B p hp).2
  have hb := h.bs _ hm
  generalize hy : rd_T56 B (p : Int) = y at *
  obtain ⟨es, ag⟩ := y
  obtain ⟨q1, q2, q3, q4, q5⟩ := hb
  simp only at q1 q2 q3 q4 q5
  have hr1 := h.r1
  have hr0 := h.r0
  have ht0 := h.t0
  -- the sketch behind: the other buckets as they were
  have fed' : ∀ (y' : S56) (rows' : List (List Int)), bOk r (t + 1) y' → rightL 255 rows' → Fed s r v (t + 1) (B.set p y') rows' := by
    intro y' rows' h1 h2
    refine ⟨h.s0, h.s1, h.r0, h.r1, h.v0, h.v1, by rw [List.length_set]; exact h.b0, by rw [List.length_set]; exact h.b1, by omega, by omega, h2, fun z hz => ?_⟩
    rcases List.mem_or_eq_of_mem_set hz with hz | hz
    · obtain ⟨w1, w2, w3, w4, w5⟩ := h.bs z hz
      exact ⟨w1, ⟨w2.1, by omega⟩, fun e he => ⟨(w3 e he).1, by have := (w3 e he).2; omega⟩, w4, w5⟩
    · rw [hz]; exact h1
  have hlen : es.length ≤ 8 := by omega
  have start : ∀ (k : Nat), 2000 ≤ k → elastic_Add.f k s r v B (hrow s 1) 255 rows key = (if elastic_find.go key es 0 ≥ 0 then (if 0 ≤ elastic_find.go key es 0 then (if elastic_find.go key es 0 < (es.length : Int) then (elastic_Add.j0 k key (p : Int) (elastic_find.go key es 0) (((rd_T76 es (elastic_find.go key es 0)).f1) == 1099511627776) s r v B (hrow s 1) 255 rows es ag) else (none)) else (none)) else (elastic_Add.j0 k key (p : Int) (elastic_find.go key es 0) false s r v B (hrow s 1) 255 rows es ag)) := by
    intro k hk
    simp only [elastic_Add.f]
    rw [right_fed h k (by omega), Option.bind_some, if_pos rfl, hbs k hk, Option.bind_some, if_pos (by omega), if_pos (by omega), hy, lst_entry es (by omega), Option.bind_some]
    simp only [elastic_find.f]
    rw [if_pos (by omega), Option.bind_some]
  rcases go_spec key es 0 with ⟨g1, g2⟩ | ⟨j, g1, g2, g3, g4⟩
  · rw [g2] at start
    by_cases c : (es.length : Int) < r
    · refine ⟨⟨es ++ [⟨key, 1, false⟩], ag⟩, rows, ⟨2001, fun k hk => ?_⟩, fed' _ _ ⟨by simp; omega, by simp only; omega, fun e he => ?_, ?_, fun e he => ?_⟩ h.lt, .inr (.inl ⟨g1, c, rfl, rfl⟩)⟩
      · obtain ⟨k, rfl⟩ : ∃ z, k = z + 1 := ⟨k - 1, by omega⟩
        refine (start (k + 1) (by omega)).trans ?_
        rw [if_neg (by decide)]
        simp only [elastic_Add.j0]
        rw [if_neg (by decide), if_neg (by decide), if_pos c, if_pos (by omega), lst_bucket B hB1, Option.bind_some, if_pos (by omega), if_pos (by omega), Int.toNat_natCast]
      · rcases List.mem_append.1 he with he | he
        · have := q3 e he; omega
        · rw [List.mem_singleton.1 he]; exact ⟨Int.le_refl _, by show (1 : Int) ≤ t + 1; omega⟩
      · show (keysE (es ++ [⟨key, 1, false⟩])).Nodup
        have : keysE (es ++ [⟨key, 1, false⟩]) = keysE es ++ [key] := by simp [keysE]
        rw [this, List.nodup_append]
        refine ⟨q4, by simp, fun a ha b hb => ?_⟩
        rw [List.mem_singleton.1 hb]
        intro e; rw [e] at ha; exact g1 ha
      · rcases List.mem_append.1 he with he | he
        · exact q5 e he
        · rw [List.mem_singleton.1 he]; exact hkey
    · obtain ⟨es', ag', rows', hv1, hv2⟩ := vote_spec (s := s) (v := v) (t := t) (H := hrow s 1) (hrow_range s 1).1 (by have := (hrow_range s 1).2; omega) ⟨h.v0, h.v1⟩ ⟨h.t0, by omega⟩ r B rows h.lt es (by omega) hlen (fun e he => ⟨q3 e he, q5 e he⟩) (ag + 1) key hkey
      have walk : Evt (fun k => elastic_Add.f k s r v B (hrow s 1) 255 rows key) (s, r, v, B.set p ⟨es', ag'⟩, hrow s 1, 255, rows', 0) := by
        obtain ⟨m, e⟩ := hv1
        refine ⟨2001 + m, fun k hk => ?_⟩
        obtain ⟨k, rfl⟩ : ∃ z, k = z + 1 := ⟨k - 1, by omega⟩
        refine (start (k + 1) (by omega)).trans ?_
        have e := e k (by omega)
        simp only at e
        rw [if_neg (by decide)]
        simp only [elastic_Add.j0]
        rw [if_neg (by decide), if_neg (by decide), if_neg c, if_neg (by omega), i64_in (ag + 1) (by omega) (by omega), e, Option.bind_some, lst_bucket B hB1, Option.bind_some, if_pos (by omega), if_pos (by omega), Int.toNat_natCast]
      rcases hv2 with ⟨rfl, rfl, rfl⟩ | ⟨j, hj, rfl, rfl, rfl⟩
      · exact ⟨⟨es', ag + 1⟩, _, walk, fed' _ _ ⟨q1, by simp only; omega, fun e he => ⟨(q3 e he).1, by have := (q3 e he).2; omega⟩, q4, q5⟩ (addRows_right _ _ _ _ _ h.lt (by decide)), .inr (.inr ⟨g1, by simp only; omega, .inl ⟨rfl, rfl⟩⟩)⟩
      · have hmj := (take76 es j hj).2
        refine ⟨⟨es.set j ⟨key, 1, true⟩, 0⟩, _, walk, fed' _ _ ⟨by simp only [List.length_set]; omega, by simp only; omega, fun e he => ?_, ?_, fun e he => ?_⟩ (addRows_right _ _ _ _ _ h.lt (by have := (q3 _ hmj).1; omega)), .inr (.inr ⟨g1, by simp only; omega, .inr ⟨j, hj, rfl, rfl⟩⟩)⟩
        · rcases mem_set76 he with he | he
          · rw [he]; exact ⟨Int.le_refl _, by show (1 : Int) ≤ t + 1; omega⟩
          · have := q3 e he; omega
        · rw [keys_set]; exact nodup_set _ _ _ q4 g1
        · rcases mem_set76 he with he | he
          · rw [he]; exact hkey
          · exact q5 e he
  · rw [g3] at start
    have hmj := (take76 es j g1).2
    have hvj := q3 _ hmj
    have hw : wrap64 ((rd_T76 es (j : Int)).f1 + 1) = (rd_T76 es (j : Int)).f1 + 1 := i64_in _ (by omega) (by omega)
    refine ⟨⟨es.set j ⟨key, (rd_T76 es (j : Int)).f1 + 1, (rd_T76 es (j : Int)).f2⟩, ag⟩, rows, ⟨2001, fun k hk => ?_⟩, fed' _ _ ⟨by simp only [List.length_set]; omega, by simp only; omega, fun e he => ?_, ?_, fun e he => ?_⟩ h.lt, .inl ⟨j, g1, g2, rfl, rfl⟩⟩
    · obtain ⟨k, rfl⟩ : ∃ z, k = z + 1 := ⟨k - 1, by omega⟩
      refine (start (k + 1) (by omega)).trans ?_
      rw [Nat.zero_add, if_pos (by omega), if_pos (by omega), if_pos (by omega)]
      simp only [elastic_Add.j0]
      rw [show ((rd_T76 es (j : Int)).f1 == 1099511627776) = false from beq_eq_false_iff_ne.2 (by omega), if_neg (by decide), if_pos (by omega), if_pos (by omega), if_pos (by omega), lst_bucket B hB1, Option.bind_some, if_pos (by omega), if_pos (by omega), Int.toNat_natCast, Int.toNat_natCast, hw, g2]
    · rcases mem_set76 he with he | he
      · rw [he]; simp only; omega
      · have := q3 e he; omega
    · show (keysE (es.set j _)).Nodup
      rw [keys_set]
      have : (keysE es)[j]? = some key := by unfold keysE; rw [List.getElem?_map, rd76 es j g1, Option.map_some, g2]
      rw [set_same _ _ _ this]; exact q4
    · rcases mem_set76 he with he | he
      · rw [he]; exact hkey
      · exact q5 e he
/-- how often a key stands in a list -/
def cnt (key : ByteArray) (l : List ByteArray) : Nat := l.countP (fun x => decide (x = key))
theorem cnt_snoc (key x : ByteArray) (l : List ByteArray) : cnt key (l ++ [x]) = cnt key l + (if x = key then 1 else 0) := by
  unfold cnt
  rw [List.countP_append, List.countP_singleton]
  by_cases h : x = key <;> simp [h]
theorem cnt_le (key : ByteArray) (l : List ByteArray) : cnt key l ≤ l.length := List.countP_le_length
theorem takeK (l : List ByteArray) (i : Nat) (h : i < l.length) : l.take (i + 1) = l.take i ++ [rdOf ByteArray.empty l (i : Int)] ∧ rdOf ByteArray.empty l (i : Int) ∈ l := by
  rw [rdOf_eq ByteArray.empty l i h]
  refine ⟨?_, List.getElem_mem _⟩
  rw [List.take_add_one, List.getElem?_eq_getElem h]
  rfl
theorem many_spec (l : List ByteArray) (hl : l.length ≤ 1000000) (key : ByteArray) : Evt (fun k => rillmeterlaw15_many.f k l key) (cnt key l : Int) := by
  have main : ∀ (d i : Nat), i + d = l.length → Evt (fun k => rillmeterlaw15_many.l0 k key (cnt key (l.take i) : Int) l (l.length : Int) (i : Int)) (cnt key l : Int) := by
    intro d
    induction d with
    | zero =>
      intro i hi
      refine Evt.step (Evt.now (f := fun _ => some _) (fun _ => rfl)) (fun k => ?_)
      simp only [rillmeterlaw15_many.l0]
      rw [if_neg (by omega), List.take_of_length_le (by omega)]
    | succ d ih =>
      intro i hi
      obtain ⟨e, _⟩ := takeK l i (by omega)
      have hI := ih (i + 1) (by omega)
      rw [e, cnt_snoc] at hI
      have hc := cnt_le key (l.take i)
      rw [List.length_take] at hc
      refine Evt.step hI (fun k => ?_)
      simp only [rillmeterlaw15_many.l0]
      rw [if_pos (by omega), if_pos (by omega), if_pos (by omega), i64_in ((i : Int) + 1) (by omega) (by omega), show (i : Int) + 1 = ((i + 1 : Nat) : Int) by omega]
      by_cases c : rdOf ByteArray.empty l (i : Int) = key
      · rw [if_pos (tl_inj.2 c), if_pos c, i64_in _ (by omega) (by omega)]
        rfl
      · rw [if_neg (fun g => c (tl_inj.1 g)), if_neg c]
        rfl
  have h := main l.length 0 (by omega)
  exact h.eq (fun k => rfl)
theorem rd_set (B : List S56) (p q : Nat) (y : S56) (hp : p < B.length) : rd_T56 (B.set p y) (q : Int) = if p = q then y else rd_T56 B (q : Int) := by
  unfold rd_T56
  rw [Int.toNat_natCast, List.getD_eq_getElem?_getD, List.getD_eq_getElem?_getD, List.getElem?_set]
  by_cases h : p = q
  · rw [if_pos h, if_pos (by subst h; exact hp), if_pos h]; rfl
  · rw [if_neg h, if_neg h]
theorem rd_no (m : Nat) (i : Int) : rd_T56 (List.replicate m z56) i = z56 := by
  unfold rd_T56
  rw [List.getD_eq_getElem?_getD, List.getElem?_replicate]
  split <;> rfl
theorem noB_len (b : Int) : (noB b).length = b.toNat := List.length_replicate
theorem fed_start {s b r v n c : Int} (h0 : 0 ≤ s) (h1 : s < 18446744073709551616) (g : newOk b r v n c) : Fed s r v 0 (noB b) (noL n c) := by
  obtain ⟨g1, g2, g3, g4, g5, g6, g7, g8, g9, g10⟩ := g
  refine ⟨h0, h1, g3, g4, g5, g6, by rw [noB_len]; omega, by rw [noB_len]; omega, Int.le_refl _, by decide, new_right n.toNat c.toNat 255 (by omega) (by omega) (by omega) (by omega) (by decide) (by decide), fun y hy => ?_⟩
  rw [(List.mem_replicate.1 hy).2]
  exact ⟨by show ((0 : Nat) : Int) ≤ r; omega, ⟨Int.le_refl _, Int.le_refl _⟩, fun e he => (by cases he), List.nodup_nil, fun e he => (by cases he)⟩
/-- how much of what is told belongs to such keys -/
def tot (p : ByteArray → Bool) : List (ByteArray × Int) → Int
  | [] => 0
  | y :: t => (if p y.1 = true then y.2 else 0) + tot p t
theorem tot_app (p : ByteArray → Bool) (b : List (ByteArray × Int)) : ∀ a, tot p (a ++ b) = tot p a + tot p b := by
  intro a
  induction a with
  | nil => show tot p b = 0 + tot p b; omega
  | cons y t ih => show (if p y.1 = true then y.2 else 0) + tot p (t ++ b) = (if p y.1 = true then y.2 else 0) + tot p t + tot p b; rw [ih]; omega
theorem tot_nn (p : ByteArray → Bool) : ∀ l : List (ByteArray × Int), (∀ y ∈ l, 0 ≤ y.2) → 0 ≤ tot p l := by
  intro l
  induction l with
  | nil => intro _; exact Int.le_refl _
  | cons y t ih =>
    intro h
    have h1 := h y (List.mem_cons_self ..)
    have h2 := ih (fun z hz => h z (List.mem_cons_of_mem _ hz))
    simp only [tot]
    split <;> omega
theorem tot_none (p : ByteArray → Bool) : ∀ l : List (ByteArray × Int), (∀ y ∈ l, p y.1 = true → y.2 = 0) → tot p l = 0 := by
  intro l
  induction l with
  | nil => intro _; rfl
  | cons y t ih =>
    intro h
    have h1 := h y (List.mem_cons_self ..)
    have h2 := ih (fun z hz => h z (List.mem_cons_of_mem _ hz))
    simp only [tot]
    by_cases c : p y.1 = true
    · rw [if_pos c, h1 c]; omega
    · rw [if_neg c]; omega
def prE (es : List S76) : List (ByteArray × Int) := es.map (fun e => (e.f0, e.f1))
def prB : List S56 → List (ByteArray × Int)
  | [] => []
  | b :: t => prE b.f0 ++ prB t
theorem rd76_cons (e : S76) (t : List S76) (j : Nat) : rd_T76 (e :: t) ((j + 1 : Nat) : Int) = rd_T76 t (j : Int) := by
  unfold rd_T76
  rw [Int.toNat_natCast, Int.toNat_natCast]
  rfl
theorem rd56_cons (e : S56) (t : List S56) (j : Nat) : rd_T56 (e :: t) ((j + 1 : Nat) : Int) = rd_T56 t (j : Int) := by
  unfold rd_T56
  rw [Int.toNat_natCast, Int.toNat_natCast]
  rfl
theorem tot_setE (p : ByteArray → Bool) (x : S76) : ∀ (es : List S76) (j : Nat), j < es.length → tot p (prE (es.set j x)) = tot p (prE es) - (if p (rd_T76 es (j : Int)).f0 = true then (rd_T76 es (j : Int)).f1 else 0) + (if p x.f0 = true then x.f1 else 0) := by
  intro es
  induction es with
  | nil => intro j h; exact absurd h (Nat.not_lt_zero _)
  | cons e t ih =>
    intro j h
    cases j with
    | zero =>
      show (if p x.f0 = true then x.f1 else 0) + tot p (prE t) = (if p e.f0 = true then e.f1 else 0) + tot p (prE t) - (if p e.f0 = true then e.f1 else 0) + (if p x.f0 = true then x.f1 else 0)
      omega
    | succ j =>
      rw [rd76_cons]
      have := ih j (by simp only [List.length_cons] at h; omega)
      show (if p e.f0 = true then e.f1 else 0) + tot p (prE (t.set j x)) = (if p e.f0 = true then e.f1 else 0) + tot p (prE t) - (if p (rd_T76 t (j : Int)).f0 = true then (rd_T76 t (j : Int)).f1 else 0) + (if p x.f0 = true then x.f1 else 0)
      rw [this]
      omega
theorem tot_setB (p : ByteArray → Bool) (x : S56) : ∀ (B : List S56) (j : Nat), j < B.length → tot p (prB (B.set j x)) = tot p (prB B) - tot p (prE (rd_T56 B (j : Int)).f0) + tot p (prE x.f0) := by
  intro B
  induction B with
  | nil => intro j h; exact absurd h (Nat.not_lt_zero _)
  | cons e t ih =>
    intro j h
    cases j with
    | zero =>
      show tot p (prE x.f0 ++ prB t) = tot p (prE e.f0 ++ prB t) - tot p (prE e.f0) + tot p (prE x.f0)
      rw [tot_app, tot_app]
      omega
    | succ j =>
      rw [rd56_cons]
      have := ih j (by simp only [List.length_cons] at h; omega)
      show tot p (prE e.f0 ++ prB (t.set j x)) = tot p (prE e.f0 ++ prB t) - tot p (prE (rd_T56 t (j : Int)).f0) + tot p (prE x.f0)
      rw [tot_app, tot_app, this]
      omega
/-- the keys that fall on the cell of this one in row j -/
def sameCell (s : Int) (key : ByteArray) (j : Nat) (c : Int) (b : ByteArray) : Bool := decide (hcell (hrow s j) b c = hcell (hrow s j) key c)
def sameKey (key b : ByteArray) : Bool := decide (b = key)
/-- what came: W went to the light ones, the rest is in the buckets -/
structure Bnd (s r c : Int) (m n : Nat) (l : List ByteArray) (B : List S56) (rows : List (List Int)) (W : List (ByteArray × Int)) : Prop where
  sum : ∀ p : ByteArray → Bool, tot p W + tot p (prB B) = (l.countP p : Nat)
  nn : ∀ y ∈ W, 0 ≤ y.2
  val : ∀ j, j < rows.length → ∀ key, valAt (hrow s 1) key rows j = mn (tot (sameCell (hrow s 1) key j c) W) 255
  cols : (colsOf rows : Int) = c
  len : rows.length = m
  pl : ∀ q : Nat, q < n → ∀ e ∈ (rd_T56 B (q : Int)).f0, placeOf s n e.f0 = q
  free : ∀ q : Nat, q < n → ∀ e ∈ (rd_T56 B (q : Int)).f0, e.f2 = false → ∀ y ∈ W, y.1 ≠ e.f0
  low : ∀ q : Nat, q < n → ((rd_T56 B (q : Int)).f0.length : Int) < r → ∀ y ∈ W, placeOf s n y.1 ≠ q
theorem countP_snoc (p : ByteArray → Bool) (l : List ByteArray) (key : ByteArray) : ((l ++ [key]).countP p : Int) = (l.countP p : Int) + (if p key = true then 1 else 0) := by
  rw [List.countP_append, List.countP_singleton]
  split <;> simp
theorem bnd_step {s r c : Int} {m n : Nat} {l : List ByteArray} {B : List S56} {rows rows' : List (List Int)} {W W' : List (ByteArray × Int)} {key : ByteArray} {y' : S56} (hB : B.length = n) (hq : placeOf s n key < n) (h : Bnd s r c m n l B rows W)
    (h1 : ∀ p : ByteArray → Bool, tot p W' + tot p (prE y'.f0) = tot p W + tot p (prE (rd_T56 B (placeOf s n key : Int)).f0) + (if p key = true then 1 else 0))
    (h2 : ∀ y ∈ W', 0 ≤ y.2)
    (h3 : (∀ j, j < rows'.length → ∀ key, valAt (hrow s 1) key rows' j = mn (tot (sameCell (hrow s 1) key j c) W') 255) ∧ (colsOf rows' : Int) = c ∧ rows'.length = m)
    (h4 : ∀ e ∈ y'.f0, e.f0 = key ∨ ∃ e0 ∈ (rd_T56 B (placeOf s n key : Int)).f0, e0.f0 = e.f0)
    (h5 : ∀ e ∈ y'.f0, e.f2 = false → ∀ y ∈ W', y.1 ≠ e.f0)
    (h6 : ∀ y ∈ W', y ∈ W ∨ placeOf s n y.1 = placeOf s n key)
    (h7 : (y'.f0.length : Int) < r → ∀ y ∈ W', placeOf s n y.1 ≠ placeOf s n key) : Bnd s r c m n (l ++ [key]) (B.set (placeOf s n key) y') rows' W' := by
  generalize hqq : placeOf s n key = q at *
  have hset : ∀ q' : Nat, rd_T56 (B.set q y') (q' : Int) = if q = q' then y' else rd_T56 B (q' : Int) := fun q' => rd_set B q q' y' (by omega)
  refine ⟨fun p => ?_, h2, h3.1, h3.2.1, h3.2.2, fun q' hq' e he => ?_, fun q' hq' e he hf y hy => ?_, fun q' hq' hl y hy => ?_⟩
  · have a := h.sum p
    have b := h1 p
    rw [tot_setB p y' B q (by omega), countP_snoc]
    omega
  · rw [hset] at he
    by_cases g : q = q'
    · rw [if_pos g] at he
      rcases h4 e he with e1 | ⟨e0, m0, e1⟩
      · rw [e1, hqq]; exact g
      · rw [← e1, h.pl q hq e0 m0]; exact g
    · rw [if_neg g] at he
      exact h.pl q' hq' e he
  · rw [hset] at he
    by_cases g : q = q'
    · rw [if_pos g] at he
      exact h5 e he hf y hy
    · rw [if_neg g] at he
      rcases h6 y hy with e1 | e1
      · exact h.free q' hq' e he hf y e1
      · intro e2
        rw [e2, h.pl q' hq' e he] at e1
        exact g e1.symm
  · rw [hset] at hl
    by_cases g : q = q'
    · rw [if_pos g] at hl
      rw [← g]
      exact h7 hl y hy
    · rw [if_neg g] at hl
      rcases h6 y hy with e1 | e1
      · exact h.low q' hq' hl y e1
      · rw [e1]; exact g
theorem bnd_rows {s c : Int} {m : Nat} {rows : List (List Int)} {W : List (ByteArray × Int)} (hr : rightL 255 rows) (key : ByteArray) (a : Int) (ha : 0 ≤ a) (hn : ∀ y ∈ W, 0 ≤ y.2)
    (h : (∀ j, j < rows.length → ∀ key, valAt (hrow s 1) key rows j = mn (tot (sameCell (hrow s 1) key j c) W) 255) ∧ (colsOf rows : Int) = c ∧ rows.length = m) :
    (∀ j, j < (addRows (hrow s 1) 255 key a rows).length → ∀ key2, valAt (hrow s 1) key2 (addRows (hrow s 1) 255 key a rows) j = mn (tot (sameCell (hrow s 1) key2 j c) ((key, a) :: W)) 255) ∧ (colsOf (addRows (hrow s 1) 255 key a rows) : Int) = c ∧ (addRows (hrow s 1) 255 key a rows).length = m := by
  refine ⟨fun j hj key2 => ?_, ?_, by rw [addRows_length]; exact h.2.2⟩
  · rw [addRows_length] at hj
    have hl : (rows.getD j []).length = colsOf rows := (hr.2.2.2.2 _ (getD_row rows j hj)).2.2.1
    have hv := valAt_add (hrow s 1) 255 key key2 a rows j hr hj
    unfold cellAt at hv
    rw [hl, h.2.1] at hv
    rw [hv, h.1 j hj key2]
    have ht := tot_nn (sameCell (hrow s 1) key2 j c) W hn
    simp only [tot]
    by_cases e : hcell (hrow (hrow s 1) j) key c = hcell (hrow (hrow s 1) j) key2 c
    · rw [if_pos e.symm, if_pos (show sameCell (hrow s 1) key2 j c key = true from decide_eq_true e)]
      generalize tot (sameCell (hrow s 1) key2 j c) W = z at *
      unfold mn
      split <;> split <;> split <;> omega
    · rw [if_neg (fun x => e x.symm), if_neg (show ¬ sameCell (hrow s 1) key2 j c key = true from fun x => e (of_decide_eq_true x)), Int.zero_add]
  · rw [addRows_cols _ _ _ _ _ hr.2.2.1]; exact h.2.1
theorem mem_set_ne {x e : S76} : ∀ (l : List S76) (j : Nat), e ∈ l.set j x → e = x ∨ ∃ i, i ≠ j ∧ l[i]? = some e := by
  intro l
  induction l with
  | nil => intro j h; cases h
  | cons a t ih =>
    intro j h
    cases j with
    | zero =>
      rcases List.mem_cons.1 h with h | h
      · exact .inl h
      · obtain ⟨i, hi⟩ := List.mem_iff_getElem?.1 h
        exact .inr ⟨i + 1, by omega, by rw [List.getElem?_cons_succ]; exact hi⟩
    | succ j =>
      rcases List.mem_cons.1 h with h | h
      · exact .inr ⟨0, by omega, by rw [h]; rfl⟩
      · rcases ih j h with h | ⟨i, h1, h2⟩
        · exact .inl h
        · exact .inr ⟨i + 1, by omega, by rw [List.getElem?_cons_succ]; exact h2⟩
theorem bnd_snoc {s r v t c : Int} {m n : Nat} {l : List ByteArray} {B : List S56} {rows rows' : List (List Int)} {W : List (ByteArray × Int)} {key : ByteArray} {y' : S56} (hB : B.length = n) (hq : placeOf s n key < n) (hF : Fed s r v t B rows) (h : Bnd s r c m n l B rows W)
    (hA : (∃ j, j < (rd_T56 B (placeOf s n key : Int)).f0.length ∧ (rd_T76 (rd_T56 B (placeOf s n key : Int)).f0 (j : Int)).f0 = key ∧ rows' = rows ∧ y' = ⟨(rd_T56 B (placeOf s n key : Int)).f0.set j ⟨key, (rd_T76 (rd_T56 B (placeOf s n key : Int)).f0 (j : Int)).f1 + 1, (rd_T76 (rd_T56 B (placeOf s n key : Int)).f0 (j : Int)).f2⟩, (rd_T56 B (placeOf s n key : Int)).f1⟩) ∨
       (key ∉ keysE (rd_T56 B (placeOf s n key : Int)).f0 ∧ ((rd_T56 B (placeOf s n key : Int)).f0.length : Int) < r ∧ rows' = rows ∧ y' = ⟨(rd_T56 B (placeOf s n key : Int)).f0 ++ [⟨key, 1, false⟩], (rd_T56 B (placeOf s n key : Int)).f1⟩) ∨
       (key ∉ keysE (rd_T56 B (placeOf s n key : Int)).f0 ∧ r ≤ ((rd_T56 B (placeOf s n key : Int)).f0.length : Int) ∧ ((y' = ⟨(rd_T56 B (placeOf s n key : Int)).f0, (rd_T56 B (placeOf s n key : Int)).f1 + 1⟩ ∧ rows' = addRows (hrow s 1) 255 key 1 rows) ∨
         ∃ j, j < (rd_T56 B (placeOf s n key : Int)).f0.length ∧ y' = ⟨(rd_T56 B (placeOf s n key : Int)).f0.set j ⟨key, 1, true⟩, 0⟩ ∧ rows' = addRows (hrow s 1) 255 (rd_T76 (rd_T56 B (placeOf s n key : Int)).f0 (j : Int)).f0 (rd_T76 (rd_T56 B (placeOf s n key : Int)).f0 (j : Int)).f1 rows))) :
    ∃ W', Bnd s r c m n (l ++ [key]) (B.set (placeOf s n key) y') rows' W' := by
  have hpl := h.pl _ hq
  have hfree := h.free _ hq
  have hlow := h.low _ hq
  have hbk := hF.bs _ (take56 B (placeOf s n key) (by omega)).2
  obtain ⟨b1, b2, b3, b4, b5⟩ := hbk
  have hstep := @bnd_step s r c m n l B rows rows' W (key := key) (y' := y') (hB := hB) (hq := hq) (h := h)
  have hk : ∀ e ∈ (rd_T56 B (placeOf s n key : Int)).f0, e.f0 ∈ keysE (rd_T56 B (placeOf s n key : Int)).f0 := fun e he => List.mem_map_of_mem he
  generalize hes : (rd_T56 B (placeOf s n key : Int)) = y at *
  rcases hA with ⟨j, j1, j2, j3, j4⟩ | ⟨j1, j2, j3, j4⟩ | ⟨j1, j2, ⟨j4, j3⟩ | ⟨j, j0, j4, j3⟩⟩
  · have hmj := (take76 y.f0 j j1).2
    refine ⟨W, hstep (W' := W) (fun p => ?_) h.nn (by rw [j3]; exact ⟨h.val, h.cols, h.len⟩) (fun e he => ?_) (fun e he hf z hz => ?_) (fun z hz => .inl hz) (fun hl => ?_)⟩
    · rw [j4]
      show tot p W + tot p (prE (y.f0.set j _)) = _
      rw [tot_setE p _ y.f0 j j1, j2]
      simp only
      split <;> omega
    · rw [j4] at he
      rcases mem_set76 he with he | he
      · exact .inl (by rw [he])
      · exact .inr ⟨e, he, rfl⟩
    · rw [j4] at he
      rcases mem_set76 he with he | he
      · rw [he] at hf ⊢
        have := hfree _ hmj hf z hz
        rw [j2] at this
        exact this
      · exact hfree e he hf z hz
    · rw [j4] at hl
      simp only [List.length_set] at hl
      exact hlow hl
  · refine ⟨W, hstep (W' := W) (fun p => ?_) h.nn (by rw [j3]; exact ⟨h.val, h.cols, h.len⟩) (fun e he => ?_) (fun e he hf z hz => ?_) (fun z hz => .inl hz) (fun hl => ?_)⟩
    · rw [j4]
      show tot p W + tot p (prE (y.f0 ++ [_])) = _
      unfold prE
      rw [List.map_append, tot_app]
      simp only [List.map_cons, List.map_nil, tot]
      omega
    · rw [j4] at he
      rcases List.mem_append.1 he with he | he
      · exact .inr ⟨e, he, rfl⟩
      · exact .inl (by rw [List.mem_singleton.1 he])
    · rw [j4] at he
      rcases List.mem_append.1 he with he | he
      · exact hfree e he hf z hz
      · rw [List.mem_singleton.1 he]
        intro e2
        exact hlow j2 z hz (by rw [e2])
    · rw [j4] at hl
      simp only [List.length_append, List.length_singleton] at hl
      exact hlow (by omega)
  · have h3 := bnd_rows hF.lt key 1 (by decide) h.nn ⟨h.val, h.cols, h.len⟩
    refine ⟨(key, 1) :: W, hstep (W' := (key, 1) :: W) (fun p => ?_) (fun z hz => ?_) (by rw [j3]; exact h3) (fun e he => ?_) (fun e he hf z hz => ?_) (fun z hz => ?_) (fun hl => ?_)⟩
    · rw [j4]
      simp only [tot]
      omega
    · rcases List.mem_cons.1 hz with hz | hz
      · rw [hz]; show (0 : Int) ≤ 1; decide
      · exact h.nn z hz
    · rw [j4] at he
      exact .inr ⟨e, he, rfl⟩
    · rw [j4] at he
      rcases List.mem_cons.1 hz with hz | hz
      · rw [hz]
        intro e2
        simp only at e2
        exact j1 (by rw [e2]; exact hk e he)
      · exact hfree e he hf z hz
    · rcases List.mem_cons.1 hz with hz | hz
      · right; rw [hz]
      · exact .inl hz
    · rw [j4] at hl
      simp only at hl
      omega
  · have hmj := (take76 y.f0 j j0).2
    have hv := b3 _ hmj
    have h3 := bnd_rows hF.lt (rd_T76 y.f0 (j : Int)).f0 (rd_T76 y.f0 (j : Int)).f1 (by omega) h.nn ⟨h.val, h.cols, h.len⟩
    refine ⟨((rd_T76 y.f0 (j : Int)).f0, (rd_T76 y.f0 (j : Int)).f1) :: W, hstep (W' := ((rd_T76 y.f0 (j : Int)).f0, (rd_T76 y.f0 (j : Int)).f1) :: W) (fun p => ?_) (fun z hz => ?_) (by rw [j3]; exact h3) (fun e he => ?_) (fun e he hf z hz => ?_) (fun z hz => ?_) (fun hl => ?_)⟩
    · rw [j4]
      show _ + tot p (prE (y.f0.set j _)) = _
      rw [tot_setE p _ y.f0 j j0]
      simp only [tot]
      omega
    · rcases List.mem_cons.1 hz with hz | hz
      · rw [hz]; show 0 ≤ (rd_T76 y.f0 (j : Int)).f1; omega
      · exact h.nn z hz
    · rw [j4] at he
      rcases mem_set76 he with he | he
      · exact .inl (by rw [he])
      · exact .inr ⟨e, he, rfl⟩
    · rw [j4] at he
      rcases mem_set_ne _ _ he with he | ⟨i, hi, he⟩
      · rw [he] at hf; cases hf
      · rcases List.mem_cons.1 hz with hz | hz
        · rw [hz]
          intro e2
          simp only at e2
          have k1 : (keysE y.f0)[i]? = some e.f0 := by unfold keysE; rw [List.getElem?_map, he]; rfl
          have k2 : (keysE y.f0)[j]? = some e.f0 := by unfold keysE; rw [List.getElem?_map, rd76 y.f0 j j0, ← e2]; rfl
          have hil : j < (keysE y.f0).length := by unfold keysE; rw [List.length_map]; exact j0
          exact hi ((List.getElem?_inj hil b4).1 (k2.trans k1.symm)).symm
        · exact hfree e (List.mem_of_getElem? he) hf z hz
    · rcases List.mem_cons.1 hz with hz | hz
      · right; rw [hz]; exact hpl _ hmj
      · exact .inl hz
    · rw [j4] at hl
      simp only [List.length_set] at hl
      omega
theorem prB_no (m : Nat) : prB (List.replicate m z56) = [] := by
  induction m with
  | zero => rfl
  | succ m ih => rw [List.replicate_succ]; show prE z56.f0 ++ prB (List.replicate m z56) = []; rw [ih]; rfl
theorem valAt_zero (s : Int) (key : ByteArray) (n c j : Nat) : valAt s key (List.replicate n (List.replicate c 0)) j = 0 := by
  unfold valAt
  generalize (cellAt s key j ((List.replicate n (List.replicate c (0 : Int))).getD j [])).toNat = q
  by_cases h : j < n
  · by_cases g : q < c
    · simp [List.getD_eq_getElem?_getD, h, g]
    · simp [List.getD_eq_getElem?_getD, h, g]
  · simp [List.getD_eq_getElem?_getD, h]
theorem bnd_start {s b r v n c : Int} (g : newOk b r v n c) : Bnd s r c n.toNat b.toNat [] (noB b) (noL n c) [] := by
  obtain ⟨g1, g2, g3, g4, g5, g6, g7, g8, g9, g10⟩ := g
  have hz : ∀ p : Nat, rd_T56 (noB b) (p : Int) = z56 := fun p => rd_no _ _
  refine ⟨fun p => ?_, fun y hy => (by cases hy), fun j _ key => ?_, ?_, List.length_replicate, fun p _ e he => (by rw [hz] at he; cases he), fun p _ e he => (by rw [hz] at he; cases he), fun p _ _ y hy => (by cases hy)⟩
  · unfold noB; rw [prB_no]; rfl
  · unfold noL; rw [valAt_zero]; rfl
  · unfold colsOf noL
    obtain ⟨m, hm⟩ : ∃ m, n.toNat = m + 1 := ⟨n.toNat - 1, by omega⟩
    rw [hm, List.replicate_succ]
    show ((List.replicate c.toNat (0 : Int)).length : Int) = c
    rw [List.length_replicate]; omega
theorem fedb_l0 {s r v c : Int} {m n : Nat} (l : List ByteArray) (hl : l.length ≤ 300) (hk : ∀ x ∈ l, x.size ≤ 100) : ∀ (d i : Nat) (B : List S56) (rows : List (List Int)) (W : List (ByteArray × Int)), i + d = l.length → Fed s r v i B rows → B.length = n → Bnd s r c m n (l.take i) B rows W →
    ∃ B' rows' W', Evt (fun k => rillmeterlaw15_fed.l0 k l (l.length : Int) (i : Int) s r v B (hrow s 1) 255 rows) (s, r, v, B', hrow s 1, 255, rows', true) ∧ Fed s r v l.length B' rows' ∧ B'.length = n ∧ Bnd s r c m n l B' rows' W' := by
  intro d
  induction d with
  | zero =>
    intro i B rows W hi hF hB hE
    have e : i = l.length := by omega
    subst e
    rw [List.take_length] at hE
    refine ⟨B, rows, W, Evt.step (Evt.now (f := fun _ => some _) (fun _ => rfl)) (fun k => ?_), hF, hB, hE⟩
    simp only [rillmeterlaw15_fed.l0]
    rw [if_neg (by omega)]
  | succ d ih =>
    intro i B rows W hi hF hB hE
    obtain ⟨e, hm⟩ := takeK l i (by omega)
    have hx := hk _ hm
    obtain ⟨y', rows', ⟨m1, e1⟩, hF', hA⟩ := add_fed hF (by omega) (rdOf ByteArray.empty l (i : Int)) (by omega)
    rw [hB] at e1 hF' hA
    have hn1 : 1 ≤ n := by have := hF.b0; omega
    have hpl := (place_lt s n (rdOf ByteArray.empty l (i : Int)) hn1).1
    obtain ⟨W1, hW1⟩ := bnd_snoc hB hpl hF hE hA
    rw [← e] at hW1
    obtain ⟨B', R', W', ⟨m2, e2⟩, q1, q2, q3⟩ := ih (i + 1) (B.set (placeOf s n (rdOf ByteArray.empty l (i : Int))) y') rows' W1 (by omega) (show Fed s r v ((i + 1 : Nat) : Int) _ _ from (show ((i + 1 : Nat) : Int) = (i : Int) + 1 by omega) ▸ hF') (by rw [List.length_set]; exact hB) hW1
    refine ⟨B', R', W', ⟨m1 + m2 + 1, fun k hk => ?_⟩, q1, q2, q3⟩
    obtain ⟨k, rfl⟩ : ∃ z, k = z + 1 := ⟨k - 1, by omega⟩
    have e1 := e1 k (by omega)
    have e2 := e2 k (by omega)
    simp only at e1 e2
    simp only [rillmeterlaw15_fed.l0]
    rw [if_pos (by omega), if_pos (by omega), if_pos (by omega), e1, Option.bind_some, i64_in ((i : Int) + 1) (by omega) (by omega), show (i : Int) + 1 = ((i + 1 : Nat) : Int) by omega]
    exact e2
def shortK (l : List ByteArray) : Prop := (l.length : Int) ≤ 300 ∧ ∀ s ∈ l, s.size ≤ 100
theorem fedb_ok {s b r v n c : Int} (h0 : 0 ≤ s) (h1 : s < 18446744073709551616) (g : newOk b r v n c) (l : List ByteArray) (hl : shortK l) :
    ∃ B rows W, Evt (fun k => rillmeterlaw15_fed.f k s b r v n c l) (s, r, v, B, hrow s 1, 255, rows, true) ∧ Fed s r v l.length B rows ∧ B.length = b.toNat ∧ Bnd s r c n.toNat b.toNat l B rows W := by
  obtain ⟨B, rows, W, ⟨m2, e2⟩, q1, q2, q3⟩ := fedb_l0 (n := b.toNat) l (by have := hl.1; omega) hl.2 l.length 0 (noB b) (noL n c) [] (by omega) (fed_start h0 h1 g) (noB_len b) (by rw [List.take_zero]; exact bnd_start g)
  obtain ⟨m1, e1⟩ := elnew_spec s b r v n c h0 h1
  rw [if_pos g] at e1
  refine ⟨B, rows, W, ⟨m1 + m2 + 1003, fun k hk => ?_⟩, q1, q2, q3⟩
  obtain ⟨k, rfl⟩ : ∃ z, k = z + 1 := ⟨k - 1, by omega⟩
  have e1 := e1 (k + 1) (by omega)
  have e2 := e2 k (by omega)
  simp only at e1 e2
  simp only [rillmeterlaw15_fed.f]
  rw [e1, Option.bind_some]
  simp only
  rw [if_pos trivial, short_spec (k + 1) l 300 ⟨by decide, by decide⟩ (by omega), decide_eq_true (show (l.length : Int) ≤ 300 ∧ ∀ s ∈ l, s.size ≤ 100 from hl), Option.bind_some, Bool.not_true]
  simp only [rillmeterlaw15_fed.j0]
  rw [if_neg (by decide)]
  exact e2
theorem fed_no {s b r v n c : Int} (h0 : 0 ≤ s) (h1 : s < 18446744073709551616) (l : List ByteArray) (h : ¬ (newOk b r v n c ∧ shortK l)) :
    ∃ R, Evt (fun k => rillmeterlaw15_fed.f k s b r v n c l) R ∧ R.2.2.2.2.2.2.2 = false := by
  obtain ⟨m1, e1⟩ := elnew_spec s b r v n c h0 h1
  by_cases g : newOk b r v n c
  · have hl : ¬ shortK l := fun q => h ⟨g, q⟩
    rw [if_pos g] at e1
    refine ⟨(s, r, v, noB b, hrow s 1, 255, noL n c, false), ⟨m1 + 1003, fun k hk => ?_⟩, rfl⟩
    obtain ⟨k, rfl⟩ : ∃ z, k = z + 1 := ⟨k - 1, by omega⟩
    have e1 := e1 (k + 1) (by omega)
    simp only at e1
    simp only [rillmeterlaw15_fed.f]
    rw [e1, Option.bind_some]
    simp only
    rw [if_pos trivial, short_spec (k + 1) l 300 ⟨by decide, by decide⟩ (by omega), decide_eq_false (show ¬ ((l.length : Int) ≤ 300 ∧ ∀ s ∈ l, s.size ≤ 100) from hl), Option.bind_some, Bool.not_false]
    simp only [rillmeterlaw15_fed.j0]
    rw [if_pos trivial]
  · rw [if_neg g] at e1
    refine ⟨(0, 0, 0, [], 0, 0, [], false), ⟨m1 + 1, fun k hk => ?_⟩, rfl⟩
    obtain ⟨k, rfl⟩ : ∃ z, k = z + 1 := ⟨k - 1, by omega⟩
    have e1 := e1 (k + 1) (by omega)
    simp only at e1
    simp only [rillmeterlaw15_fed.f]
    rw [e1, Option.bind_some]
    simp only
    rw [if_neg (by decide)]
    simp only [rillmeterlaw15_fed.j0]
    rw [if_pos trivial]
/-- the votes of a key are all that is kept of it -/
theorem kept {s r t c v : Int} {m n : Nat} {l : List ByteArray} {B : List S56} {rows : List (List Int)} {W : List (ByteArray × Int)} (hB : B.length = n) (hF : Fed s r v t B rows) (h : Bnd s r c m n l B rows W) (key : ByteArray) (hq : placeOf s n key < n) :
    tot (sameKey key) (prB B) = tot (sameKey key) (prE (rd_T56 B (placeOf s n key : Int)).f0) := by
  have e := tot_setB (sameKey key) z56 B (placeOf s n key) (by omega)
  have z : tot (sameKey key) (prE z56.f0) = 0 := rfl
  have main : ∀ B' : List S56, (∀ y ∈ B', ∀ e ∈ y.f0, e.f0 ≠ key) → tot (sameKey key) (prB B') = 0 := by
    intro B'
    induction B' with
    | nil => intro _; rfl
    | cons y u ih =>
      intro hh
      show tot (sameKey key) (prE y.f0 ++ prB u) = 0
      rw [tot_app, ih (fun z hz => hh z (List.mem_cons_of_mem _ hz)), tot_none]
      · rfl
      · intro w hw g
        obtain ⟨e, he, rfl⟩ := List.mem_map.1 hw
        exact absurd (of_decide_eq_true g) (hh y (List.mem_cons_self ..) e he)
  have h0 : tot (sameKey key) (prB (B.set (placeOf s n key) z56)) = 0 := by
    apply main
    intro y hy e he g
    obtain ⟨i, hi⟩ := List.mem_iff_getElem?.1 hy
    rw [List.getElem?_set] at hi
    by_cases c1 : placeOf s n key = i
    · rw [if_pos c1, if_pos (by omega)] at hi
      rw [← Option.some.inj hi] at he
      cases he
    · rw [if_neg c1] at hi
      have hlt : i < B.length := by
        rcases Nat.lt_or_ge i B.length with q | q
        · exact q
        · rw [List.getElem?_eq_none q] at hi; cases hi
      have : y = rd_T56 B (i : Int) := by
        have := rd56 B i hlt
        rw [hi] at this
        exact Option.some.inj this
      rw [this] at he
      have := h.pl i (by omega) e he
      rw [g] at this
      exact c1 this
  omega
theorem kept_at (key : ByteArray) (es : List S76) (h : (keysE es).Nodup) : (key ∉ keysE es → tot (sameKey key) (prE es) = 0) ∧ ∀ j, j < es.length → (rd_T76 es (j : Int)).f0 = key → tot (sameKey key) (prE es) = (rd_T76 es (j : Int)).f1 := by
  have hno : ∀ es : List S76, (∀ e ∈ es, e.f0 = key → e.f1 = 0) → tot (sameKey key) (prE es) = 0 := fun es hh => tot_none _ _ (fun w hw g => by
    obtain ⟨e, he, rfl⟩ := List.mem_map.1 hw
    exact hh e he (of_decide_eq_true g))
  refine ⟨fun g => hno es (fun e he q => absurd (show key ∈ keysE es by rw [← q]; exact List.mem_map_of_mem he) g), fun j hj g => ?_⟩
  have e := tot_setE (sameKey key) ⟨key, 0, false⟩ es j hj
  have z := hno (es.set j ⟨key, 0, false⟩) (fun e he q => by
    rcases mem_set_ne _ _ he with he | ⟨i, hi, he⟩
    · rw [he]
    · have k1 : (keysE es)[i]? = some key := by unfold keysE; rw [List.getElem?_map, he, ← q]; rfl
      have k2 : (keysE es)[j]? = some key := by unfold keysE; rw [List.getElem?_map, rd76 es j hj, ← g]; rfl
      have hil : j < (keysE es).length := by unfold keysE; rw [List.length_map]; exact hj
      exact absurd ((List.getElem?_inj hil h).1 (k2.trans k1.symm)).symm hi)
  rw [if_pos (show sameKey key (rd_T76 es (j : Int)).f0 = true from decide_eq_true g), if_pos (show sameKey key key = true from decide_eq_true rfl)] at e
  simp only at e
  omega
theorem Evt.step5 {α : Type} {f g : Nat → Option α} {r : α} (h : Evt g r) (e : ∀ k, 9 ≤ k → f (k + 1) = g k) : Evt f r := by
  obtain ⟨n, h⟩ := h
  refine ⟨n + 10, fun k hk => ?_⟩
  obtain ⟨k, rfl⟩ : ∃ z, k = z + 1 := ⟨k - 1, by omega⟩
  rw [e k (by omega)]
  exact h k (by omega)
def cmp2 (a b : Int) : Int := if a < b then -1 else if a > b then 1 else 0
def cmpI (a b : S68) : Int := if cmp2 b.f1 a.f1 = 0 then Lib.compareBytes a.f0.data.toList b.f0.data.toList else cmp2 b.f1 a.f1
theorem cmp2_spec (a b : Int) : cmp_Compare_int.f a b = some (cmp2 a b) := by
  unfold cmp_Compare_int.f cmp_isNaN_int.f cmp2
  rw [bne_self_eq_false, bne_self_eq_false, Option.bind_some, Option.bind_some, if_neg (by decide), if_neg (by decide)]
  split
  · rfl
  · split <;> rfl
theorem or_spec (t u : Int) : ∀ k, 5 ≤ k → cmp_Or_int.f k [t, u] = some (if t = 0 then u else t) := by
  intro k hk
  obtain ⟨k, rfl⟩ : ∃ z, k = z + 3 := ⟨k - 3, by omega⟩
  have hl : (([t, u] : List Int).length : Int) = 2 := rfl
  have s0 : ∀ k, cmp_Or_int.l0 (k + 1) 0 [t, u] 2 0 = (if t = 0 then cmp_Or_int.l0 k 0 [t, u] 2 1 else some t) := fun k => by
    simp only [cmp_Or_int.l0]
    rw [hl, if_pos (by decide), if_pos (by decide), if_pos (by decide), show rd [t, u] 0 = t from rfl, i64_in (0 + 1) (by decide) (by decide)]
    rfl
  have s1 : ∀ k, cmp_Or_int.l0 (k + 1) 0 [t, u] 2 1 = (if u = 0 then cmp_Or_int.l0 k 0 [t, u] 2 2 else some u) := fun k => by
    simp only [cmp_Or_int.l0]
    rw [hl, if_pos (by decide), if_pos (by decide), if_pos (by decide), show rd [t, u] 1 = u from rfl, i64_in (1 + 1) (by decide) (by decide)]
    rfl
  have s2 : ∀ k, cmp_Or_int.l0 (k + 1) 0 [t, u] 2 2 = some 0 := fun k => by
    simp only [cmp_Or_int.l0]
    rw [if_neg (by decide)]
  show cmp_Or_int.l0 (k + 2 + 1) 0 [t, u] 2 0 = _
  rw [s0, s1, s2]
  by_cases c : t = 0
  · rw [if_pos c, if_pos c]
    by_cases d : u = 0
    · rw [if_pos d, d]
    · rw [if_neg d]
  · rw [if_neg c, if_neg c]
theorem cmp_spec (a b : S68) : ∀ k, 5 ≤ k → elastic_List_1.f k a.f0 a.f1 b.f0 b.f1 = some (cmpI a b) := by
  intro k hk
  unfold elastic_List_1.f strings_Compare.f
  rw [cmp2_spec, Option.bind_some, Option.bind_some, or_spec _ _ k hk]
  rfl
theorem rd68 (l : List S68) (i : Nat) (h : i < l.length) : rd_T68 l (i : Int) = l[i] := by
  unfold rd_T68
  rw [Int.toNat_natCast, List.getD_eq_getElem?_getD, List.getElem?_eq_getElem h]
  rfl
theorem swap_perm (x : List S68) (i j : Nat) (hi : i < x.length) (hj : j < x.length) : ((x.set i (rd_T68 x (j : Int))).set j (rd_T68 x (i : Int))).Perm x := by
  rw [rd68 x i hi, rd68 x j hj]
  exact List.set_set_perm hi hj
theorem half (i j : Nat) (hi : i ≤ 100000) (hj : j ≤ 100000) : wrap64 ((IntKind.u64.wrap (wrap64 ((i : Int) + (j : Int)))) / 2) = (((i + j) / 2 : Nat) : Int) := by
  rw [i64_in ((i : Int) + j) (by omega) (by omega), u64_in ((i : Int) + j) (by omega) (by omega), i64_in _ (by omega) (by omega)]
  omega
theorem ins_l0 (a b : Nat) : ∀ (d i : Nat) (x : List S68), x.length ≤ 10000 → b ≤ x.length → b ≤ i + d → a ≤ i → i ≤ x.length → ∃ x', Evt (fun k => heavy_Item_76.l0 k x (a : Int) (b : Int) (i : Int)) x' ∧ x'.Perm x := by
  intro d
  induction d with
  | zero =>
    intro i x hx hb hi ha hl
    refine ⟨x, Evt.step (Evt.now (f := fun _ => some _) (fun _ => rfl)) (fun k => ?_), List.Perm.refl _⟩
    simp only [heavy_Item_76.l0]
    rw [if_neg (by omega)]
  | succ d ih =>
    intro i x hx hb hi ha hl
    by_cases c : i < b
    · have inner : ∀ (e : Nat) (x : List S68), x.length ≤ 10000 → b ≤ x.length → a + e < x.length → ∃ x', Evt (fun k => heavy_Item_76.l1 k x (a : Int) (b : Int) (i : Int) ((a + e : Nat) : Int)) x' ∧ x'.Perm x := by
        intro e
        induction e with
        | zero =>
          intro x hx hb hl
          obtain ⟨x', h1, h2⟩ := ih (i + 1) x hx hb (by omega) (by omega) (by omega)
          refine ⟨x', Evt.step h1 (fun k => ?_), h2⟩
          simp only [heavy_Item_76.l1]
          rw [if_neg (by omega), i64_in ((i : Int) + 1) (by omega) (by omega), show (i : Int) + 1 = ((i + 1 : Nat) : Int) by omega]
        | succ e ihe =>
          intro x hx hb hl
          have op : ∀ k, 9 ≤ k → heavy_Item_76.l1 (k + 1) x (a : Int) (b : Int) (i : Int) ((a + (e + 1) : Nat) : Int) = (if cmpI (rd_T68 x ((a + (e + 1) : Nat) : Int)) (rd_T68 x ((a + e : Nat) : Int)) < 0 then heavy_Item_76.l1 k ((x.set (a + (e + 1)) (rd_T68 x ((a + e : Nat) : Int))).set (a + e) (rd_T68 x ((a + (e + 1) : Nat) : Int))) (a : Int) (b : Int) (i : Int) ((a + e : Nat) : Int) else heavy_Item_76.l0 k x (a : Int) (b : Int) ((i + 1 : Nat) : Int)) := by
            intro k hk
            simp only [heavy_Item_76.l1]
            rw [i64_in (((a + (e + 1) : Nat) : Int) - 1) (by omega) (by omega), show ((a + (e + 1) : Nat) : Int) - 1 = ((a + e : Nat) : Int) by omega, if_pos (by omega), if_pos (by omega), if_pos (by omega), if_pos (by omega), if_pos (by omega), cmp_spec _ _ k (by omega), Option.bind_some, i64_in ((i : Int) + 1) (by omega) (by omega), show (i : Int) + 1 = ((i + 1 : Nat) : Int) by omega, Int.toNat_natCast, Int.toNat_natCast]
          by_cases g : cmpI (rd_T68 x ((a + (e + 1) : Nat) : Int)) (rd_T68 x ((a + e : Nat) : Int)) < 0
          · obtain ⟨x', h1, h2⟩ := ihe ((x.set (a + (e + 1)) (rd_T68 x ((a + e : Nat) : Int))).set (a + e) (rd_T68 x ((a + (e + 1) : Nat) : Int))) (by simp only [List.length_set]; exact hx) (by simp only [List.length_set]; exact hb) (by simp only [List.length_set]; omega)
            exact ⟨x', Evt.step5 h1 (fun k hk => (op k hk).trans (if_pos g)), h2.trans (swap_perm x _ _ (by omega) (by omega))⟩
          · obtain ⟨x', h1, h2⟩ := ih (i + 1) x hx hb (by omega) (by omega) (by omega)
            exact ⟨x', Evt.step5 h1 (fun k hk => (op k hk).trans (if_neg g)), h2⟩
      obtain ⟨x', h1, h2⟩ := inner (i - a) x hx hb (by omega)
      refine ⟨x', Evt.step h1 (fun k => ?_), h2⟩
      simp only [heavy_Item_76.l0]
      rw [if_pos (by omega), show ((a + (i - a) : Nat) : Int) = (i : Int) by omega]
    · refine ⟨x, Evt.step (Evt.now (f := fun _ => some _) (fun _ => rfl)) (fun k => ?_), List.Perm.refl _⟩
      simp only [heavy_Item_76.l0]
      rw [if_neg (by omega)]
theorem ins_spec (a b : Nat) (x : List S68) (hx : x.length ≤ 10000) (hab : a ≤ b) (hb : b ≤ x.length) : ∃ x', Evt (fun k => heavy_Item_76.f k x (a : Int) (b : Int)) x' ∧ x'.Perm x := by
  by_cases c : a + 1 ≤ x.length
  · obtain ⟨x', h1, h2⟩ := ins_l0 a b (b - a) (a + 1) x hx hb (by omega) (by omega) c
    refine ⟨x', h1.eq (fun k => ?_), h2⟩
    unfold heavy_Item_76.f
    rw [i64_in ((a : Int) + 1) (by omega) (by omega)]
    rfl
  · refine ⟨x, Evt.step (Evt.now (f := fun _ => some _) (fun _ => rfl)) (fun k => ?_), List.Perm.refl _⟩
    simp only [heavy_Item_76.f, heavy_Item_76.l0]
    rw [i64_in ((a : Int) + 1) (by omega) (by omega), if_neg (by omega)]
theorem swr_l0 (a b n : Nat) : ∀ (d i : Nat) (x : List S68), x.length ≤ 10000 → i + d = n → a + n ≤ x.length → b + n ≤ x.length → ∃ x', Evt (fun k => heavy_Item_86.l0 k x (a : Int) (b : Int) (n : Int) (i : Int)) x' ∧ x'.Perm x := by
  intro d
  induction d with
  | zero =>
    intro i x hx hi ha hb
    refine ⟨x, Evt.step (Evt.now (f := fun _ => some _) (fun _ => rfl)) (fun k => ?_), List.Perm.refl _⟩
    simp only [heavy_Item_86.l0]
    rw [if_neg (by omega)]
  | succ d ih =>
    intro i x hx hi ha hb
    obtain ⟨x', h1, h2⟩ := ih (i + 1) ((x.set (a + i) (rd_T68 x ((b + i : Nat) : Int))).set (b + i) (rd_T68 x ((a + i : Nat) : Int))) (by simp only [List.length_set]; exact hx) (by omega) (by simp only [List.length_set]; exact ha) (by simp only [List.length_set]; exact hb)
    refine ⟨x', Evt.step h1 (fun k => ?_), h2.trans (swap_perm x _ _ (by omega) (by omega))⟩
    simp only [heavy_Item_86.l0]
    rw [i64_in ((a : Int) + i) (by omega) (by omega), i64_in ((b : Int) + i) (by omega) (by omega), i64_in ((i : Int) + 1) (by omega) (by omega), show (i : Int) + 1 = ((i + 1 : Nat) : Int) by omega, show (a : Int) + i = ((a + i : Nat) : Int) by omega, show (b : Int) + i = ((b + i : Nat) : Int) by omega, if_pos (by omega), if_pos (by omega), if_pos (by omega), if_pos (by omega), if_pos (by omega), Int.toNat_natCast, Int.toNat_natCast]
theorem swr_spec (a b n : Nat) (x : List S68) (hx : x.length ≤ 10000) (ha : a + n ≤ x.length) (hb : b + n ≤ x.length) : ∃ x', Evt (fun k => heavy_Item_86.f k x (a : Int) (b : Int) (n : Int)) x' ∧ x'.Perm x := by
  obtain ⟨x', h1, h2⟩ := swr_l0 a b n n 0 x hx (by omega) ha hb
  exact ⟨x', h1.eq (fun k => rfl), h2⟩
theorem rot_l0 (m : Nat) : ∀ (N i j : Nat) (x : List S68), x.length ≤ 10000 → i + j ≤ N → 1 ≤ i → 1 ≤ j → i ≤ m → m + j ≤ x.length → ∃ x', Evt (fun k => heavy_Item_85.l0 k x (m : Int) (i : Int) (j : Int)) x' ∧ x'.Perm x := by
  intro N
  induction N with
  | zero => intro i j x _ h1 h2; omega
  | succ N ih =>
    intro i j x hx hN hi hj him hmj
    by_cases c : i = j
    · obtain ⟨x', ⟨m1, h1⟩, h2⟩ := swr_spec (m - i) m i x hx (by omega) (by omega)
      refine ⟨x', ⟨m1 + 1, fun k hk => ?_⟩, h2⟩
      obtain ⟨k, rfl⟩ : ∃ z, k = z + 1 := ⟨k - 1, by omega⟩
      have h1 := h1 k (by omega)
      simp only at h1
      simp only [heavy_Item_85.l0]
      rw [if_pos (by omega), i64_in ((m : Int) - i) (by omega) (by omega), show (m : Int) - i = ((m - i : Nat) : Int) by omega, h1, Option.bind_some]
    · by_cases c2 : i > j
      · obtain ⟨x1, ⟨m1, h1⟩, h2⟩ := swr_spec (m - i) m j x hx (by omega) (by omega)
        have hl := h2.length_eq
        obtain ⟨x2, ⟨m2, h3⟩, h4⟩ := ih (i - j) j x1 (by omega) (by omega) (by omega) hj (by omega) (by omega)
        refine ⟨x2, ⟨m1 + m2 + 1, fun k hk => ?_⟩, h4.trans h2⟩
        obtain ⟨k, rfl⟩ : ∃ z, k = z + 1 := ⟨k - 1, by omega⟩
        have h1 := h1 k (by omega)
        have h3 := h3 k (by omega)
        simp only at h1 h3
        simp only [heavy_Item_85.l0]
        rw [if_neg (by omega), if_pos (by omega), i64_in ((m : Int) - i) (by omega) (by omega), show (m : Int) - i = ((m - i : Nat) : Int) by omega, h1, Option.bind_some, i64_in ((i : Int) - j) (by omega) (by omega), show (i : Int) - j = ((i - j : Nat) : Int) by omega, h3]
      · obtain ⟨x1, ⟨m1, h1⟩, h2⟩ := swr_spec (m - i) (m + j - i) i x hx (by omega) (by omega)
        have hl := h2.length_eq
        obtain ⟨x2, ⟨m2, h3⟩, h4⟩ := ih i (j - i) x1 (by omega) (by omega) hi (by omega) him (by omega)
        refine ⟨x2, ⟨m1 + m2 + 1, fun k hk => ?_⟩, h4.trans h2⟩
        obtain ⟨k, rfl⟩ : ∃ z, k = z + 1 := ⟨k - 1, by omega⟩
        have h1 := h1 k (by omega)
        have h3 := h3 k (by omega)
        simp only at h1 h3
        simp only [heavy_Item_85.l0]
        rw [if_neg (by omega), if_neg (by omega), i64_in ((m : Int) - i) (by omega) (by omega), show (m : Int) - i = ((m - i : Nat) : Int) by omega, i64_in ((m : Int) + j) (by omega) (by omega), i64_in ((m : Int) + j - i) (by omega) (by omega), show (m : Int) + j - i = ((m + j - i : Nat) : Int) by omega, h1, Option.bind_some, i64_in ((j : Int) - i) (by omega) (by omega), show (j : Int) - i = ((j - i : Nat) : Int) by omega, h3]
theorem rot_spec (a m b : Nat) (x : List S68) (hx : x.length ≤ 10000) (h1 : a < m) (h2 : m < b) (h3 : b ≤ x.length) : ∃ x', Evt (fun k => heavy_Item_85.f k x (a : Int) (m : Int) (b : Int)) x' ∧ x'.Perm x := by
  obtain ⟨x', h4, h5⟩ := rot_l0 m (m - a + (b - m)) (m - a) (b - m) x hx (by omega) (by omega) (by omega) (by omega) (by omega)
  refine ⟨x', h4.eq (fun k => ?_), h5⟩
  unfold heavy_Item_85.f
  rw [i64_in ((m : Int) - a) (by omega) (by omega), i64_in ((b : Int) - m) (by omega) (by omega), show (m : Int) - a = ((m - a : Nat) : Int) by omega, show (b : Int) - m = ((b - m : Nat) : Int) by omega]
theorem sm_l1 (i : Nat) : ∀ (d t : Nat) (x : List S68), x.length ≤ 10000 → i ≤ t + d + 1 → 1 ≤ i → i ≤ x.length → ∃ x', Evt (fun k => heavy_Item_77.l1 k x (i : Int) (t : Int)) x' ∧ x'.Perm x := by
  intro d
  induction d with
  | zero =>
    intro t x hx hi h1 h2
    refine ⟨x, Evt.step (Evt.now (f := fun _ => some _) (fun _ => rfl)) (fun k => ?_), List.Perm.refl _⟩
    simp only [heavy_Item_77.l1]
    rw [i64_in ((i : Int) - 1) (by omega) (by omega), if_neg (by omega)]
  | succ d ih =>
    intro t x hx hi h1 h2
    by_cases c : t + 1 < i
    · obtain ⟨x', h3, h4⟩ := ih (t + 1) ((x.set t (rd_T68 x ((t + 1 : Nat) : Int))).set (t + 1) (rd_T68 x (t : Int))) (by simp only [List.length_set]; exact hx) (by omega) h1 (by simp only [List.length_set]; exact h2)
      refine ⟨x', Evt.step h3 (fun k => ?_), h4.trans (swap_perm x _ _ (by omega) (by omega))⟩
      simp only [heavy_Item_77.l1]
      rw [i64_in ((i : Int) - 1) (by omega) (by omega), i64_in ((t : Int) + 1) (by omega) (by omega), show (t : Int) + 1 = ((t + 1 : Nat) : Int) by omega, if_pos (by omega), if_pos (by omega), if_pos (by omega), if_pos (by omega), if_pos (by omega), Int.toNat_natCast, Int.toNat_natCast]
    · refine ⟨x, Evt.step (Evt.now (f := fun _ => some _) (fun _ => rfl)) (fun k => ?_), List.Perm.refl _⟩
      simp only [heavy_Item_77.l1]
      rw [i64_in ((i : Int) - 1) (by omega) (by omega), if_neg (by omega)]
theorem sm_l3 (i : Nat) : ∀ (d t : Nat) (x : List S68), x.length ≤ 10000 → t ≤ i + d → t < x.length → ∃ x', Evt (fun k => heavy_Item_77.l3 k x (i : Int) (t : Int)) x' ∧ x'.Perm x := by
  intro d
  induction d with
  | zero =>
    intro t x hx hi h1
    refine ⟨x, Evt.step (Evt.now (f := fun _ => some _) (fun _ => rfl)) (fun k => ?_), List.Perm.refl _⟩
    simp only [heavy_Item_77.l3]
    rw [if_neg (by omega)]
  | succ d ih =>
    intro t x hx hi h1
    by_cases c : t > i
    · obtain ⟨t, rfl⟩ : ∃ z, t = z + 1 := ⟨t - 1, by omega⟩
      obtain ⟨x', h3, h4⟩ := ih t ((x.set (t + 1) (rd_T68 x (t : Int))).set t (rd_T68 x ((t + 1 : Nat) : Int))) (by simp only [List.length_set]; exact hx) (by omega) (by simp only [List.length_set]; omega)
      refine ⟨x', Evt.step h3 (fun k => ?_), h4.trans (swap_perm x _ _ (by omega) (by omega))⟩
      simp only [heavy_Item_77.l3]
      rw [i64_in (((t + 1 : Nat) : Int) - 1) (by omega) (by omega), show ((t + 1 : Nat) : Int) - 1 = (t : Int) by omega, if_pos (by omega), if_pos (by omega), if_pos (by omega), if_pos (by omega), if_pos (by omega), Int.toNat_natCast, Int.toNat_natCast]
    · refine ⟨x, Evt.step (Evt.now (f := fun _ => some _) (fun _ => rfl)) (fun k => ?_), List.Perm.refl _⟩
      simp only [heavy_Item_77.l3]
      rw [if_neg (by omega)]
theorem sm_l0 (a : Nat) (x : List S68) (hx : x.length ≤ 10000) (ha : a < x.length) : ∀ (d i j : Nat), j ≤ i + d → i ≤ j → j ≤ x.length → 1 ≤ i → ∃ x', Evt (fun k => heavy_Item_77.l0 k x (a : Int) (i : Int) (j : Int)) x' ∧ x'.Perm x := by
  have out : ∀ i j : Nat, ¬ i < j → 1 ≤ i → i ≤ x.length → ∃ x', Evt (fun k => heavy_Item_77.l0 k x (a : Int) (i : Int) (j : Int)) x' ∧ x'.Perm x := by
    intro i j c h1 h2
    obtain ⟨x', h3, h4⟩ := sm_l1 i i a x hx (by omega) h1 h2
    refine ⟨x', Evt.step h3 (fun k => ?_), h4⟩
    simp only [heavy_Item_77.l0]
    rw [if_neg (by omega)]
  intro d
  induction d with
  | zero => intro i j hd hij hj hi; exact out i j (by omega) hi (by omega)
  | succ d ih =>
    intro i j hd hij hj hi
    by_cases c : i < j
    · have op : ∀ k, 9 ≤ k → heavy_Item_77.l0 (k + 1) x (a : Int) (i : Int) (j : Int) = (if cmpI (rd_T68 x (((i + j) / 2 : Nat) : Int)) (rd_T68 x (a : Int)) < 0 then heavy_Item_77.l0 k x (a : Int) (((i + j) / 2 + 1 : Nat) : Int) (j : Int) else heavy_Item_77.l0 k x (a : Int) (i : Int) (((i + j) / 2 : Nat) : Int)) := by
        intro k hk
        simp only [heavy_Item_77.l0]
        rw [half i j (by omega) (by omega), i64_in ((((i + j) / 2 : Nat) : Int) + 1) (by omega) (by omega), show (((i + j) / 2 : Nat) : Int) + 1 = (((i + j) / 2 + 1 : Nat) : Int) by omega, if_pos (by omega), if_pos (by omega), if_pos (by omega), if_pos (by omega), if_pos (by omega), cmp_spec _ _ k (by omega), Option.bind_some]
      by_cases g : cmpI (rd_T68 x (((i + j) / 2 : Nat) : Int)) (rd_T68 x (a : Int)) < 0
      · obtain ⟨x', h1, h2⟩ := ih ((i + j) / 2 + 1) j (by omega) (by omega) hj (by omega)
        exact ⟨x', Evt.step5 h1 (fun k hk => (op k hk).trans (if_pos g)), h2⟩
      · obtain ⟨x', h1, h2⟩ := ih i ((i + j) / 2) (by omega) (by omega) (by omega) hi
        exact ⟨x', Evt.step5 h1 (fun k hk => (op k hk).trans (if_neg g)), h2⟩
    · exact out i j c hi (by omega)
theorem sm_l2 (m : Nat) (x : List S68) (hx : x.length ≤ 10000) (hm : m < x.length) : ∀ (d i j : Nat), j ≤ i + d → i ≤ j → j ≤ m → ∃ x', Evt (fun k => heavy_Item_77.l2 k x (m : Int) (i : Int) (j : Int)) x' ∧ x'.Perm x := by
  have out : ∀ i j : Nat, ¬ i < j → ∃ x', Evt (fun k => heavy_Item_77.l2 k x (m : Int) (i : Int) (j : Int)) x' ∧ x'.Perm x := by
    intro i j c
    obtain ⟨x', h3, h4⟩ := sm_l3 i m m x hx (by omega) hm
    refine ⟨x', Evt.step h3 (fun k => ?_), h4⟩
    simp only [heavy_Item_77.l2]
    rw [if_neg (by omega)]
  intro d
  induction d with
  | zero => intro i j hd hij hj; exact out i j (by omega)
  | succ d ih =>
    intro i j hd hij hj
    by_cases c : i < j
    · have op : ∀ k, 9 ≤ k → heavy_Item_77.l2 (k + 1) x (m : Int) (i : Int) (j : Int) = (if cmpI (rd_T68 x (m : Int)) (rd_T68 x (((i + j) / 2 : Nat) : Int)) < 0 then heavy_Item_77.l2 k x (m : Int) (i : Int) (((i + j) / 2 : Nat) : Int) else heavy_Item_77.l2 k x (m : Int) (((i + j) / 2 + 1 : Nat) : Int) (j : Int)) := by
        intro k hk
        simp only [heavy_Item_77.l2]
        rw [half i j (by omega) (by omega), i64_in ((((i + j) / 2 : Nat) : Int) + 1) (by omega) (by omega), show (((i + j) / 2 : Nat) : Int) + 1 = (((i + j) / 2 + 1 : Nat) : Int) by omega, if_pos (by omega), if_pos (by omega), if_pos (by omega), if_pos (by omega), if_pos (by omega), cmp_spec _ _ k (by omega), Option.bind_some]
      by_cases g : cmpI (rd_T68 x (m : Int)) (rd_T68 x (((i + j) / 2 : Nat) : Int)) < 0
      · obtain ⟨x', h1, h2⟩ := ih i ((i + j) / 2) (by omega) (by omega) (by omega)
        exact ⟨x', Evt.step5 h1 (fun k hk => (op k hk).trans (if_pos g)), h2⟩
      · obtain ⟨x', h1, h2⟩ := ih ((i + j) / 2 + 1) j (by omega) (by omega) hj
        exact ⟨x', Evt.step5 h1 (fun k hk => (op k hk).trans (if_neg g)), h2⟩
    · exact out i j c
theorem sm_spec : ∀ (N a m b : Nat) (x : List S68), x.length ≤ 10000 → b ≤ a + N → a < m → m < b → b ≤ x.length → ∃ x', Evt (fun k => heavy_Item_77.f k x (a : Int) (m : Int) (b : Int)) x' ∧ x'.Perm x := by
  intro N
  induction N with
  | zero => intro a m b x _ h1 h2 h3; omega
  | succ N ih =>
    intro a m b x hx hN ham hmb hb
    have wa : wrap64 ((m : Int) - a) = (m : Int) - a := i64_in _ (by omega) (by omega)
    have wb : wrap64 ((b : Int) - m) = (b : Int) - m := i64_in _ (by omega) (by omega)
    by_cases c1 : m = a + 1
    · obtain ⟨x', h1, h2⟩ := sm_l0 a x hx (by omega) (b - m) m b (by omega) (by omega) hb (by omega)
      refine ⟨x', Evt.step h1 (fun k => ?_), h2⟩
      simp only [heavy_Item_77.f]
      rw [wa, if_pos (by omega)]
    · by_cases c2 : b = m + 1
      · obtain ⟨x', h1, h2⟩ := sm_l2 m x hx (by omega) (m - a) a m (by omega) (by omega) (by omega)
        refine ⟨x', Evt.step h1 (fun k => ?_), h2⟩
        simp only [heavy_Item_77.f]
        rw [wa, wb, if_neg (by omega), if_pos (by omega)]
      · obtain ⟨mid, hmid⟩ : ∃ z, z = (a + b) / 2 := ⟨_, rfl⟩
        -- both halves
        have j8 : ∀ (x : List S68) (st en : Nat) (c : Bool), x.length ≤ 10000 → b ≤ x.length → (c = true → a < st ∧ st < mid) → ∃ x', Evt (fun k => heavy_Item_77.j8 k x (a : Int) (b : Int) (mid : Int) (st : Int) (en : Int) c) x' ∧ x'.Perm x := by
          intro x st en c hx hb hc
          have right : ∀ x : List S68, x.length ≤ 10000 → b ≤ x.length → ∃ x' : List S68, Evt (fun k => if (mid : Int) < (en : Int) then (if (en : Int) < (b : Int) then ((heavy_Item_77.f k x (mid : Int) (en : Int) (b : Int)).bind fun t => some t) else some x) else some x) x' ∧ x'.Perm x := by
            intro x hx hb
            by_cases g1 : mid < en
            · by_cases g2 : en < b
              · obtain ⟨x', ⟨m1, h1⟩, h2⟩ := ih mid en b x hx (by omega) g1 g2 hb
                refine ⟨x', ⟨m1, fun k hk => ?_⟩, h2⟩
                have h1 := h1 k hk
                simp only at h1
                show (if (mid : Int) < (en : Int) then _ else _) = _
                rw [if_pos (by omega), if_pos (by omega), h1]
                rfl
              · refine ⟨x, ⟨0, fun k hk => ?_⟩, List.Perm.refl _⟩
                show (if (mid : Int) < (en : Int) then _ else _) = _
                rw [if_pos (by omega), if_neg (by omega)]
            · refine ⟨x, ⟨0, fun k hk => ?_⟩, List.Perm.refl _⟩
              show (if (mid : Int) < (en : Int) then _ else _) = _
              rw [if_neg (by omega)]
          cases c with
          | true =>
            obtain ⟨g1, g2⟩ := hc rfl
            obtain ⟨x1, ⟨m1, h1⟩, h2⟩ := ih a st mid x hx (by omega) g1 g2 (by omega)
            have hl := h2.length_eq
            obtain ⟨x2, ⟨m2, h3⟩, h4⟩ := right x1 (by omega) (by omega)
            refine ⟨x2, ⟨m1 + m2 + 1, fun k hk => ?_⟩, h4.trans h2⟩
            obtain ⟨k, rfl⟩ : ∃ z, k = z + 1 := ⟨k - 1, by omega⟩
            have h1 := h1 k (by omega)
            have h3 := h3 k (by omega)
            simp only at h1 h3
            simp only [heavy_Item_77.j8]
            rw [if_pos trivial, h1, Option.bind_some]
            exact h3
          | false =>
            obtain ⟨x2, h3, h4⟩ := right x hx hb
            refine ⟨x2, Evt.step h3 (fun k => ?_), h4⟩
            simp only [heavy_Item_77.j8]
            rw [if_neg (by decide)]
        have j7 : ∀ (x : List S68) (st en : Nat), x.length ≤ 10000 → b ≤ x.length → ∃ x', Evt (fun k => heavy_Item_77.j7 k x (a : Int) (b : Int) (mid : Int) (st : Int) (en : Int)) x' ∧ x'.Perm x := by
          intro x st en hx hb
          by_cases g : a < st
          · obtain ⟨x', h1, h2⟩ := j8 x st en (decide ((st : Int) < (mid : Int))) hx hb (fun q => ⟨g, by have := of_decide_eq_true q; omega⟩)
            refine ⟨x', Evt.step h1 (fun k => ?_), h2⟩
            simp only [heavy_Item_77.j7]
            rw [if_pos (by omega)]
          · obtain ⟨x', h1, h2⟩ := j8 x st en false hx hb (fun q => by cases q)
            refine ⟨x', Evt.step h1 (fun k => ?_), h2⟩
            simp only [heavy_Item_77.j7]
            rw [if_neg (by omega)]
        have j6 : ∀ (st en : Nat) (c : Bool), (c = true → st < m ∧ m < en ∧ en ≤ b) → ∃ x', Evt (fun k => heavy_Item_77.j6 k x (a : Int) (m : Int) (b : Int) (mid : Int) (st : Int) (en : Int) c) x' ∧ x'.Perm x := by
          intro st en c hc
          cases c with
          | true =>
            obtain ⟨g1, g2, g3⟩ := hc rfl
            obtain ⟨x1, ⟨m1, h1⟩, h2⟩ := rot_spec st m en x hx g1 g2 (by omega)
            have hl := h2.length_eq
            obtain ⟨x2, ⟨m2, h3⟩, h4⟩ := j7 x1 st en (by omega) (by omega)
            refine ⟨x2, ⟨m1 + m2 + 1, fun k hk => ?_⟩, h4.trans h2⟩
            obtain ⟨k, rfl⟩ : ∃ z, k = z + 1 := ⟨k - 1, by omega⟩
            have h1 := h1 k (by omega)
            have h3 := h3 k (by omega)
            simp only at h1 h3
            simp only [heavy_Item_77.j6]
            rw [if_pos trivial, h1, Option.bind_some, h3]
          | false =>
            obtain ⟨x2, h3, h4⟩ := j7 x st en hx hb
            refine ⟨x2, Evt.step h3 (fun k => ?_), h4⟩
            simp only [heavy_Item_77.j6]
            rw [if_neg (by decide)]
        have l4 : ∀ (lo hi n : Nat), hi ≤ b → hi ≤ n → n ≤ lo + b → 1 ≤ n → n ≤ 30000 → ∀ (d st r : Nat), r ≤ st + d → lo ≤ st → st ≤ r → r ≤ hi → ∃ x', Evt (fun k => heavy_Item_77.l4 k x (a : Int) (m : Int) (b : Int) (mid : Int) (n : Int) (st : Int) (r : Int) ((n : Int) - 1)) x' ∧ x'.Perm x := by
          intro lo hi n e1 e2 e3 e0 e9
          have out : ∀ st r : Nat, ¬ st < r → lo ≤ st → st ≤ hi → ∃ x', Evt (fun k => heavy_Item_77.l4 k x (a : Int) (m : Int) (b : Int) (mid : Int) (n : Int) (st : Int) (r : Int) ((n : Int) - 1)) x' ∧ x'.Perm x := by
            intro st r g g1 g2
            by_cases g3 : st < m
            · obtain ⟨x', h1, h2⟩ := j6 st (n - st) (decide ((m : Int) < ((n - st : Nat) : Int))) (fun q => ⟨g3, by have := of_decide_eq_true q; omega, by omega⟩)
              refine ⟨x', Evt.step h1 (fun k => ?_), h2⟩
              simp only [heavy_Item_77.l4]
              rw [if_neg (by omega), i64_in ((n : Int) - st) (by omega) (by omega), show (n : Int) - st = ((n - st : Nat) : Int) by omega, if_pos (by omega)]
            · obtain ⟨x', h1, h2⟩ := j6 st (n - st) false (fun q => by cases q)
              refine ⟨x', Evt.step h1 (fun k => ?_), h2⟩
              simp only [heavy_Item_77.l4]
              rw [if_neg (by omega), i64_in ((n : Int) - st) (by omega) (by omega), show (n : Int) - st = ((n - st : Nat) : Int) by omega, if_neg (by omega)]
          intro d
          induction d with
          | zero => intro st r h1 h2 h3 h4; exact out st r (by omega) h2 (by omega)
          | succ d ihd =>
            intro st r h1 h2 h3 h4
            by_cases g : st < r
            · have op : ∀ k, 9 ≤ k → heavy_Item_77.l4 (k + 1) x (a : Int) (m : Int) (b : Int) (mid : Int) (n : Int) (st : Int) (r : Int) ((n : Int) - 1) = (if cmpI (rd_T68 x ((n - 1 - (st + r) / 2 : Nat) : Int)) (rd_T68 x (((st + r) / 2 : Nat) : Int)) < 0 then heavy_Item_77.l4 k x (a : Int) (m : Int) (b : Int) (mid : Int) (n : Int) (st : Int) (((st + r) / 2 : Nat) : Int) ((n : Int) - 1) else heavy_Item_77.l4 k x (a : Int) (m : Int) (b : Int) (mid : Int) (n : Int) (((st + r) / 2 + 1 : Nat) : Int) (r : Int) ((n : Int) - 1)) := by
                intro k hk
                simp only [heavy_Item_77.l4]
                rw [half st r (by omega) (by omega), i64_in ((n : Int) - 1 - (((st + r) / 2 : Nat) : Int)) (by omega) (by omega), show (n : Int) - 1 - (((st + r) / 2 : Nat) : Int) = ((n - 1 - (st + r) / 2 : Nat) : Int) by omega, i64_in ((((st + r) / 2 : Nat) : Int) + 1) (by omega) (by omega), show (((st + r) / 2 : Nat) : Int) + 1 = (((st + r) / 2 + 1 : Nat) : Int) by omega, if_pos (by omega), if_pos (by omega), if_pos (by omega), if_pos (by omega), if_pos (by omega), cmp_spec _ _ k (by omega), Option.bind_some]
              by_cases g5 : cmpI (rd_T68 x ((n - 1 - (st + r) / 2 : Nat) : Int)) (rd_T68 x (((st + r) / 2 : Nat) : Int)) < 0
              · obtain ⟨x', q1, q2⟩ := ihd st ((st + r) / 2) (by omega) h2 (by omega) (by omega)
                exact ⟨x', Evt.step5 q1 (fun k hk => (op k hk).trans (if_pos g5)), q2⟩
              · obtain ⟨x', q1, q2⟩ := ihd ((st + r) / 2 + 1) r (by omega) (by omega) (by omega) h4
                exact ⟨x', Evt.step5 q1 (fun k hk => (op k hk).trans (if_neg g5)), q2⟩
            · exact out st r g h2 (by omega)
        have wn : wrap64 ((mid : Int) + m) = ((mid + m : Nat) : Int) := by rw [i64_in _ (by omega) (by omega)]; omega
        have wp : wrap64 (((mid + m : Nat) : Int) - 1) = ((mid + m : Nat) : Int) - 1 := i64_in _ (by omega) (by omega)
        by_cases c3 : m > mid
        · obtain ⟨x', h1, h2⟩ := l4 (mid + m - b) mid (mid + m) (by omega) (by omega) (by omega) (by omega) (by omega) mid (mid + m - b) mid (by omega) (by omega) (by omega) (by omega)
          refine ⟨x', Evt.step (Evt.step h1 (g := fun k => heavy_Item_77.l4 k x (a : Int) (m : Int) (b : Int) (mid : Int) ((mid + m : Nat) : Int) ((mid + m - b : Nat) : Int) (mid : Int) (((mid + m : Nat) : Int) - 1)) (f := fun k => heavy_Item_77.j4 k x (a : Int) (m : Int) (b : Int) (mid : Int) ((mid + m : Nat) : Int) ((mid + m - b : Nat) : Int) (mid : Int)) (fun k => ?_)) (fun k => ?_), h2⟩
          · simp only [heavy_Item_77.j4]
            rw [wp]
          · simp only [heavy_Item_77.f]
            rw [wa, wb, if_neg (by omega), if_neg (by omega), half a b (by omega) (by omega), ← hmid, wn, i64_in (((mid + m : Nat) : Int) - b) (by omega) (by omega), show ((mid + m : Nat) : Int) - b = ((mid + m - b : Nat) : Int) by omega, if_pos (by omega)]
        · obtain ⟨x', h1, h2⟩ := l4 a m (mid + m) (by omega) (by omega) (by omega) (by omega) (by omega) m a m (by omega) (by omega) (by omega) (by omega)
          refine ⟨x', Evt.step (Evt.step h1 (g := fun k => heavy_Item_77.l4 k x (a : Int) (m : Int) (b : Int) (mid : Int) ((mid + m : Nat) : Int) (a : Int) (m : Int) (((mid + m : Nat) : Int) - 1)) (f := fun k => heavy_Item_77.j4 k x (a : Int) (m : Int) (b : Int) (mid : Int) ((mid + m : Nat) : Int) (a : Int) (m : Int)) (fun k => ?_)) (fun k => ?_), h2⟩
          · simp only [heavy_Item_77.j4]
            rw [wp]
          · simp only [heavy_Item_77.f]
            rw [wa, wb, if_neg (by omega), if_neg (by omega), half a b (by omega) (by omega), ← hmid, wn, if_neg (by omega)]
theorem st_l1 (n : Nat) : ∀ (N bs : Nat) (x : List S68), x.length = n → n ≤ 10000 → n ≤ bs + N → 20 ≤ bs → bs ≤ 20000 → ∃ x', Evt (fun k => heavy_Item_59.l1 k x (n : Int) (bs : Int)) x' ∧ x'.Perm x := by
  intro N
  induction N with
  | zero =>
    intro bs x hx hn hN h1 h2
    refine ⟨x, Evt.step (Evt.now (f := fun _ => some _) (fun _ => rfl)) (fun k => ?_), List.Perm.refl _⟩
    simp only [heavy_Item_59.l1]
    rw [if_neg (by omega)]
  | succ N ih =>
    intro bs x hx hn hN h1 h2
    by_cases c : bs < n
    · have w2 : wrap64 (2 * (bs : Int)) = ((2 * bs : Nat) : Int) := by rw [i64_in _ (by omega) (by omega)]; omega
      have w3 : wrap64 ((bs : Int) * 2) = ((bs * 2 : Nat) : Int) := by rw [i64_in _ (by omega) (by omega)]; omega
      have l2 : ∀ (d a : Nat) (x : List S68), x.length = n → n ≤ a + d → a ≤ n → ∃ x', Evt (fun k => heavy_Item_59.l2 k x (n : Int) (bs : Int) (a : Int) ((a + 2 * bs : Nat) : Int)) x' ∧ x'.Perm x := by
        intro d
        have last : ∀ (a : Nat) (x : List S68), x.length = n → a ≤ n → ¬ a + 2 * bs ≤ n → ∃ x', Evt (fun k => heavy_Item_59.l2 k x (n : Int) (bs : Int) (a : Int) ((a + 2 * bs : Nat) : Int)) x' ∧ x'.Perm x := by
          intro a x hx ha g
          by_cases g2 : a + bs < n
          · obtain ⟨x1, ⟨m1, q1⟩, q2⟩ := sm_spec n a (a + bs) n x (by omega) (by omega) (by omega) g2 (by omega)
            have hl := q2.length_eq
            obtain ⟨x2, ⟨m2, q3⟩, q4⟩ := ih (bs * 2) x1 (by omega) hn (by omega) (by omega) (by omega)
            refine ⟨x2, ⟨m1 + m2 + 1, fun k hk => ?_⟩, q4.trans q2⟩
            obtain ⟨k, rfl⟩ : ∃ z, k = z + 1 := ⟨k - 1, by omega⟩
            have q1 := q1 k (by omega)
            have q3 := q3 k (by omega)
            simp only at q1 q3
            simp only [heavy_Item_59.l2]
            rw [if_neg (by omega), i64_in ((a : Int) + bs) (by omega) (by omega), show (a : Int) + bs = ((a + bs : Nat) : Int) by omega, if_pos (by omega), q1, Option.bind_some, w3, q3]
          · obtain ⟨x2, q3, q4⟩ := ih (bs * 2) x hx hn (by omega) (by omega) (by omega)
            refine ⟨x2, Evt.step q3 (fun k => ?_), q4⟩
            simp only [heavy_Item_59.l2]
            rw [if_neg (by omega), i64_in ((a : Int) + bs) (by omega) (by omega), if_neg (by omega), w3]
        induction d with
        | zero => intro a x hx h3 h4; exact last a x hx h4 (by omega)
        | succ d ihd =>
          intro a x hx h3 h4
          by_cases g : a + 2 * bs ≤ n
          · obtain ⟨x1, ⟨m1, q1⟩, q2⟩ := sm_spec n a (a + bs) (a + 2 * bs) x (by omega) (by omega) (by omega) (by omega) (by omega)
            have hl := q2.length_eq
            obtain ⟨x2, ⟨m2, q3⟩, q4⟩ := ihd (a + 2 * bs) x1 (by omega) (by omega) g
            refine ⟨x2, ⟨m1 + m2 + 1, fun k hk => ?_⟩, q4.trans q2⟩
            obtain ⟨k, rfl⟩ : ∃ z, k = z + 1 := ⟨k - 1, by omega⟩
            have q1 := q1 k (by omega)
            have q3 := q3 k (by omega)
            simp only at q1 q3
            simp only [heavy_Item_59.l2]
            rw [if_pos (by omega), i64_in ((a : Int) + bs) (by omega) (by omega), show (a : Int) + bs = ((a + bs : Nat) : Int) by omega, q1, Option.bind_some, w2, i64_in (((a + 2 * bs : Nat) : Int) + ((2 * bs : Nat) : Int)) (by omega) (by omega), show ((a + 2 * bs : Nat) : Int) + ((2 * bs : Nat) : Int) = ((a + 2 * bs + 2 * bs : Nat) : Int) by omega, q3]
          · exact last a x hx h4 g
      obtain ⟨x', q1, q2⟩ := l2 n 0 x hx (by omega) (by omega)
      refine ⟨x', Evt.step q1 (fun k => ?_), q2⟩
      simp only [heavy_Item_59.l1]
      rw [if_pos (by omega), w2, show ((0 + 2 * bs : Nat) : Int) = ((2 * bs : Nat) : Int) by omega]
      rfl
    · refine ⟨x, Evt.step (Evt.now (f := fun _ => some _) (fun _ => rfl)) (fun k => ?_), List.Perm.refl _⟩
      simp only [heavy_Item_59.l1]
      rw [if_neg (by omega)]
theorem sort_spec (x : List S68) (hx : x.length ≤ 10000) : ∃ x', Evt (fun k => heavy_Item_34.f k x) x' ∧ x'.Perm x := by
  obtain ⟨n, hn⟩ : ∃ n, n = x.length := ⟨_, rfl⟩
  have l0 : ∀ (d a : Nat) (x : List S68), x.length = n → n ≤ a + d → a ≤ n → ∃ x', Evt (fun k => heavy_Item_59.l0 k x (n : Int) 20 (a : Int) ((a + 20 : Nat) : Int)) x' ∧ x'.Perm x := by
    intro d
    have last : ∀ (a : Nat) (x : List S68), x.length = n → a ≤ n → ¬ a + 20 ≤ n → ∃ x', Evt (fun k => heavy_Item_59.l0 k x (n : Int) 20 (a : Int) ((a + 20 : Nat) : Int)) x' ∧ x'.Perm x := by
      intro a x hx2 ha g
      obtain ⟨x1, ⟨m1, q1⟩, q2⟩ := ins_spec a n x (by omega) ha (by omega)
      have hl := q2.length_eq
      obtain ⟨x2, ⟨m2, q3⟩, q4⟩ := st_l1 n n 20 x1 (by omega) (by omega) (by omega) (by omega) (by omega)
      refine ⟨x2, ⟨m1 + m2 + 1, fun k hk => ?_⟩, q4.trans q2⟩
      obtain ⟨k, rfl⟩ : ∃ z, k = z + 1 := ⟨k - 1, by omega⟩
      have q1 := q1 k (by omega)
      have q3 := q3 k (by omega)
      simp only at q1 q3
      simp only [heavy_Item_59.l0]
      rw [if_neg (by omega), q1, Option.bind_some]
      exact q3
    induction d with
    | zero => intro a x hx2 h3 h4; exact last a x hx2 h4 (by omega)
    | succ d ihd =>
      intro a x hx2 h3 h4
      by_cases g : a + 20 ≤ n
      · obtain ⟨x1, ⟨m1, q1⟩, q2⟩ := ins_spec a (a + 20) x (by omega) (by omega) (by omega)
        have hl := q2.length_eq
        obtain ⟨x2, ⟨m2, q3⟩, q4⟩ := ihd (a + 20) x1 (by omega) (by omega) g
        refine ⟨x2, ⟨m1 + m2 + 1, fun k hk => ?_⟩, q4.trans q2⟩
        obtain ⟨k, rfl⟩ : ∃ z, k = z + 1 := ⟨k - 1, by omega⟩
        have q1 := q1 k (by omega)
        have q3 := q3 k (by omega)
        simp only at q1 q3
        simp only [heavy_Item_59.l0]
        rw [if_pos (by omega), q1, Option.bind_some, i64_in (((a + 20 : Nat) : Int) + 20) (by omega) (by omega), show ((a + 20 : Nat) : Int) + 20 = ((a + 20 + 20 : Nat) : Int) by omega, q3]
      · exact last a x hx2 h4 g
  obtain ⟨x', ⟨m1, q1⟩, q2⟩ := l0 n 0 x hn.symm (by omega) (by omega)
  refine ⟨x', ⟨m1, fun k hk => ?_⟩, q2⟩
  have q1 := q1 k hk
  simp only at q1
  unfold heavy_Item_34.f heavy_Item_59.f
  rw [← hn]
  exact (congrArg (fun o => Option.bind o (fun t => some t)) q1).trans rfl
def entsE (most : Int) (es : List S76) : List S68 := (es.filter (fun e => decide (most ≤ e.f1))).map (fun e => ⟨e.f0, e.f1⟩)
def items (most : Int) : List S56 → List S68
  | [] => []
  | b :: t => entsE most b.f0 ++ items most t
theorem items_snoc (most : Int) (b : S56) : ∀ B : List S56, items most (B ++ [b]) = items most B ++ entsE most b.f0 := by
  intro B
  induction B with
  | nil => show entsE most b.f0 ++ [] = [] ++ entsE most b.f0; rw [List.append_nil]; rfl
  | cons c t ih => show entsE most c.f0 ++ items most (t ++ [b]) = (entsE most c.f0 ++ items most t) ++ entsE most b.f0; rw [ih, List.append_assoc]
theorem entsE_snoc (most : Int) (e : S76) (es : List S76) : entsE most (es ++ [e]) = entsE most es ++ (if most ≤ e.f1 then [⟨e.f0, e.f1⟩] else []) := by
  unfold entsE
  rw [List.filter_append, List.map_append]
  by_cases c : most ≤ e.f1
  · rw [if_pos c, List.filter_cons_of_pos (by exact decide_eq_true c)]; rfl
  · rw [if_neg c, List.filter_cons_of_neg (by simpa using c)]; rfl
theorem entsE_len (most : Int) (es : List S76) : (entsE most es).length ≤ es.length := by
  unfold entsE
  rw [List.length_map]
  exact List.length_filter_le _ _
theorem items_len (most : Int) (m : Nat) : ∀ B : List S56, (∀ b ∈ B, b.f0.length ≤ m) → (items most B).length ≤ B.length * m := by
  intro B
  induction B with
  | nil => intro _; exact Nat.zero_le _
  | cons b t ih =>
    intro h
    have h1 := h b (List.mem_cons_self ..)
    have h2 := ih (fun z hz => h z (List.mem_cons_of_mem _ hz))
    have h3 := entsE_len most b.f0
    show (entsE most b.f0 ++ items most t).length ≤ (t.length + 1) * m
    rw [List.length_append, Nat.add_mul]
    omega
theorem items_mem {most : Int} {x : S68} : ∀ {B : List S56}, x ∈ items most B → ∃ b ∈ B, ∃ e ∈ b.f0, x.f0 = e.f0 ∧ x.f1 = e.f1 ∧ most ≤ e.f1 := by
  intro B
  induction B with
  | nil => intro h; cases h
  | cons b t ih =>
    intro h
    rcases List.mem_append.1 h with h | h
    · obtain ⟨e, he, rfl⟩ := List.mem_map.1 h
      obtain ⟨h1, h2⟩ := List.mem_filter.1 he
      exact ⟨b, List.mem_cons_self .., e, h1, rfl, rfl, of_decide_eq_true h2⟩
    · obtain ⟨b', hb, r⟩ := ih h
      exact ⟨b', List.mem_cons_of_mem _ hb, r⟩
/-- a list's entries, sorted -/
theorem list_spec {s r v t : Int} {B : List S56} {rows : List (List Int)} (h : Fed s r v t B rows) (most : Int) : ∃ x', Evt (fun k => elastic_List.f k s r v B (hrow s 1) 255 rows most) x' ∧ x'.Perm (items most B) := by
  have hl8 : ∀ b ∈ B, b.f0.length ≤ 8 := fun b hb => by have := (h.bs b hb).1; have := h.r1; omega
  have hb1 := h.b1
  have l0 : ∀ (d i : Nat), i + d = B.length → ∃ x', Evt (fun k => elastic_List.l0 k most (items most (B.take i)) B (B.length : Int) (i : Int)) x' ∧ x'.Perm (items most B) := by
    intro d
    induction d with
    | zero =>
      intro i hi
      have hlen := items_len most 8 B hl8
      obtain ⟨x', ⟨m1, h1⟩, h2⟩ := sort_spec (items most B) (by omega)
      refine ⟨x', ⟨m1 + 1, fun k hk => ?_⟩, h2⟩
      obtain ⟨k, rfl⟩ : ∃ z, k = z + 1 := ⟨k - 1, by omega⟩
      have h1 := h1 k (by omega)
      simp only at h1
      simp only [elastic_List.l0]
      rw [if_neg (by omega), List.take_of_length_le (by omega), h1, Option.bind_some]
    | succ d ih =>
      intro i hi
      obtain ⟨e1, hm⟩ := take56 B i (by omega)
      have hl := hl8 _ hm
      have hacc := items_len most 8 (B.take i) (fun b hb => hl8 b (List.mem_of_mem_take hb))
      rw [List.length_take] at hacc
      obtain ⟨x', hn, hp⟩ := ih (i + 1) (by omega)
      rw [e1, items_snoc] at hn
      generalize hy : rd_T56 B (i : Int) = y at *
      have l1 : ∀ (d j : Nat), j + d = y.f0.length → Evt (fun k => elastic_List.l1 k most (items most (B.take i) ++ entsE most (y.f0.take j)) B (B.length : Int) (i : Int) y.f0 (y.f0.length : Int) (j : Int)) x' := by
        intro d
        induction d with
        | zero =>
          intro j hj
          refine Evt.step hn (fun k => ?_)
          simp only [elastic_List.l1]
          rw [if_neg (by omega), List.take_of_length_le (l := y.f0) (by omega), i64_in ((i : Int) + 1) (by omega) (by omega), show (i : Int) + 1 = ((i + 1 : Nat) : Int) by omega]
        | succ d ihd =>
          intro j hj
          obtain ⟨e2, _⟩ := take76 y.f0 j (by omega)
          have h1 := ihd (j + 1) (by omega)
          rw [e2, entsE_snoc] at h1
          have hj2 := entsE_len most (y.f0.take j)
          rw [List.length_take] at hj2
          refine Evt.step h1 (fun k => ?_)
          simp only [elastic_List.l1]
          rw [if_pos (by omega), if_pos (by omega), if_pos (by omega), i64_in ((j : Int) + 1) (by omega) (by omega), show (j : Int) + 1 = ((j + 1 : Nat) : Int) by omega]
          by_cases c : most ≤ (rd_T76 y.f0 (j : Int)).f1
          · rw [if_pos (show (rd_T76 y.f0 (j : Int)).f1 ≥ most from c), if_pos (by rw [List.length_append]; omega), if_pos c, List.append_assoc]
          · rw [if_neg (show ¬ (rd_T76 y.f0 (j : Int)).f1 ≥ most from c), if_neg c, List.append_nil]
      have h1 := l1 y.f0.length 0 (by omega)
      rw [List.take_zero, show entsE most [] = [] from rfl, List.append_nil] at h1
      refine ⟨x', Evt.step h1 (fun k => ?_), hp⟩
      simp only [elastic_List.l0]
      rw [if_pos (by omega), if_pos (by omega), if_pos (by omega), hy]
      rfl
  obtain ⟨x', ⟨m1, h1⟩, h2⟩ := l0 B.length 0 (by omega)
  refine ⟨x', ⟨m1 + 300, fun k hk => ?_⟩, h2⟩
  have h1 := h1 k (by omega)
  simp only at h1
  show (elastic_List.f k s r v B (hrow s 1) 255 rows most) = some x'
  unfold elastic_List.f
  rw [right_fed h k (by omega), Option.bind_some, if_pos rfl]
  exact h1
def sumI : List S68 → Int
  | [] => 0
  | x :: t => x.f1 + sumI t
theorem sumI_perm {a b : List S68} (h : a.Perm b) : sumI a = sumI b := by
  induction h with
  | nil => rfl
  | cons x _ ih => show x.f1 + sumI _ = x.f1 + sumI _; rw [ih]
  | swap x y l => show y.f1 + (x.f1 + sumI l) = x.f1 + (y.f1 + sumI l); omega
  | trans _ _ h1 h2 => rw [h1, h2]
theorem sumI_app (b : List S68) : ∀ a, sumI (a ++ b) = sumI a + sumI b := by
  intro a
  induction a with
  | nil => show sumI b = 0 + sumI b; omega
  | cons x t ih => show x.f1 + sumI (t ++ b) = x.f1 + sumI t + sumI b; rw [ih]; omega
theorem sumI_nn : ∀ a : List S68, (∀ x ∈ a, 1 ≤ x.f1) → 0 ≤ sumI a := by
  intro a
  induction a with
  | nil => intro _; exact Int.le_refl _
  | cons x t ih =>
    intro h
    have h1 := h x (List.mem_cons_self ..)
    have h2 := ih (fun z hz => h z (List.mem_cons_of_mem _ hz))
    show 0 ≤ x.f1 + sumI t
    omega
theorem take68 (l : List S68) (i : Nat) (h : i < l.length) : l.take (i + 1) = l.take i ++ [rd_T68 l (i : Int)] ∧ rd_T68 l (i : Int) ∈ l := by
  rw [rd68 l i h]
  refine ⟨?_, List.getElem_mem _⟩
  rw [List.take_add_one, List.getElem?_eq_getElem h]
  rfl
theorem sum_items (B : List S56) (h : ∀ b ∈ B, ∀ e ∈ b.f0, 1 ≤ e.f1) : sumI (items 0 B) = tot (fun _ => true) (prB B) := by
  induction B with
  | nil => rfl
  | cons b t ih =>
    have h1 := h b (List.mem_cons_self ..)
    have h2 := ih (fun z hz => h z (List.mem_cons_of_mem _ hz))
    show sumI (entsE 0 b.f0 ++ items 0 t) = tot (fun _ => true) (prE b.f0 ++ prB t)
    rw [sumI_app, tot_app, h2]
    have main : ∀ es : List S76, (∀ e ∈ es, 1 ≤ e.f1) → sumI (entsE 0 es) = tot (fun _ => true) (prE es) := by
      intro es
      induction es with
      | nil => intro _; rfl
      | cons e u ihe =>
        intro hh
        have g1 := hh e (List.mem_cons_self ..)
        have g2 := ihe (fun z hz => hh z (List.mem_cons_of_mem _ hz))
        have : entsE 0 (e :: u) = ⟨e.f0, e.f1⟩ :: entsE 0 u := by
          unfold entsE
          rw [List.filter_cons_of_pos (by exact decide_eq_true (by omega))]
          rfl
        rw [this]
        show e.f1 + sumI (entsE 0 u) = (if true = true then e.f1 else 0) + tot (fun _ => true) (prE u)
        rw [if_pos rfl, g2]
    rw [main b.f0 h1]
theorem seen_l1 {s r v t b c n most : Int} {B : List S56} {rows : List (List Int)} (aa cc ss : Int) (h : Fed s r v t B rows) (hb : (B.length : Int) = b) (x : List S68) (hx : x.Perm (items most B)) : ∀ (d i : Nat), i + d = x.length →
    Evt (fun k => rillmeterlaw15_ElasticSeen.l1 k most x (x.length : Int) (i : Int) ss b r cc n c s r v B (hrow s 1) 255 rows) true := by
  have hlen := items_len most 8 B (fun b hb => by have := (h.bs b hb).1; have := h.r1; omega)
  have hb1 := h.b1
  have hxl := hx.length_eq
  intro d
  induction d with
  | zero =>
    intro i hi
    obtain ⟨y, ⟨m1, e1⟩, hy⟩ := list_spec h 0
    obtain ⟨m0, e0⟩ := awake15_spec
    have hl := items_len 0 r.toNat B (fun b hb => by have := (h.bs b hb).1; omega)
    have hyl := hy.length_eq
    have hr := h.r1
    have hr0 := h.r0
    have hm : ((B.length * r.toNat : Nat) : Int) = b * r := by rw [Int.natCast_mul, hb]; congr 1; omega
    have hm2 : B.length * r.toNat ≤ 256 * 8 := Nat.mul_le_mul hb1 (by omega)
    refine ⟨m0 + m1 + 301, fun k hk => ?_⟩
    obtain ⟨k, rfl⟩ : ∃ z, k = z + 1 := ⟨k - 1, by omega⟩
    have e1 := e1 k (by omega)
    have e0 := e0 k (by omega)
    simp only at e0 e1
    simp only [rillmeterlaw15_ElasticSeen.l1]
    rw [if_neg (by omega), e1, Option.bind_some, i64_in (b * r) (by omega) (by omega), if_pos (by omega), right_fed h k (by omega), Option.bind_some, if_pos rfl, e0, Option.bind_some]
  | succ d ih =>
    intro i hi
    have hm := (take68 x i (by omega)).2
    obtain ⟨_, _, e, _, _, g1, g2⟩ := items_mem (hx.mem_iff.1 hm)
    refine Evt.step (ih (i + 1) (by omega)) (fun k => ?_)
    simp only [rillmeterlaw15_ElasticSeen.l1]
    rw [if_pos (by omega), if_pos (by omega), if_pos (by omega), if_neg (by omega), i64_in ((i : Int) + 1) (by omega) (by omega), show (i : Int) + 1 = ((i + 1 : Nat) : Int) by omega]
theorem seen_l0 {s r v t b c n most : Int} {m nn : Nat} {B : List S56} {rows : List (List Int)} {l : List ByteArray} {W : List (ByteArray × Int)} (aa cc ss : Int) (h : Fed s r v t B rows) (hB : B.length = nn) (hW : Bnd s r c m nn l B rows W) (hb : (B.length : Int) = b) (hl : l.length ≤ 300) (x : List S68) (hx : x.Perm (items 0 B)) : ∀ (d i : Nat), i + d = x.length →
    Evt (fun k => rillmeterlaw15_ElasticSeen.l0 k l most (sumI (x.take i)) x (x.length : Int) (i : Int) ss b r cc n c s r v B (hrow s 1) 255 rows) true := by
  have hlen := items_len 0 8 B (fun b hb => by have := (h.bs b hb).1; have := h.r1; omega)
  have hb1 := h.b1
  have hxl := hx.length_eq
  have h1le : ∀ y ∈ x, 1 ≤ y.f1 ∧ y.f1 ≤ (cnt y.f0 l : Int) := by
    intro y hy
    obtain ⟨bk, hbk, e, he, g0, g1, g2⟩ := items_mem (hx.mem_iff.1 hy)
    have hbs := h.bs bk hbk
    obtain ⟨q, hq⟩ := List.mem_iff_getElem?.1 hbk
    have hql : q < B.length := by
      rcases Nat.lt_or_ge q B.length with z | z
      · exact z
      · rw [List.getElem?_eq_none z] at hq; cases hq
    have hrd : bk = rd_T56 B (q : Int) := by
      have := rd56 B q hql
      rw [hq] at this
      exact Option.some.inj this
    have hpl := hW.pl q (by omega) e (by rw [← hrd]; exact he)
    have hk := kept hB h hW e.f0 (by rw [hpl]; omega)
    rw [hpl, ← hrd] at hk
    obtain ⟨j, hj⟩ := List.mem_iff_getElem?.1 he
    have hjl : j < bk.f0.length := by
      rcases Nat.lt_or_ge j bk.f0.length with z | z
      · exact z
      · rw [List.getElem?_eq_none z] at hj; cases hj
    have hre : e = rd_T76 bk.f0 (j : Int) := by
      have := rd76 bk.f0 j hjl
      rw [hj] at this
      exact Option.some.inj this
    have hat := (kept_at e.f0 bk.f0 hbs.2.2.2.1).2 j hjl (by rw [← hre])
    rw [← hre] at hat
    have hs := hW.sum (sameKey e.f0)
    have hnn := tot_nn (sameKey e.f0) W hW.nn
    have hc : (l.countP (sameKey e.f0) : Int) = (cnt e.f0 l : Int) := rfl
    have := (hbs.2.2.1 e he).1
    rw [g0, g1]
    omega
  have htot : sumI x ≤ 300 := by
    rw [sumI_perm hx, sum_items B (fun b hb e he => ((h.bs b hb).2.2.1 e he).1)]
    have hs := hW.sum (fun _ => true)
    have hnn := tot_nn (fun _ => true) W hW.nn
    have hc : l.countP (fun _ => true) ≤ l.length := List.countP_le_length
    omega
  have hsum : sumI x ≤ (l.length : Int) := by
    rw [sumI_perm hx, sum_items B (fun b hb e he => ((h.bs b hb).2.2.1 e he).1)]
    have hs := hW.sum (fun _ => true)
    have hnn := tot_nn (fun _ => true) W hW.nn
    have hc : l.countP (fun _ => true) ≤ l.length := List.countP_le_length
    omega
  have hpre : ∀ i, 0 ≤ sumI (x.take i) ∧ sumI (x.take i) ≤ sumI x := by
    intro i
    have e : sumI x = sumI (x.take i) + sumI (x.drop i) := by rw [← sumI_app, List.take_append_drop]
    have h1 := sumI_nn (x.take i) (fun y hy => (h1le y (List.mem_of_mem_take hy)).1)
    have h2 := sumI_nn (x.drop i) (fun y hy => (h1le y (List.mem_of_mem_drop hy)).1)
    omega
  intro d
  induction d with
  | zero =>
    intro i hi
    obtain ⟨y, ⟨m1, e1⟩, hy⟩ := list_spec h most
    obtain ⟨m2, e2⟩ := seen_l1 (most := most) aa cc ss h hb y hy (c := c) (n := n) y.length 0 (by omega)
    have hp := hpre i
    refine ⟨m1 + m2 + 1, fun k hk => ?_⟩
    obtain ⟨k, rfl⟩ : ∃ z, k = z + 1 := ⟨k - 1, by omega⟩
    have e1 := e1 k (by omega)
    have e2 := e2 k (by omega)
    simp only at e1 e2
    simp only [rillmeterlaw15_ElasticSeen.l0]
    rw [if_neg (by omega), if_neg (by omega), e1, Option.bind_some]
    exact e2
  | succ d ih =>
    intro i hi
    obtain ⟨e, hm⟩ := take68 x i (by omega)
    obtain ⟨g1, g2⟩ := h1le _ hm
    obtain ⟨m1, e1⟩ := many_spec l (by omega) (rd_T68 x (i : Int)).f0
    obtain ⟨m2, e2⟩ := ih (i + 1) (by omega)
    have hp := hpre i
    have hp2 := hpre (i + 1)
    have es : sumI (x.take (i + 1)) = sumI (x.take i) + (rd_T68 x (i : Int)).f1 := by
      rw [e, sumI_app]
      show sumI (x.take i) + ((rd_T68 x (i : Int)).f1 + 0) = _
      omega
    refine ⟨m1 + m2 + 1, fun k hk => ?_⟩
    obtain ⟨k, rfl⟩ : ∃ z, k = z + 1 := ⟨k - 1, by omega⟩
    have e1 := e1 k (by omega)
    have e2 := e2 k (by omega)
    simp only at e1 e2
    rw [es] at e2
    simp only [rillmeterlaw15_ElasticSeen.l0]
    rw [if_pos (by omega), if_pos (by omega), if_pos (by omega), e1, Option.bind_some, if_neg (by omega), if_neg (by omega), i64_in (sumI (x.take i) + (rd_T68 x (i : Int)).f1) (by omega) (by omega), i64_in ((i : Int) + 1) (by omega) (by omega), show (i : Int) + 1 = ((i + 1 : Nat) : Int) by omega]
    exact e2
theorem ElasticSeen : rillmeterlaw15_ElasticSeen.Pure := by
  intro s b r v n c l most hs _ _ _ _ _ _ _
  have hb : 0 ≤ s ∧ s < 18446744073709551616 := by
    simp only [Lit.wf] at hs
    have h1 := Bool.and_eq_true_iff.1 hs
    have h2 := of_decide_eq_true h1.1
    have h3 := of_decide_eq_true h1.2
    have e1 : IntKind.u64.min = 0 := by decide
    have e2 : IntKind.u64.max = 18446744073709551615 := by decide
    omega
  obtain ⟨m0, e0⟩ := awake15_spec
  by_cases g : newOk b r v n c ∧ shortK l
  · obtain ⟨g, hl⟩ := g
    obtain ⟨B, rows, W, ⟨m1, e1⟩, q1, q2, q3⟩ := fedb_ok hb.1 hb.2 g l hl
    obtain ⟨g1, g2, g3, g4, g5, g6, g7, g8, g9, g10⟩ := g
    have hl0 : l.length ≤ 300 := by have := hl.1; omega
    obtain ⟨x, ⟨m2, e2⟩, hx⟩ := list_spec q1 0
    obtain ⟨m3, e3⟩ := seen_l0 (most := most) (n := n) s v s q1 q2 q3 (show (B.length : Int) = b by rw [q2]; omega) hl0 x hx x.length 0 (by omega)
    refine ⟨m1 + m2 + m3 + 1, ?_⟩
    have e1 := e1 (m1 + m2 + m3 + 1) (by omega)
    have e2 := e2 (m1 + m2 + m3 + 1) (by omega)
    have e3 := e3 (m1 + m2 + m3 + 1) (by omega)
    simp only at e1 e2 e3
    simp only [rillmeterlaw15_ElasticSeen.f]
    rw [e1, Option.bind_some]
    simp only
    rw [if_pos trivial, e2, Option.bind_some]
    exact e3
  · obtain ⟨R, ⟨m1, e1⟩, hR⟩ := fed_no hb.1 hb.2 l g
    refine ⟨m0 + m1 + 1, ?_⟩
    have e0 := e0 (m0 + m1 + 1) (by omega)
    have e1 := e1 (m0 + m1 + 1) (by omega)
    simp only at e0 e1
    simp only [rillmeterlaw15_ElasticSeen.f]
    rw [e1, Option.bind_some, hR, if_neg (by decide), e0]
    rfl

end Go.Proofs.Ytljmjjeghebdpaa.Pure
