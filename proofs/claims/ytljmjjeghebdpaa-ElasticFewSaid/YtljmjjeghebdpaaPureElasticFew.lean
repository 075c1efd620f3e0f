/- While no bucket has more unlike keys than room, each key that came is told exactly, and nothing is light. No condition beyond the kinds of the arguments. -/
import Derived.Test.YtljmjjeghebdpaaPElasticFewy
import Derived.Test.YtljmjjeghebdpaaBits
import Derived.Test.YtljmjjeghebdpaaNum
import Derived.Test.YtljmjjeghebdpaaHash
import Derived.Test.YtljmjjeghebdpaaLeast
import Derived.Test.YtljmjjeghebdpaaEvs
namespace Go.Proofs.Ytljmjjeghebdpaa.Pure
open Go.RowKit Go.Proofs.Ytljmjjeghebdpaa.PElasticFew Go.Proofs.YtljmjjeghebdpaaW.PrintWords Go.Proofs.YtljmjjeghebdpaaW.PrintLast Go.Proofs.Ytljmjjeghebdpaa.Bits Go.Proofs.Ytljmjjeghebdpaa.Num Go.Proofs.Ytljmjjeghebdpaa.Hash Go.Proofs.Ytljmjjeghebdpaa.Least Go.Proofs.Ytljmjjeghebdpaa.Evs
set_option linter.unusedSimpArgs false
set_option linter.unusedVariables false

theorem min_l0 (l : List Int) (hl : l.length ≤ 256) : ∀ (d k i : Nat) (m : Int), l.length - i = d → i ≤ l.length → d < k →
    ∃ t, slices_Min_int_int.l0 k l m i = some t ∧ ∀ c, c ≤ t ↔ (c ≤ m ∧ ∀ j, i ≤ j → j < l.length → c ≤ l.getD j 0) := by
  intro d
  induction d with
  | zero =>
    intro k i m h0 hi hk
    obtain ⟨k, rfl⟩ : ∃ m, k = m + 1 := ⟨k - 1, by omega⟩
    simp only [slices_Min_int_int.l0]
    rw [if_neg (by omega)]
    exact ⟨m, rfl, fun c => ⟨fun h => ⟨h, fun j a b => by omega⟩, fun h => h.1⟩⟩
  | succ d ih =>
    intro k i m h0 hi hk
    obtain ⟨k, rfl⟩ : ∃ m, k = m + 1 := ⟨k - 1, by omega⟩
    have g : i < l.length := by omega
    have e : rd l (i : Int) = l.getD i 0 := rfl
    have hm := mn_le m (l.getD i 0)
    obtain ⟨t, ht, ht2⟩ := ih k (i + 1) (mn m (l.getD i 0)) (by omega) (by omega) (by omega)
    simp only [slices_Min_int_int.l0]
    rw [if_pos (by omega), if_pos (by omega), e, i64_in ((i : Int) + 1) (by omega) (by omega), show (i : Int) + 1 = ((i + 1 : Nat) : Int) by omega]
    refine ⟨t, ht, fun c => (ht2 c).trans ⟨fun h => ⟨by have := h.1; omega, fun j a b => ?_⟩, fun h => ⟨?_, fun j a b => h.2 j (by omega) b⟩⟩⟩
    · by_cases e' : j = i
      · subst e'; have := h.1; omega
      · exact h.2 j (by omega) b
    · have := h.1; have := h.2 i (Nat.le_refl _) g; omega

theorem min_spec (k : Nat) (l : List Int) (h1 : 1 ≤ l.length) (hl : l.length ≤ 256) (hk : 258 ≤ k) : ∃ t, slices_Min_int_int.f k l = some t ∧ ∀ c, c ≤ t ↔ ∀ j, j < l.length → c ≤ l.getD j 0 := by
  obtain ⟨t, ht, ht2⟩ := min_l0 l hl (l.length - 1) k 1 (l.getD 0 0) (by omega) (by omega) (by omega)
  unfold slices_Min_int_int.f
  rw [if_pos (by omega)]
  refine ⟨t, ht, fun c => (ht2 c).trans ⟨fun h j b => ?_, fun h => ⟨h 0 (by omega), fun j _ b => h j b⟩⟩⟩
  by_cases e : j = 0
  · subst e; exact h.1
  · exact h.2 j (by omega) b

theorem mx_ge (a b : Int) : a ≤ mx a b ∧ b ≤ mx a b ∧ (mx a b = a ∨ mx a b = b) := by
  unfold mx
  split <;> omega

theorem max_l0 (l : List Int) (hl : l.length ≤ 256) : ∀ (d k i : Nat) (m : Int), l.length - i = d → i ≤ l.length → d < k →
    ∃ t, slices_Max_int_int.l0 k l m i = some t ∧ ∀ c, t ≤ c ↔ (m ≤ c ∧ ∀ j, i ≤ j → j < l.length → l.getD j 0 ≤ c) := by
  intro d
  induction d with
  | zero =>
    intro k i m h0 hi hk
    obtain ⟨k, rfl⟩ : ∃ m, k = m + 1 := ⟨k - 1, by omega⟩
    simp only [slices_Max_int_int.l0]
    rw [if_neg (by omega)]
    exact ⟨m, rfl, fun c => ⟨fun h => ⟨h, fun j a b => by omega⟩, fun h => h.1⟩⟩
  | succ d ih =>
    intro k i m h0 hi hk
    obtain ⟨k, rfl⟩ : ∃ m, k = m + 1 := ⟨k - 1, by omega⟩
    have g : i < l.length := by omega
    have e : rd l (i : Int) = l.getD i 0 := rfl
    have hm := mx_ge m (l.getD i 0)
    obtain ⟨t, ht, ht2⟩ := ih k (i + 1) (mx m (l.getD i 0)) (by omega) (by omega) (by omega)
    simp only [slices_Max_int_int.l0]
    rw [if_pos (by omega), if_pos (by omega), e, i64_in ((i : Int) + 1) (by omega) (by omega), show (i : Int) + 1 = ((i + 1 : Nat) : Int) by omega]
    refine ⟨t, ht, fun c => (ht2 c).trans ⟨fun h => ⟨by have := h.1; omega, fun j a b => ?_⟩, fun h => ⟨?_, fun j a b => h.2 j (by omega) b⟩⟩⟩
    · by_cases e' : j = i
      · subst e'; have := h.1; omega
      · exact h.2 j (by omega) b
    · have := h.1; have := h.2 i (Nat.le_refl _) g; omega

theorem max_spec (k : Nat) (l : List Int) (h1 : 1 ≤ l.length) (hl : l.length ≤ 256) (hk : 258 ≤ k) : ∃ t, slices_Max_int_int.f k l = some t ∧ ∀ c, t ≤ c ↔ ∀ j, j < l.length → l.getD j 0 ≤ c := by
  obtain ⟨t, ht, ht2⟩ := max_l0 l hl (l.length - 1) k 1 (l.getD 0 0) (by omega) (by omega) (by omega)
  unfold slices_Max_int_int.f
  rw [if_pos (by omega)]
  refine ⟨t, ht, fun c => (ht2 c).trans ⟨fun h j b => ?_, fun h => ⟨h 0 (by omega), fun j _ b => h j b⟩⟩⟩
  by_cases e : j = 0
  · subst e; exact h.1
  · exact h.2 j (by omega) b

def rowB (most : Int) (rows : List (List Int)) (r : List Int) : Bool := decide (rowOk most (colsOf rows) r)

theorem right_l0 (s most : Int) (rows : List (List Int)) (h1 : 1 ≤ rows.length) (h7 : rows.length ≤ 7) : ∀ (d k i : Nat), rows.length - i = d → i ≤ rows.length → d + 260 ≤ k →
    least_Right.l0 k rows rows.length i s most rows = some ((rows.drop i).all (rowB most rows)) := by
  intro d
  induction d with
  | zero =>
    intro k i h0 hi hk
    obtain ⟨k, rfl⟩ : ∃ m, k = m + 1 := ⟨k - 1, by omega⟩
    simp only [least_Right.l0]
    rw [if_neg (by omega), List.drop_of_length_le (by omega)]
    rfl
  | succ d ih =>
    intro k i h0 hi hk
    obtain ⟨k, rfl⟩ : ∃ m, k = m + 1 := ⟨k - 1, by omega⟩
    have g : i < rows.length := by omega
    have hb := ih k (i + 1) (by omega) (by omega) (by omega)
    have e : rd_L1 rows (i : Int) = rows[i] := by
      show rows.getD i [] = rows[i]
      simp [List.getD_eq_getElem?_getD, g]
    have e0 : ((rd_L1 rows 0).length : Int) = (colsOf rows : Int) := rfl
    rw [List.drop_eq_getElem_cons g, List.all_cons]
    simp only [least_Right.l0]
    rw [if_pos (by omega), if_pos (by omega), if_pos (by omega), e, e0, i64_in ((i : Int) + 1) (by omega) (by omega), show (i : Int) + 1 = ((i + 1 : Nat) : Int) by omega]
    generalize rows[i] = r
    by_cases c1 : (r.length : Int) < 1
    · rw [if_pos c1, rowB, decide_eq_false (fun o => by have := o.1; omega)]; rfl
    · rw [if_neg c1]
      by_cases c2 : (r.length : Int) > 256
      · rw [if_pos c2, rowB, decide_eq_false (fun o => by have := o.2.1; omega)]; rfl
      · rw [if_neg c2, if_pos (by omega)]
        by_cases c3 : (r.length : Int) = (colsOf rows : Int)
        · rw [if_pos c3]
          obtain ⟨t, ht, ht2⟩ := min_spec k r (by omega) (by omega) (by omega)
          obtain ⟨u, hu, hu2⟩ := max_spec k r (by omega) (by omega) (by omega)
          rw [ht]; simp only [Option.bind_some]
          by_cases c4 : t < 0
          · rw [if_pos c4, rowB, decide_eq_false (fun o => by have := (ht2 0).2 (fun j hj => (o.2.2.2 _ (getD_num r j hj)).1); omega)]; rfl
          · rw [if_neg c4, hu]; simp only [Option.bind_some]
            by_cases c5 : u > most
            · rw [if_pos c5, rowB, decide_eq_false (fun o => by have := (hu2 most).2 (fun j hj => (o.2.2.2 _ (getD_num r j hj)).2); omega)]; rfl
            · rw [if_neg c5, rowB, decide_eq_true, hb]; rfl
              refine ⟨by omega, by omega, by omega, fun x hx => ?_⟩
              obtain ⟨n, hn, hn2⟩ := List.mem_iff_getElem.1 hx
              have A := (ht2 0).1 (by omega) n hn
              have B := (hu2 most).1 (by omega) n hn
              have E : r.getD n 0 = x := by simp [List.getD_eq_getElem?_getD, hn, hn2]
              omega
        · rw [if_neg c3, rowB, decide_eq_false (fun o => by have := o.2.2.1; omega)]; rfl

theorem all_rows (most : Int) (rows : List (List Int)) (h1 : 1 ≤ most) (h2 : most ≤ 1099511627776) (h3 : 1 ≤ rows.length) (h4 : rows.length ≤ 7) : rows.all (rowB most rows) = decide (rightL most rows) := by
  rw [Bool.eq_iff_iff, List.all_eq_true, decide_eq_true_iff]
  unfold rowB rightL
  exact ⟨fun h => ⟨h1, h2, h3, h4, fun r hr => of_decide_eq_true (h r hr)⟩, fun h r hr => decide_eq_true (h.2.2.2.2 r hr)⟩

theorem right_spec (k : Nat) (s most : Int) (rows : List (List Int)) (hk : 300 ≤ k) : least_Right.f k s most rows = some (decide (rightL most rows)) := by
  obtain ⟨k, rfl⟩ : ∃ m, k = m + 1 := ⟨k - 1, by omega⟩
  unfold least_Right.f
  by_cases c1 : most < 1
  · rw [if_pos c1, decide_eq_false (fun o => by have := o.1; omega)]; rfl
  · rw [if_neg c1]
    by_cases c2 : most > 1099511627776
    · rw [if_pos c2, decide_eq_false (fun o => by have := o.2.1; omega)]; rfl
    · rw [if_neg c2]
      by_cases c3 : (rows.length : Int) < 1
      · rw [if_pos c3, decide_eq_false (fun o => by have := o.2.2.1; omega)]; rfl
      · rw [if_neg c3]
        by_cases c4 : (rows.length : Int) > 7
        · rw [decide_eq_true c4, decide_eq_false (fun o => by have := o.2.2.2.1; omega)]; rfl
        · rw [decide_eq_false c4]
          simp only [least_Right.j0]
          rw [if_neg (by decide)]
          have h := right_l0 s most rows (by omega) (by omega) rows.length k 0 (by omega) (by omega) (by omega)
          rw [List.drop_zero, all_rows most rows (by omega) (by omega) (by omega) (by omega)] at h
          exact h

theorem of_spec (a : Int) (h0 : 0 ≤ a) (h1 : a < 18446744073709551616) : field_Of.f a = some (a % 2305843009213693951) := by
  unfold field_Of.f
  rw [and_p a h0 h1, u64_in _ (by omega) (by omega)]
  split
  · rw [u64_in _ (by omega) (by omega)]
    exact congrArg some (by omega)
  · exact congrArg some (by omega)

theorem add_spec (a b : Int) (h0 : 0 ≤ a) (h1 : a < 18446744073709551616) (g0 : 0 ≤ b) (g1 : b < 18446744073709551616) :
    field_Add.f a b = some ((a + b) % 2305843009213693951) := by
  unfold field_Add.f
  rw [of_spec a h0 h1, of_spec b g0 g1]
  simp only [Option.bind_some]
  rw [u64_in _ (by omega) (by omega), of_spec _ (by omega) (by omega)]
  simp only [Option.bind_some]
  exact congrArg some (by omega)

theorem mul64_spec (a b : Int) (h0 : 0 ≤ a) (h1 : a < 18446744073709551616) (g0 : 0 ≤ b) (g1 : b < 18446744073709551616) :
    bits_Mul64.f a b = some (a * b / 18446744073709551616, a * b % 18446744073709551616) := by
  unfold bits_Mul64.f
  have hh := halves a b
  obtain ⟨p0, p1⟩ := mul_bd (a := a / 4294967296) (b := b / 4294967296) (by omega) (by omega) (by omega) (by omega)
  obtain ⟨q0, q1⟩ := mul_bd (a := a / 4294967296) (b := b % 4294967296) (by omega) (by omega) (by omega) (by omega)
  obtain ⟨r0, r1⟩ := mul_bd (a := a % 4294967296) (b := b / 4294967296) (by omega) (by omega) (by omega) (by omega)
  obtain ⟨s0, s1⟩ := mul_bd (a := a % 4294967296) (b := b % 4294967296) (by omega) (by omega) (by omega) (by omega)
  rw [and_32 a h0 h1, and_32 b g0 g1]
  generalize a / 4294967296 * (b / 4294967296) = p at *
  generalize a / 4294967296 * (b % 4294967296) = q at *
  generalize a % 4294967296 * (b / 4294967296) = r at *
  generalize a % 4294967296 * (b % 4294967296) = s at *
  generalize a * b = m at *
  clear h0 h1 g0 g1
  rw [u64_in p (by omega) (by omega), u64_in q (by omega) (by omega), u64_in r (by omega) (by omega), u64_in s (by omega) (by omega)]
  rw [u64_in (q + s / 4294967296) (by omega) (by omega)]
  rw [and_32 _ (by omega) (by omega)]
  rw [u64_in (p + _) (by omega) (by omega), u64_in (_ + r) (by omega) (by omega), wrap_u64 m]
  rw [u64_in _ (by omega) (by omega)]
  exact congrArg some (Prod.ext (by show _ = _; omega) rfl)

theorem mul_spec (a b : Int) (h0 : 0 ≤ a) (h1 : a < 18446744073709551616) (g0 : 0 ≤ b) (g1 : b < 18446744073709551616) :
    field_Mul.f a b = some (a * b % 2305843009213693951) := by
  unfold field_Mul.f
  rw [of_spec a h0 h1, of_spec b g0 g1, Int.mul_emod]
  simp only [Option.bind_some]
  have x0 : 0 ≤ a % 2305843009213693951 := by omega
  have x1 : a % 2305843009213693951 ≤ 2305843009213693950 := by omega
  have y0 : 0 ≤ b % 2305843009213693951 := by omega
  have y1 : b % 2305843009213693951 ≤ 2305843009213693950 := by omega
  generalize a % 2305843009213693951 = x at *
  generalize b % 2305843009213693951 = y at *
  rw [mul64_spec x y x0 (by omega) y0 (by omega)]
  simp only [Option.bind_some]
  have hm : 0 ≤ x * y ∧ x * y ≤ 2305843009213693950 * 2305843009213693950 := ⟨Int.mul_nonneg x0 y0, Int.mul_le_mul x1 y1 y0 (by omega)⟩
  generalize x * y = m at *
  obtain ⟨m0, m1⟩ := hm
  rw [and_p _ (by omega) (by omega)]
  rw [u64_in (_ * 8) (by omega) (by omega)]
  rw [or_3 _ _ (by omega) (by omega) (by omega) (by omega) (by omega)]
  rw [u64_in _ (by omega) (by omega), of_spec _ (by omega) (by omega)]
  simp only [Option.bind_some]
  exact congrArg some (by omega)

theorem row_spec (seed i : Int) (h0 : 0 ≤ seed) (h1 : seed < 18446744073709551616) (hi : i < 9223372036854775808) : hash_Row.f seed i = some (hrow seed i) := by
  unfold hash_Row.f hrow hmid
  have e : mx i 0 = if i < 0 then 0 else i := rfl
  rw [e, add_spec seed 3 h0 h1 (by omega) (by omega)]
  generalize hj : (if i < 0 then (0 : Int) else i) = j
  have hj0 : 0 ≤ j ∧ j < 9223372036854775808 := by rw [← hj]; split <;> omega
  simp only [Option.bind_some]
  rw [u64_in j (by omega) (by omega), add_spec j 2 (by omega) (by omega) (by omega) (by omega)]
  simp only [Option.bind_some]
  rw [mul_spec _ _ (by omega) (by omega) (by omega) (by omega)]
  simp only [Option.bind_some]
  rw [add_spec _ 5 (by omega) (by omega) (by omega) (by omega)]
  simp only [Option.bind_some]
  rw [mul_spec _ _ (by omega) (by omega) (by omega) (by omega)]
  rfl

theorem sq_half (x n : Int) (h0 : 0 ≤ n) : (x * x % 2305843009213693951) ^ (n / 2).toNat % 2305843009213693951 = x ^ (2 * (n.toNat / 2)) % 2305843009213693951 := by
  rw [pow_emod, Int.pow_mul, show (n / 2).toNat = n.toNat / 2 by omega, show x ^ 2 = x * x by grind]

theorem pow_l0 (d : Nat) : ∀ (k : Nat) (x n out : Int), 0 ≤ x → x < 2305843009213693951 → 0 ≤ n → n < 18446744073709551616 → n < 2 ^ d → 0 ≤ out → out < 2305843009213693951 → d < k →
    field_Pow.l0 k x n out = some (out * x ^ n.toNat % 2305843009213693951) := by
  induction d with
  | zero =>
    intro k x n out x0 x1 n0 n1 nd o0 o1 hk
    obtain ⟨k, rfl⟩ : ∃ m, k = m + 1 := ⟨k - 1, by omega⟩
    have hn : n = 0 := by simp at nd; omega
    simp only [field_Pow.l0]
    rw [if_neg (by omega), hn]
    exact congrArg some (by simp; omega)
  | succ d ih =>
    intro k x n out x0 x1 n0 n1 nd o0 o1 hk
    obtain ⟨k, rfl⟩ : ∃ m, k = m + 1 := ⟨k - 1, by omega⟩
    simp only [field_Pow.l0]
    by_cases hp : n > 0
    · rw [if_pos hp, and_1 n n0 n1, mul_spec x x x0 (by omega) x0 (by omega), mul_spec out x o0 (by omega) x0 (by omega)]
      simp only [Option.bind_some]
      have hd : n / 2 < 2 ^ d := by rw [Int.pow_succ] at nd; omega
      split
      · rw [ih k _ (n / 2) _ (by omega) (by omega) (by omega) (by omega) hd (by omega) (by omega) (by omega)]
        have e : n.toNat = 2 * (n.toNat / 2) + 1 := by omega
        refine congrArg some ?_
        rw [Int.mul_emod, sq_half x n n0, ← Int.mul_emod]
        rw [Int.mul_emod, Int.emod_emod, ← Int.mul_emod]
        conv => rhs; rw [e, Int.pow_succ, Int.mul_comm _ x, ← Int.mul_assoc]
      · rw [ih k _ (n / 2) _ (by omega) (by omega) (by omega) (by omega) hd o0 o1 (by omega)]
        have e : n.toNat = 2 * (n.toNat / 2) := by omega
        refine congrArg some ?_
        rw [Int.mul_emod, sq_half x n n0, ← Int.mul_emod]
        conv => rhs; rw [e]
    · have hn : n = 0 := by omega
      rw [if_neg hp, hn]
      exact congrArg some (by simp; omega)

theorem pow_spec (k : Nat) (a n : Int) (h0 : 0 ≤ a) (h1 : a < 18446744073709551616) (g0 : 0 ≤ n) (g1 : n < 18446744073709551616) (hk : 65 ≤ k) :
    field_Pow.f k a n = some (a ^ n.toNat % 2305843009213693951) := by
  unfold field_Pow.f
  rw [of_spec a h0 h1]
  simp only [Option.bind_some]
  rw [pow_l0 64 k _ n 1 (by omega) (by omega) g0 g1 (by omega) (by omega) (by omega) (by omega), Int.one_mul, pow_emod]

theorem sum_step (s : ByteArray) (a n i x j j' : Int) (k : Nat) (hj : j' = j + 1) (hs : s.size ≤ 140737488351232) (i0 : 0 ≤ i) (i1 : i ≤ s.size) (j0 : 0 ≤ j) (j1 : j < 4) (x0 : 0 ≤ x) (x1 : x < 72057594037927936) :
    hash_Sum.l1 (k + 1) s a n i x j = hash_Sum.l1 k s a n i (x * 256 + bt s (i + j)) j' := by
  subst hj
  have hb := bt_range s (i + j)
  conv => lhs; unfold hash_Sum.l1
  rw [if_pos j1, i64_in (i + j) (by omega) (by omega), i64_in (j + 1) (by omega) (by omega), u64_in (x * 256) (by omega) (by omega), u64_in (bt s (i + j)) (by omega) (by omega)]
  by_cases h : i + j < (s.size : Int)
  · rw [if_pos h, if_pos (by omega), or_8 (x * 256) _ (by omega) (by omega) (by omega) (by omega) (by omega)]
  · rw [if_neg h, bt_out s (i + j) (by omega), Int.add_zero]

theorem sum_word (s : ByteArray) (a n i : Int) (k : Nat) (hs : s.size ≤ 140737488351232) (i0 : 0 ≤ i) (i1 : i ≤ s.size) :
    hash_Sum.l1 (k + 4) s a n i 0 0 = hash_Sum.l1 k s a n i (wordAt s i) 4 := by
  have h0 := bt_range s i
  have h1 := bt_range s (i + 1)
  have h2 := bt_range s (i + 2)
  rw [sum_step s a n i 0 0 1 (k + 3) (by omega) hs i0 i1 (by omega) (by omega) (by omega) (by omega), Int.add_zero, Int.zero_mul, Int.zero_add,
    sum_step s a n i _ 1 2 (k + 2) (by omega) hs i0 i1 (by omega) (by omega) (by omega) (by omega),
    sum_step s a n i _ 2 3 (k + 1) (by omega) hs i0 i1 (by omega) (by omega) (by omega) (by omega),
    sum_step s a n i _ 3 4 k (by omega) hs i0 i1 (by omega) (by omega) (by omega) (by omega)]
  rfl

theorem sum_l0 (s : ByteArray) (a : Int) (hs : s.size ≤ 140737488351232) (a0 : 0 ≤ a) (a1 : a < 18446744073709551616) : ∀ (m k : Nat) (n i : Int), 0 ≤ i → (s.size : Int) ≤ i + 4 * m → i < (s.size : Int) + 4 → (0 < m → i + 4 * m < (s.size : Int) + 4) →
    0 ≤ n → n < 18446744073709551616 → 6 * m + 66 ≤ k →
    hash_Sum.l0 k s a n i = some ((roll s a m n i * a) ^ 17 % 2305843009213693951) := by
  intro m
  induction m with
  | zero =>
    intro k n i i0 i1 i2 i3 n0 n1 hk
    obtain ⟨k, rfl⟩ : ∃ m, k = m + 1 := ⟨k - 1, by omega⟩
    unfold hash_Sum.l0
    rw [if_neg (by omega), mul_spec n a n0 n1 a0 a1]
    simp only [Option.bind_some]
    rw [pow_spec k _ 17 (by omega) (by omega) (by omega) (by omega) (by omega), show (17 : Int).toNat = 17 from rfl, pow_emod]
    rfl
  | succ m ih =>
    intro k n i i0 i1 i2 i3 n0 n1 hk
    obtain ⟨k, rfl⟩ : ∃ m, k = m + 1 := ⟨k - 1, by omega⟩
    obtain ⟨k, rfl⟩ : ∃ m, k = m + 4 := ⟨k - 4, by omega⟩
    have hw := wordAt_range s i
    have i4 : i < (s.size : Int) := by omega
    unfold hash_Sum.l0
    rw [if_pos i4, sum_word s a n i k hs i0 (by omega)]
    obtain ⟨k, rfl⟩ : ∃ m, k = m + 1 := ⟨k - 1, by omega⟩
    unfold hash_Sum.l1
    rw [if_neg (by omega), mul_spec n a n0 n1 a0 a1, u64_in _ (by omega) (by omega)]
    simp only [Option.bind_some]
    rw [add_spec _ _ (by omega) (by omega) (by omega) (by omega), i64_in (i + 4) (by omega) (by omega)]
    simp only [Option.bind_some]
    rw [ih k _ (i + 4) (by omega) (by omega) (by omega) (by omega) (by omega) (by omega) (by omega)]
    simp only [roll]
    have e : (n * a % 2305843009213693951 + (wordAt s i + 1)) % 2305843009213693951 = (n * a + wordAt s i + 1) % 2305843009213693951 := by omega
    rw [e]

theorem sum_spec (k : Nat) (seed : Int) (s : ByteArray) (hs : s.size ≤ 140737488351232) (h0 : 0 ≤ seed) (h1 : seed < 18446744073709551616) (hk : 6 * words s + 66 ≤ k) :
    hash_Sum.f k seed s = some (hsum seed s) := by
  unfold hash_Sum.f
  rw [add_spec seed 2 h0 h1 (by omega) (by omega), u64_in _ (by omega) (by omega)]
  simp only [Option.bind_some]
  have hw : words s = (s.size + 3) / 4 := rfl
  exact sum_l0 s _ hs (by omega) (by omega) (words s) k s.size 0 (by omega) (by omega) (by omega) (by omega) (by omega) (by omega) hk

theorem cell_spec (k : Nat) (seed : Int) (key : ByteArray) (n : Int) (hs : key.size ≤ 140737488351232) (h0 : 0 ≤ seed) (h1 : seed < 18446744073709551616) (hn : n < 9223372036854775808) (hk : 6 * words key + 66 ≤ k) :
    hash_Cell.f k seed key n = some (hcell seed key n) := by
  unfold hash_Cell.f hcell
  by_cases a : n < 1
  · rw [if_pos a, if_pos a]
  · rw [if_neg a, if_neg a, sum_spec k seed key hs h0 h1 hk]
    simp only [Option.bind_some]
    have r := hsum_range seed key
    have r1 := Int.emod_nonneg (hsum seed key) (b := n) (by omega)
    have r2 := Int.emod_lt_of_pos (hsum seed key) (b := n) (by omega)
    rw [u64_in n (by omega) (by omega), if_neg (by omega), Int.tmod_eq_emod_of_nonneg r.1, i64_in _ (by omega) (by omega)]

theorem clone_nums (l : List Int) (h : l.length < 17592186044416) : slices_Clone_int_int.f l = some l := by
  unfold slices_Clone_int_int.f
  simp only [Option.bind_some, List.length_nil, List.nil_append]
  rw [if_pos (by omega)]

theorem getD_set (l : List (List Int)) (i j : Nat) (v : List Int) (h : i < l.length) : (l.set i v).getD j [] = if i = j then v else l.getD j [] := by
  by_cases e : i = j
  · subst e
    rw [if_pos rfl, List.getD_eq_getElem?_getD, List.getElem?_set_self h]
    rfl
  · rw [if_neg e, List.getD_eq_getElem?_getD, List.getElem?_set_ne e, ← List.getD_eq_getElem?_getD]

theorem clone_l0 (s most : Int) (rows : List (List Int)) (hl : rows.length ≤ 7) (hr : ∀ r ∈ rows, r.length ≤ 256) : ∀ (d k i : Nat) (cur : List (List Int)), rows.length - i = d → i ≤ rows.length → cur.length = rows.length → (∀ j, j < i → cur.getD j [] = rows.getD j []) → d < k →
    least_clone.l0 k cur rows rows.length i s most rows = some (s, most, rows) := by
  intro d
  induction d with
  | zero =>
    intro k i cur h0 hi hc hj hk
    obtain ⟨k, rfl⟩ : ∃ m, k = m + 1 := ⟨k - 1, by omega⟩
    simp only [least_clone.l0]
    rw [if_neg (by omega), ext_rows cur rows hc (fun j h => hj j (by omega))]
  | succ d ih =>
    intro k i cur h0 hi hc hj hk
    obtain ⟨k, rfl⟩ : ∃ m, k = m + 1 := ⟨k - 1, by omega⟩
    have g : i < rows.length := by omega
    have e : rd_L1 rows (i : Int) = rows.getD i [] := rfl
    have hm := hr _ (getD_row rows i g)
    simp only [least_clone.l0]
    rw [if_pos (by omega), if_pos (by omega), if_pos (by omega), e, clone_nums _ (by omega)]
    simp only [Option.bind_some]
    rw [if_pos (by omega), i64_in ((i : Int) + 1) (by omega) (by omega), show (i : Int) + 1 = ((i + 1 : Nat) : Int) by omega]
    refine ih k (i + 1) _ (by omega) (by omega) (by rw [List.length_set]; exact hc) (fun j hj2 => ?_) (by omega)
    show (cur.set i _).getD j [] = _
    rw [getD_set cur i j _ (by omega)]
    by_cases e' : i = j
    · rw [if_pos e', e']
    · rw [if_neg e']; exact hj j (by omega)

theorem clone_spec (k : Nat) (s most : Int) (rows : List (List Int)) (hl : rows.length ≤ 7) (hr : ∀ r ∈ rows, r.length ≤ 256) (hk : 10 ≤ k) : least_clone.f k s most rows = some (s, most, rows) := by
  unfold least_clone.f
  rw [if_pos (by omega), if_pos (by omega)]
  exact clone_l0 s most rows hl hr rows.length k 0 _ (by omega) (by omega) (by simp) (fun j h => by omega) (by omega)

theorem addf_l0 (s most n : Int) (key : ByteArray) (rows : List (List Int)) (hs0 : 0 ≤ s) (hs1 : s < 18446744073709551616) (h : rightL most rows) (hn : 0 ≤ n) (hn2 : n ≤ 1099511627776) (hkey : key.size ≤ 1000) : ∀ (d k i : Nat) (cur : List (List Int)), rows.length - i = d → i ≤ rows.length → cur.length = rows.length → (∀ j, j < i → cur.getD j [] = freshRow s most key n j (rows.getD j [])) → (∀ j, i ≤ j → cur.getD j [] = rows.getD j []) → d + 2000 ≤ k →
    least_Add.l0 k key n cur rows.length i s most = some (s, most, addRows s most key n rows, 0) := by
  have hw := words_le key 250 (by omega)
  intro d
  induction d with
  | zero =>
    intro k i cur h0 hi hc hj hj2 hk
    obtain ⟨k, rfl⟩ : ∃ m, k = m + 1 := ⟨k - 1, by omega⟩
    simp only [least_Add.l0]
    rw [if_neg (by omega), ext_rows cur (addRows s most key n rows) (by rw [addRows_length]; exact hc) (fun j h => by rw [hj j (by omega), addRows_get s most key n rows j (by omega)])]
  | succ d ih =>
    intro k i cur h0 hi hc hj hj2 hk
    obtain ⟨k, rfl⟩ : ∃ m, k = m + 1 := ⟨k - 1, by omega⟩
    have g : i < rows.length := by omega
    have h7 := h.2.2.2.1
    have e : rd_L1 cur (i : Int) = rows.getD i [] := hj2 i (Nat.le_refl _)
    have hr := hrow_range s i
    have ho := h.2.2.2.2 _ (getD_row rows i g)
    have hce := hcell_range (hrow s i) key (rows.getD i []).length (by have := ho.1; omega)
    have hlen := ho.2.1
    simp only [least_Add.l0]
    rw [if_pos (by omega), if_pos (by omega), row_spec s i hs0 hs1 (by omega)]
    simp only [Option.bind_some]
    rw [e, cell_spec k _ key _ (by omega) hr.1 (by omega) (by omega) (by omega)]
    simp only [Option.bind_some]
    rw [if_pos hce.1, if_pos hce.2]
    have hv : rd (rows.getD i []) (hcell (hrow s i) key (rows.getD i []).length) = (rows.getD i []).getD (cellAt s key i (rows.getD i [])).toNat 0 := rfl
    have hvr := ho.2.2.2 _ (getD_num (rows.getD i []) (cellAt s key i (rows.getD i [])).toNat (by unfold cellAt; omega))
    have hm := h.2.1
    rw [hv, i64_in _ (by omega) (by omega), i64_in ((i : Int) + 1) (by omega) (by omega), show (i : Int) + 1 = ((i + 1 : Nat) : Int) by omega]
    refine ih k (i + 1) _ (by omega) (by omega) (by rw [List.length_set]; exact hc) (fun j hj3 => ?_) (fun j hj3 => ?_) (by omega)
    · show (cur.set i (freshRow s most key n i (rows.getD i []))).getD j [] = _
      rw [getD_set cur i j _ (by omega)]
      by_cases e' : i = j
      · rw [if_pos e', e']
      · rw [if_neg e']; exact hj j (by omega)
    · show (cur.set i _).getD j [] = _
      rw [getD_set cur i j _ (by omega), if_neg (by omega)]
      exact hj2 j (by omega)

theorem addf_spec (k : Nat) (s most n : Int) (key : ByteArray) (rows : List (List Int)) (hs0 : 0 ≤ s) (hs1 : s < 18446744073709551616) (hkey : key.size ≤ 1000) (hk : 2100 ≤ k) :
    least_Add.f k s most rows key n = some (if rightL most rows ∧ 0 ≤ n ∧ n ≤ 1099511627776 then (s, most, addRows s most key n rows, 0) else (0, 0, [], 1)) := by
  obtain ⟨k, rfl⟩ : ∃ m, k = m + 1 := ⟨k - 1, by omega⟩
  unfold least_Add.f
  rw [right_spec _ s most rows (by omega)]
  simp only [Option.bind_some]
  by_cases r : rightL most rows
  · rw [if_pos (decide_eq_true r)]
    by_cases c1 : n < 0
    · rw [if_pos c1, if_neg (fun o => by have := o.2.1; omega)]; rfl
    · rw [if_neg c1]
      by_cases c2 : n > 1099511627776
      · rw [decide_eq_true c2, if_neg (fun o => by have := o.2.2; omega)]; rfl
      · rw [decide_eq_false c2, if_pos ⟨r, by omega, by omega⟩]
        simp only [least_Add.j0]
        rw [if_neg (by decide), clone_spec k s most rows r.2.2.2.1 (fun x hx => (r.2.2.2.2 x hx).2.1) (by omega)]
        simp only [Option.bind_some]
        have h7 := r.2.2.2.1
        exact addf_l0 s most n key rows hs0 hs1 r (by omega) (by omega) hkey rows.length k 0 rows (by omega) (by omega) rfl (fun j h => by omega) (fun j h => rfl) (by omega)
  · rw [if_neg (by rw [decide_eq_false r]; decide), if_neg (fun o => r o.1)]; rfl

theorem getf_l0 (s most : Int) (key : ByteArray) (rows : List (List Int)) (hs0 : 0 ≤ s) (hs1 : s < 18446744073709551616) (h : rightL most rows) (hkey : key.size ≤ 1000) : ∀ (d k i : Nat) (m : Int), rows.length - i = d → i ≤ rows.length → d + 2000 ≤ k →
    least_Get.l0 k key m rows rows.length i s most rows = some (downTo (valAt s key rows) d i m, decide (downTo (valAt s key rows) d i m < most)) := by
  have hw := words_le key 250 (by omega)
  intro d
  induction d with
  | zero =>
    intro k i m h0 hi hk
    obtain ⟨k, rfl⟩ : ∃ m, k = m + 1 := ⟨k - 1, by omega⟩
    simp only [least_Get.l0]
    rw [if_neg (by omega)]
    rfl
  | succ d ih =>
    intro k i m h0 hi hk
    obtain ⟨k, rfl⟩ : ∃ m, k = m + 1 := ⟨k - 1, by omega⟩
    have g : i < rows.length := by omega
    have h7 := h.2.2.2.1
    have e : rd_L1 rows (i : Int) = rows.getD i [] := rfl
    have hr := hrow_range s i
    have ho := h.2.2.2.2 _ (getD_row rows i g)
    have hce := hcell_range (hrow s i) key (rows.getD i []).length (by have := ho.1; omega)
    have hlen := ho.2.1
    simp only [least_Get.l0]
    rw [if_pos (by omega), if_pos (by omega), if_pos (by omega), row_spec s i hs0 hs1 (by omega)]
    simp only [Option.bind_some]
    rw [e, cell_spec k _ key _ (by omega) hr.1 (by omega) (by omega) (by omega)]
    simp only [Option.bind_some]
    rw [if_pos hce.1, if_pos hce.2, i64_in ((i : Int) + 1) (by omega) (by omega), show (i : Int) + 1 = ((i + 1 : Nat) : Int) by omega]
    exact ih k (i + 1) _ (by omega) (by omega) (by omega)

theorem getf_spec (k : Nat) (s most : Int) (key : ByteArray) (rows : List (List Int)) (hs0 : 0 ≤ s) (hs1 : s < 18446744073709551616) (hkey : key.size ≤ 1000) (hk : 2100 ≤ k) :
    least_Get.f k s most rows key = some (if rightL most rows then (getL s most key rows, decide (getL s most key rows < most)) else (0, false)) := by
  unfold least_Get.f
  rw [right_spec _ s most rows (by omega)]
  simp only [Option.bind_some]
  by_cases r : rightL most rows
  · rw [if_pos (decide_eq_true r), if_pos r]
    have h7 := r.2.2.2.1
    exact getf_l0 s most key rows hs0 hs1 r hkey rows.length k 0 most (by omega) (by omega) (by omega)
  · rw [if_neg (by rw [decide_eq_false r]; decide), if_neg r]

theorem new_l0 (s most : Int) (c n : Nat) (hc : c ≤ 256) (hn : n ≤ 7) : ∀ (d k i : Nat), n - i = d → i ≤ n → d < k →
    least_New.l0 k c n i s most (List.replicate i (List.replicate c 0)) = some (s, most, List.replicate n (List.replicate c 0), 0) := by
  intro d
  induction d with
  | zero =>
    intro k i h0 hi hk
    obtain ⟨k, rfl⟩ : ∃ m, k = m + 1 := ⟨k - 1, by omega⟩
    simp only [least_New.l0]
    rw [if_neg (by omega), show i = n by omega]
  | succ d ih =>
    intro k i h0 hi hk
    obtain ⟨k, rfl⟩ : ∃ m, k = m + 1 := ⟨k - 1, by omega⟩
    have hl : (List.replicate i (List.replicate c (0 : Int))).length = i := List.length_replicate
    have h := ih k (i + 1) (by omega) (by omega) (by omega)
    rw [List.replicate_succ'] at h
    simp only [least_New.l0]
    rw [if_pos (by omega), if_pos (by omega), if_pos (by omega), if_pos (by omega), i64_in ((i : Int) + 1) (by omega) (by omega), show (i : Int) + 1 = ((i + 1 : Nat) : Int) by omega]
    exact h

theorem new_spec (k : Nat) (s n c most : Int) (hk : 20 ≤ k) : least_New.f k s n c most = some (if 1 ≤ n ∧ n ≤ 7 ∧ 1 ≤ c ∧ c ≤ 256 ∧ 1 ≤ most ∧ most ≤ 1099511627776 then (s, most, List.replicate n.toNat (List.replicate c.toNat 0), 0) else (0, 0, [], 1)) := by
  obtain ⟨k, rfl⟩ : ∃ m, k = m + 1 := ⟨k - 1, by omega⟩
  unfold least_New.f
  by_cases c1 : n < 1
  · rw [if_pos c1, if_neg (by omega)]; rfl
  · rw [if_neg c1]
    by_cases c2 : n > 7
    · rw [if_pos c2, if_neg (by omega)]; rfl
    · rw [if_neg c2]
      by_cases c3 : c < 1
      · rw [if_pos c3, if_neg (by omega)]; rfl
      · rw [if_neg c3]
        by_cases c4 : c > 256
        · rw [if_pos c4, if_neg (by omega)]; rfl
        · rw [if_neg c4]
          by_cases c5 : most < 1
          · rw [if_pos c5, if_neg (by omega)]; rfl
          · rw [if_neg c5]
            by_cases c6 : most > 1099511627776
            · rw [decide_eq_true c6, if_neg (by omega)]; rfl
            · rw [decide_eq_false c6, if_pos (by omega)]
              simp only [least_New.j0]
              rw [if_neg (by decide)]
              obtain ⟨n, rfl⟩ := Int.eq_ofNat_of_zero_le (show 0 ≤ n by omega)
              obtain ⟨c, rfl⟩ := Int.eq_ofNat_of_zero_le (show 0 ≤ c by omega)
              exact new_l0 s most c n (by omega) (by omega) n k 0 (by omega) (by omega) (by omega)

theorem new_right (n c : Nat) (most : Int) (hn : 1 ≤ n) (hn2 : n ≤ 7) (hc : 1 ≤ c) (hc2 : c ≤ 256) (hm : 1 ≤ most) (hm2 : most ≤ 1099511627776) : rightL most (List.replicate n (List.replicate c 0)) := by
  have hcols : colsOf (List.replicate n (List.replicate c (0 : Int))) = c := by
    obtain ⟨m, rfl⟩ : ∃ m, n = m + 1 := ⟨n - 1, by omega⟩
    simp [colsOf, List.replicate_succ]
  refine ⟨hm, hm2, by rw [List.length_replicate]; exact hn, by rw [List.length_replicate]; exact hn2, fun r hr => ?_⟩
  rw [hcols]
  obtain ⟨_, rfl⟩ := List.mem_replicate.1 hr
  refine ⟨by rw [List.length_replicate]; exact hc, by rw [List.length_replicate]; exact hc2, List.length_replicate, fun x hx => ?_⟩
  obtain ⟨_, rfl⟩ := List.mem_replicate.1 hx
  omega

theorem short_l0 (l : List ByteArray) (hl : l.length ≤ 1000000) : ∀ (d k i : Nat), l.length - i = d → i ≤ l.length → d < k →
    rillmeterref10_Short.l0 k l i = some (decide (∀ s ∈ l.drop i, s.size ≤ 100)) := by
  intro d
  induction d with
  | zero =>
    intro k i h0 h1 h2
    obtain ⟨k, rfl⟩ : ∃ m, k = m + 1 := ⟨k - 1, by omega⟩
    simp only [rillmeterref10_Short.l0]
    rw [if_neg (by omega), List.drop_of_length_le (by omega)]
    simp
  | succ d ih =>
    intro k i h0 h1 h2
    obtain ⟨k, rfl⟩ : ∃ m, k = m + 1 := ⟨k - 1, by omega⟩
    have g : i < l.length := by omega
    have e : rdOf ByteArray.empty l i = l[i] := by simp [rdOf, g]
    simp only [rillmeterref10_Short.l0]
    rw [if_pos (by omega), if_pos (by omega), e, i64_in ((i : Int) + 1) (by omega) (by omega), show (i : Int) + 1 = ((i + 1 : Nat) : Int) by omega, ih k (i + 1) (by omega) (by omega) (by omega), List.drop_eq_getElem_cons g]
    by_cases c : (l[i].size : Int) > 100
    · rw [if_pos c]
      exact congrArg some (decide_eq_false (fun h => by have := h l[i] List.mem_cons_self; omega)).symm
    · rw [if_neg c]
      exact congrArg some (decide_eq_decide.2 ⟨fun h s hs => by rcases List.mem_cons.1 hs with rfl | hs; omega; exact h s hs, fun h s hs => h s (List.mem_cons_of_mem _ hs)⟩)

theorem short_spec (k : Nat) (l : List ByteArray) (m : Int) (hm : 0 ≤ m ∧ m ≤ 1000) (hk : 1002 ≤ k) :
    rillmeterref10_Short.f k l m = some (decide ((l.length : Int) ≤ m ∧ ∀ s ∈ l, s.size ≤ 100)) := by
  unfold rillmeterref10_Short.f
  by_cases c : (l.length : Int) > m
  · rw [if_pos c]
    exact congrArg some (decide_eq_false (fun h => by omega)).symm
  · have h := short_l0 l (by omega) l.length k 0 (by omega) (by omega) (by omega)
    rw [show ((0 : Nat) : Int) = 0 from rfl, List.drop_zero] at h
    rw [if_neg c, h]
    exact congrArg some (decide_eq_decide.2 ⟨fun h => ⟨by omega, h⟩, fun h => h.2⟩)

theorem rmul_l0 (d : Nat) : ∀ (k : Nat) (x n out : Int), 0 ≤ x → x < 2305843009213693951 → 0 ≤ n → n < 2305843009213693951 → n < 2 ^ d → 0 ≤ out → out < 2305843009213693951 → d < k →
    rillmeterref01_Mul.l0 k x n out = some ((out + x * n) % 2305843009213693951) := by
  induction d with
  | zero =>
    intro k x n out x0 x1 n0 n1 nd o0 o1 hk
    obtain ⟨k, rfl⟩ : ∃ m, k = m + 1 := ⟨k - 1, by omega⟩
    have hn : n = 0 := by simp at nd; omega
    simp only [rillmeterref01_Mul.l0]
    rw [if_neg (by omega), hn]
    exact congrArg some (by simp; omega)
  | succ d ih =>
    intro k x n out x0 x1 n0 n1 nd o0 o1 hk
    obtain ⟨k, rfl⟩ : ∃ m, k = m + 1 := ⟨k - 1, by omega⟩
    simp only [rillmeterref01_Mul.l0]
    by_cases hp : n > 0
    · have hd : n / 2 < 2 ^ d := by rw [Int.pow_succ] at nd; omega
      rw [if_pos hp, Int.tmod_eq_emod_of_nonneg n0, Int.tdiv_eq_ediv_of_nonneg n0, u64_in (x + x) (by omega) (by omega), u64_in (n / 2) (by omega) (by omega),
        u64_in (out + x) (by omega) (by omega), Int.tmod_eq_emod_of_nonneg (by omega), Int.tmod_eq_emod_of_nonneg (by omega)]
      split
      · rw [ih k _ (n / 2) _ (by omega) (by omega) (by omega) (by omega) hd (by omega) (by omega) (by omega)]
        have e : n = 2 * (n / 2) + 1 := by omega
        refine congrArg some ?_
        generalize n / 2 = m at *
        subst e
        rw [Int.add_emod, Int.emod_emod, Int.mul_emod, Int.emod_emod, ← Int.mul_emod, ← Int.add_emod]
        exact congrArg (· % _) (by grind)
      · rw [ih k _ (n / 2) _ (by omega) (by omega) (by omega) (by omega) hd o0 o1 (by omega)]
        have e : n = 2 * (n / 2) := by omega
        refine congrArg some ?_
        generalize n / 2 = m at *
        subst e
        rw [Int.add_emod, Int.mul_emod, Int.emod_emod, ← Int.mul_emod, ← Int.add_emod]
        exact congrArg (· % _) (by grind)
    · have hn : n = 0 := by omega
      rw [if_neg hp, hn]
      exact congrArg some (by simp; omega)

theorem rmul_spec (k : Nat) (a b : Int) (h0 : 0 ≤ a) (g0 : 0 ≤ b) (hk : 65 ≤ k) :
    rillmeterref01_Mul.f k a b = some (a * b % 2305843009213693951) := by
  unfold rillmeterref01_Mul.f
  rw [Int.tmod_eq_emod_of_nonneg h0, Int.tmod_eq_emod_of_nonneg g0]
  rw [rmul_l0 61 k _ _ 0 (by omega) (by omega) (by omega) (by omega) (by omega) (by omega) (by omega) (by omega), Int.zero_add, ← Int.mul_emod]

theorem radd_spec (a b : Int) (h0 : 0 ≤ a) (g0 : 0 ≤ b) : rillmeterref01_Add.f a b = some ((a + b) % 2305843009213693951) := by
  unfold rillmeterref01_Add.f
  rw [Int.tmod_eq_emod_of_nonneg h0, Int.tmod_eq_emod_of_nonneg g0, u64_in _ (by omega) (by omega), Int.tmod_eq_emod_of_nonneg (by omega)]
  exact congrArg some (by omega)

theorem rpow_rec (d : Nat) : ∀ (k : Nat) (a n : Int), 0 ≤ a → a < 18446744073709551616 → 0 ≤ n → n < 18446744073709551616 → n < 2 ^ d → 66 + d ≤ k →
    rillmeterref01_Pow.f k a n = some (a ^ n.toNat % 2305843009213693951) := by
  induction d with
  | zero =>
    intro k a n x0 x1 n0 n1 nd hk
    obtain ⟨k, rfl⟩ : ∃ m, k = m + 1 := ⟨k - 1, by omega⟩
    have hn : n = 0 := by simp at nd; omega
    simp only [rillmeterref01_Pow.f]
    rw [if_pos hn, hn]
    exact congrArg some (by simp)
  | succ d ih =>
    intro k a n x0 x1 n0 n1 nd hk
    obtain ⟨k, rfl⟩ : ∃ m, k = m + 1 := ⟨k - 1, by omega⟩
    simp only [rillmeterref01_Pow.f]
    by_cases hp : n = 0
    · rw [if_pos hp, hp]
      exact congrArg some (by simp)
    · have hd : n / 2 < 2 ^ d := by rw [Int.pow_succ] at nd; omega
      rw [if_neg hp, Int.tmod_eq_emod_of_nonneg n0, Int.tdiv_eq_ediv_of_nonneg n0, u64_in (n / 2) (by omega) (by omega)]
      rw [ih k a (n / 2) x0 x1 (by omega) (by omega) hd (by omega)]
      simp only [Option.bind_some]
      rw [rmul_spec k _ _ (by omega) (by omega) (by omega)]
      simp only [Option.bind_some]
      have e2 : a ^ (n / 2).toNat % 2305843009213693951 * (a ^ (n / 2).toNat % 2305843009213693951) % 2305843009213693951 = a ^ (2 * (n.toNat / 2)) % 2305843009213693951 := by
        rw [← Int.mul_emod, ← Int.pow_add, show (n / 2).toNat + (n / 2).toNat = 2 * (n.toNat / 2) by omega]
      rw [e2]
      split
      · rw [rmul_spec k _ _ (by omega) x0 (by omega)]
        have e : n.toNat = 2 * (n.toNat / 2) + 1 := by omega
        refine congrArg some ?_
        rw [Int.mul_emod, Int.emod_emod, ← Int.mul_emod]
        conv => rhs; rw [e, Int.pow_succ]
      · have e : n.toNat = 2 * (n.toNat / 2) := by omega
        refine congrArg some ?_
        conv => rhs; rw [e]

theorem rpow_spec (k : Nat) (a n : Int) (h0 : 0 ≤ a) (h1 : a < 18446744073709551616) (g0 : 0 ≤ n) (g1 : n < 18446744073709551616) (hk : 130 ≤ k) :
    rillmeterref01_Pow.f k a n = some (a ^ n.toNat % 2305843009213693951) :=
  rpow_rec 64 k a n h0 h1 g0 g1 (by omega) (by omega)

theorem rrow_j0 (k : Nat) (seed i : Int) (h0 : 0 ≤ seed) (hi0 : 0 ≤ i) (hi : i < 9223372036854775808) (hk : 132 ≤ k) : rillmeterref02_Row.j0 k seed i = some (hrow seed i) := by
  obtain ⟨k, rfl⟩ : ∃ m, k = m + 1 := ⟨k - 1, by omega⟩
  simp only [rillmeterref02_Row.j0]
  unfold hrow hmid
  rw [if_neg (by omega), u64_in i (by omega) (by omega), radd_spec seed 3 h0 (by omega), radd_spec i 2 hi0 (by omega)]
  simp only [Option.bind_some]
  rw [rmul_spec k _ _ (by omega) (by omega) (by omega)]
  simp only [Option.bind_some]
  rw [radd_spec _ 5 (by omega) (by omega)]
  simp only [Option.bind_some]
  rw [rpow_spec k _ 2 (by omega) (by omega) (by omega) (by omega) (by omega), show (2 : Int).toNat = 2 from rfl]
  simp only [Option.bind_some]
  rw [show ∀ x : Int, x ^ 2 = x * x from fun x => by rw [Int.pow_succ, Int.pow_succ, Int.pow_zero, Int.one_mul]]

theorem rrow_spec (k : Nat) (seed i : Int) (h0 : 0 ≤ seed) (hi : i < 9223372036854775808) (hk : 132 ≤ k) : rillmeterref02_Row.f k seed i = some (hrow seed i) := by
  unfold rillmeterref02_Row.f
  by_cases a : i < 0
  · rw [if_pos a, rrow_j0 k seed 0 h0 (by omega) (by omega) hk]
    unfold hrow hmid
    rw [if_pos a, if_neg (by omega)]
  · rw [if_neg a, rrow_j0 k seed i h0 (by omega) hi hk]

theorem rof_spec (a : Int) (h0 : 0 ≤ a) : rillmeterref01_Of.f a = some (a % 2305843009213693951) := by
  unfold rillmeterref01_Of.f
  rw [Int.tmod_eq_emod_of_nonneg h0]

theorem strOf_nought : strOfNums [0] = (⟨#[0]⟩ : ByteArray) := by rfl

theorem rwords_l1 (s : ByteArray) (hs : s.size ≤ 1000100) (h4 : s.size % 4 = 0) : ∀ (m k j : Nat) (l : List Int), j + m = words s → l.length = j → m < k →
    rillmeterref02_words.l1 k s l (4 * j) = some (l ++ (List.range' j m).map (fun (i : Nat) => wordAt s (4 * (i : Int)))) := by
  intro m
  induction m with
  | zero =>
    intro k j l h0 hl hk
    obtain ⟨k, rfl⟩ : ∃ m, k = m + 1 := ⟨k - 1, by omega⟩
    unfold words at h0
    simp only [rillmeterref02_words.l1]
    rw [if_neg (by omega)]
    simp
  | succ m ih =>
    intro k j l h0 hl hk
    obtain ⟨k, rfl⟩ : ∃ m, k = m + 1 := ⟨k - 1, by omega⟩
    have hw : words s = (s.size + 3) / 4 := rfl
    have b0 := bt_range s (4 * j)
    have b1 := bt_range s (4 * j + 1)
    have b2 := bt_range s (4 * j + 2)
    have b3 := bt_range s (4 * j + 3)
    simp only [rillmeterref02_words.l1]
    rw [i64_in (4 * (j : Int) + 1) (by omega) (by omega), i64_in (4 * (j : Int) + 2) (by omega) (by omega), i64_in (4 * (j : Int) + 3) (by omega) (by omega), i64_in (4 * (j : Int) + 4) (by omega) (by omega)]
    rw [if_pos (by omega), if_pos (by omega), if_pos (by omega), if_pos (by omega), if_pos (by omega), if_pos (by omega), if_pos (by omega), if_pos (by omega), if_pos (by omega)]
    rw [u64_in (bt s (4 * j)) (by omega) (by omega), u64_in (bt s (4 * j + 1)) (by omega) (by omega), u64_in (bt s (4 * j + 2)) (by omega) (by omega), u64_in (bt s (4 * j + 3)) (by omega) (by omega),
      u64_in (bt s (4 * j) * 16777216) (by omega) (by omega), u64_in (bt s (4 * j + 1) * 65536) (by omega) (by omega), u64_in (bt s (4 * j + 2) * 256) (by omega) (by omega),
      u64_in (bt s (4 * j) * 16777216 + bt s (4 * j + 1) * 65536) (by omega) (by omega), u64_in (_ + bt s (4 * j + 2) * 256) (by omega) (by omega), u64_in (_ + bt s (4 * j + 3)) (by omega) (by omega)]
    rw [show 4 * (j : Int) + 4 = 4 * ((j + 1 : Nat) : Int) by omega, ih k (j + 1) _ (by omega) (by simp [hl]) (by omega)]
    rw [List.range'_succ, List.map_cons, List.append_assoc]
    have e : bt s (4 * j) * 16777216 + bt s (4 * j + 1) * 65536 + bt s (4 * j + 2) * 256 + bt s (4 * j + 3) = wordAt s (4 * j) := by unfold wordAt; omega
    rw [e]
    rfl

theorem words_push (s : ByteArray) (h : s.size % 4 ≠ 0) : words (s ++ (⟨#[0]⟩ : ByteArray)) = words s := by
  have hsz : (s ++ (⟨#[0]⟩ : ByteArray)).size = s.size + 1 := by rw [ByteArray.size_append]; rfl
  unfold words
  omega

theorem rwords_l0 : ∀ (d k : Nat) (s : ByteArray), s.size + d ≤ 1000050 → (4 - s.size % 4) % 4 = d → d ≤ 3 → words s + d + 2 ≤ k →
    rillmeterref02_words.l0 k s = some ((List.range' 0 (words s)).map (fun (i : Nat) => wordAt s (4 * (i : Int)))) := by
  intro d
  induction d with
  | zero =>
    intro k s hs hd _ hk
    obtain ⟨k, rfl⟩ : ∃ m, k = m + 1 := ⟨k - 1, by omega⟩
    simp only [rillmeterref02_words.l0]
    rw [if_pos (by omega)]
    have h := rwords_l1 s (by omega) (by omega) (words s) k 0 [] (by omega) rfl (by omega)
    rw [show (4 * ((0 : Nat) : Int)) = 0 from rfl] at h
    rw [h]; simp
  | succ d ih =>
    intro k s hs hd h3 hk
    obtain ⟨k, rfl⟩ : ∃ m, k = m + 1 := ⟨k - 1, by omega⟩
    have hsz : (s ++ (⟨#[0]⟩ : ByteArray)).size = s.size + 1 := by rw [ByteArray.size_append]; rfl
    have h1 : (⟨#[0]⟩ : ByteArray).size = 1 := rfl
    simp only [rillmeterref02_words.l0]
    rw [if_neg (by omega)]
    simp only [Option.bind_some, strOf_nought]
    rw [h1, if_pos (by omega)]
    by_cases hd0 : d = 0
    · subst hd0
      rw [ih k (s ++ (⟨#[0]⟩ : ByteArray)) (by omega) (by omega) (by omega) (by rw [words_push s (by omega)]; omega), words_push s (by omega)]
      simp only [wordAt_push]
    · rw [ih k (s ++ (⟨#[0]⟩ : ByteArray)) (by omega) (by omega) (by omega) (by rw [words_push s (by omega)]; omega), words_push s (by omega)]
      simp only [wordAt_push]

theorem rwords_spec (k : Nat) (s : ByteArray) (hs : s.size ≤ 1000000) (hk : words s + 5 ≤ k) :
    rillmeterref02_words.f k s = some ((List.range' 0 (words s)).map (fun (i : Nat) => wordAt s (4 * (i : Int)))) :=
  rwords_l0 ((4 - s.size % 4) % 4) k s (by omega) rfl (by omega) (by omega)

theorem rsum_l0 (s : ByteArray) (a : Int) (a0 : 0 ≤ a) (a1 : a < 18446744073709551616) (hW : words s ≤ 1000000) : ∀ (m k j : Nat) (n : Int), j + m = words s → 0 ≤ n → n < 2305843009213693951 → m + 131 ≤ k →
    rillmeterref02_Sum.l0 k a n ((List.range' 0 (words s)).map (fun (i : Nat) => wordAt s (4 * (i : Int)))) j = some ((roll s a m n (4 * j) * a) ^ 17 % 2305843009213693951) := by
  intro m
  induction m with
  | zero =>
    intro k j n hj n0 n1 hk
    obtain ⟨k, rfl⟩ : ∃ m, k = m + 1 := ⟨k - 1, by omega⟩
    simp only [rillmeterref02_Sum.l0]
    rw [if_neg (by simp; omega), rmul_spec k a n a0 n0 (by omega)]
    simp only [Option.bind_some]
    rw [rpow_spec k _ 17 (by omega) (by omega) (by omega) (by omega) (by omega), show (17 : Int).toNat = 17 from rfl, pow_emod, Int.mul_comm a n]
    rfl
  | succ m ih =>
    intro k j n hj n0 n1 hk
    obtain ⟨k, rfl⟩ : ∃ m, k = m + 1 := ⟨k - 1, by omega⟩
    have hw := wordAt_range s (4 * j)
    have e : rd ((List.range' 0 (words s)).map (fun (i : Nat) => wordAt s (4 * (i : Int)))) j = wordAt s (4 * j) := by
      simp [rd, show j < words s by omega]
    simp only [rillmeterref02_Sum.l0]
    rw [if_pos (by simp; omega), rmul_spec k a n a0 n0 (by omega), e]
    simp only [Option.bind_some]
    rw [if_pos (by omega), radd_spec _ 1 hw.1 (by omega)]
    simp only [Option.bind_some]
    rw [radd_spec _ _ (by omega) (by omega), i64_in ((j : Int) + 1) (by omega) (by omega)]
    simp only [Option.bind_some]
    rw [show (j : Int) + 1 = ((j + 1 : Nat) : Int) by omega, ih k (j + 1) _ (by omega) (by omega) (by omega) (by omega)]
    simp only [roll]
    rw [show (4 * ((j + 1 : Nat) : Int)) = 4 * (j : Int) + 4 by omega, Int.mul_comm a n]
    have e2 : (n * a % 2305843009213693951 + (wordAt s (4 * j) + 1) % 2305843009213693951) % 2305843009213693951 = (n * a + wordAt s (4 * j) + 1) % 2305843009213693951 := by omega
    rw [e2]

theorem rsum_spec (k : Nat) (seed : Int) (s : ByteArray) (hs : s.size ≤ 1000000) (h0 : 0 ≤ seed) (hk : words s + 135 ≤ k) :
    rillmeterref02_Sum.f k seed s = some (hsum seed s) := by
  unfold rillmeterref02_Sum.f hsum
  have hw : words s = (s.size + 3) / 4 := rfl
  rw [radd_spec seed 2 h0 (by omega), u64_in _ (by omega) (by omega), rof_spec _ (by omega), rwords_spec k s hs (by omega)]
  simp only [Option.bind_some]
  have h := rsum_l0 s ((seed + 2) % 2305843009213693951) (by omega) (by omega) (by omega) (words s) k 0 ((s.size : Int) % 2305843009213693951) (by omega) (by omega) (by omega) (by omega)
  rw [show ((0 : Nat) : Int) = 0 from rfl, show (4 * (0 : Int)) = 0 from rfl, show (s.size : Int) % 2305843009213693951 = s.size by omega] at h
  rw [show (s.size : Int) % 2305843009213693951 = s.size by omega]
  exact h

theorem rcell_spec (k : Nat) (seed : Int) (key : ByteArray) (n : Int) (hs : key.size ≤ 1000000) (h0 : 0 ≤ seed) (hn : n < 9223372036854775808) (hk : words key + 135 ≤ k) :
    rillmeterref02_Cell.f k seed key n = some (hcell seed key n) := by
  unfold rillmeterref02_Cell.f hcell
  by_cases a : n < 1
  · rw [if_pos a, if_pos a]
  · rw [if_neg a, if_neg a, rsum_spec k seed key hs h0 hk]
    simp only [Option.bind_some]
    have r := hsum_range seed key
    have r1 := Int.emod_nonneg (hsum seed key) (b := n) (by omega)
    have r2 := Int.emod_lt_of_pos (hsum seed key) (b := n) (by omega)
    rw [u64_in n (by omega) (by omega), if_neg (by omega), Int.tmod_eq_emod_of_nonneg r.1, i64_in _ (by omega) (by omega)]

-- SKIP

theorem awake15 : rillmeterlaw15_awake.f 400 = some true := by decide +kernel
theorem awake15_spec : Evt (fun k => rillmeterlaw15_awake.f k) true := ⟨400, fun k hk => at_rounds (g := fun k => rillmeterlaw15_awake.f k) rillmeterlaw15_awake.mono hk awake15⟩
def newOk (b r v n c : Int) : Prop := 1 ≤ b ∧ b ≤ 256 ∧ 1 ≤ r ∧ r ≤ 8 ∧ 1 ≤ v ∧ v ≤ 64 ∧ 1 ≤ n ∧ n ≤ 7 ∧ 1 ≤ c ∧ c ≤ 256
instance (b r v n c : Int) : Decidable (newOk b r v n c) := inferInstanceAs (Decidable (1 ≤ b ∧ b ≤ 256 ∧ 1 ≤ r ∧ r ≤ 8 ∧ 1 ≤ v ∧ v ≤ 64 ∧ 1 ≤ n ∧ n ≤ 7 ∧ 1 ≤ c ∧ c ≤ 256))
/-- no entry in any bucket -/
def noB (b : Int) : List S56 := List.replicate b.toNat z56
def noL (n c : Int) : List (List Int) := List.replicate n.toNat (List.replicate c.toNat 0)
theorem elnew_spec (s b r v n c : Int) (h0 : 0 ≤ s) (h1 : s < 18446744073709551616) : Evt (fun k => elastic_New.f k s b r v n c) (if newOk b r v n c then (s, r, v, noB b, hrow s 1, 255, noL n c, 0) else (0, 0, 0, [], 0, 0, [], 1)) := by
  refine ⟨20, fun k hk => ?_⟩
  simp only [elastic_New.f]
  rw [row_spec s 1 h0 h1 (by decide), Option.bind_some, new_spec k _ _ _ _ hk, Option.bind_some]
  by_cases g : 1 ≤ n ∧ n ≤ 7 ∧ 1 ≤ c ∧ c ≤ 256
  · rw [if_pos (show 1 ≤ n ∧ n ≤ 7 ∧ 1 ≤ c ∧ c ≤ 256 ∧ (1 : Int) ≤ 255 ∧ (255 : Int) ≤ 1099511627776 from ⟨g.1, g.2.1, g.2.2.1, g.2.2.2, by decide, by decide⟩)]
    simp only
    rw [if_pos trivial]
    by_cases g2 : newOk b r v n c
    · rw [if_pos g2]
      obtain ⟨g3, g4, g5, g6, g7, g8, _⟩ := g2
      rw [if_neg (by omega), if_neg (by omega), if_neg (by omega), if_neg (by omega), if_neg (by omega), if_neg (by omega), if_pos (by omega), if_pos (by omega)]
      rfl
    · rw [if_neg g2]
      by_cases q1 : b < 1
      · rw [if_pos q1]
      · rw [if_neg q1]
        by_cases q2 : b > 256
        · rw [if_pos q2]
        · rw [if_neg q2]
          by_cases q3 : r < 1
          · rw [if_pos q3]
          · rw [if_neg q3]
            by_cases q4 : r > 8
            · rw [if_pos q4]
            · rw [if_neg q4]
              by_cases q5 : v < 1
              · rw [if_pos q5]
              · rw [if_neg q5]
                by_cases q6 : v > 64
                · rw [if_pos q6]
                · exact absurd ⟨by omega, by omega, by omega, by omega, by omega, by omega, g⟩ g2
  · rw [if_neg (show ¬ (1 ≤ n ∧ n ≤ 7 ∧ 1 ≤ c ∧ c ≤ 256 ∧ (1 : Int) ≤ 255 ∧ (255 : Int) ≤ 1099511627776) from fun h => g ⟨h.1, h.2.1, h.2.2.1, h.2.2.2.1⟩)]
    simp only
    rw [if_neg (by decide), if_neg (show ¬ newOk b r v n c from fun h => g ⟨h.2.2.2.2.2.2.1, h.2.2.2.2.2.2.2.1, h.2.2.2.2.2.2.2.2.1, h.2.2.2.2.2.2.2.2.2⟩)]

/-- as the document's -/
def cvE (y : S76) : S77 := ⟨y.f0, y.f1, y.f2⟩
def cvB (y : S56) : S74 := ⟨y.f0.map cvE, y.f1⟩
theorem take56 (l : List S56) (i : Nat) (h : i < l.length) : l.take (i + 1) = l.take i ++ [rd_T56 l (i : Int)] ∧ rd_T56 l (i : Int) ∈ l := by
  refine ⟨?_, ?_⟩
  · rw [List.take_add_one, List.getElem?_eq_getElem (by omega)]
    simp [rd_T56, List.getD_eq_getElem?_getD, h]
  · unfold rd_T56
    rw [Int.toNat_natCast, List.getD_eq_getElem?_getD, List.getElem?_eq_getElem h]
    exact List.getElem_mem _
theorem take76 (l : List S76) (i : Nat) (h : i < l.length) : l.take (i + 1) = l.take i ++ [rd_T76 l (i : Int)] ∧ rd_T76 l (i : Int) ∈ l := by
  refine ⟨?_, ?_⟩
  · rw [List.take_add_one, List.getElem?_eq_getElem (by omega)]
    simp [rd_T76, List.getD_eq_getElem?_getD, h]
  · unfold rd_T76
    rw [Int.toNat_natCast, List.getD_eq_getElem?_getD, List.getElem?_eq_getElem h]
    exact List.getElem_mem _
theorem tl_inj {a b : ByteArray} : a.toList = b.toList ↔ a = b := by
  rw [ByteArray.toList_eq, ByteArray.toList_eq]
  constructor
  · intro h
    apply ByteArray.ext
    exact Array.toList_inj.1 h
  · intro h; rw [h]
/-- the keys of entries -/
def keysE (l : List S76) : List ByteArray := l.map (·.f0)
theorem go_spec (key : ByteArray) : ∀ (l : List S76) (i : Nat), (key ∉ keysE l ∧ elastic_find.go key l i = -1) ∨ ∃ j, j < l.length ∧ (rd_T76 l (j : Int)).f0 = key ∧ elastic_find.go key l i = ((i + j : Nat) : Int) ∧ key ∈ keysE l := by
  intro l
  induction l with
  | nil => intro i; exact .inl ⟨by simp [keysE], rfl⟩
  | cons y l ih =>
    intro i
    rw [elastic_find.go]
    by_cases h : y.f0 = key
    · rw [if_pos (tl_inj.2 h)]
      exact .inr ⟨0, by simp, h, by simp, by simp [keysE, h]⟩
    · rw [if_neg (fun g => h (tl_inj.1 g))]
      rcases ih (i + 1) with ⟨h1, h2⟩ | ⟨j, h1, h2, h3, h4⟩
      · refine .inl ⟨?_, h2⟩
        simp only [keysE, List.map_cons, List.mem_cons, not_or] at h1 ⊢
        exact ⟨fun g => h g.symm, h1⟩
      · refine .inr ⟨j + 1, by simp; omega, ?_, ?_, ?_⟩
        · rw [← h2]
          unfold rd_T76
          simp [List.getD_eq_getElem?_getD]
        · rw [h3]; omega
        · simp only [keysE, List.map_cons, List.mem_cons] at h4 ⊢
          exact .inr h4
theorem go_at : ∀ (l : List S76) (i j : Nat), (keysE l).Nodup → j < l.length → elastic_find.go (rd_T76 l (j : Int)).f0 l i = ((i + j : Nat) : Int) := by
  intro l
  induction l with
  | nil => intro i j _ h; exact absurd h (Nat.not_lt_zero _)
  | cons y l ih =>
    intro i j hn hj
    have hn' : y.f0 ∉ keysE l ∧ (keysE l).Nodup := by simpa [keysE] using hn
    cases j with
    | zero =>
      rw [elastic_find.go, if_pos (by rfl)]; simp
    | succ j =>
      have e : rd_T76 (y :: l) ((j + 1 : Nat) : Int) = rd_T76 l (j : Int) := by unfold rd_T76; simp [List.getD_eq_getElem?_getD]
      have hj' : j < l.length := by simpa using hj
      have hm : (rd_T76 l (j : Int)).f0 ∈ keysE l := List.mem_map.2 ⟨_, (take76 l j hj').2, rfl⟩
      rw [e, elastic_find.go, if_neg (fun g => hn'.1 (by rw [tl_inj.1 g]; exact hm)), ih (i + 1) j hn'.2 hj']
      congr 1; omega
/-- a bucket that was fed t keys at most -/
def bOk (r t : Int) (y : S56) : Prop := (y.f0.length : Int) ≤ r ∧ (0 ≤ y.f1 ∧ y.f1 ≤ t) ∧ (∀ e ∈ y.f0, 1 ≤ e.f1 ∧ e.f1 ≤ t) ∧ (keysE y.f0).Nodup ∧ ∀ e ∈ y.f0, e.f0.size ≤ 1000
theorem bucket_ok (r t : Int) (hr : r ≤ 8) (ht : t ≤ 1000000) (y : S56) (h : bOk r t y) : ∀ k, 20 ≤ k → elastic_Bucket_right.f k y.f0 y.f1 r = some true := by
  obtain ⟨h1, h2, h3, h4, _⟩ := h
  have main : ∀ (d i k : Nat), i + d = y.f0.length → d < k → elastic_Bucket_right.l0 k r y.f0 (y.f0.length : Int) (i : Int) y.f0 y.f1 = some true := by
    intro d
    induction d with
    | zero =>
      intro i k hi hk
      obtain ⟨k, rfl⟩ : ∃ z, k = z + 1 := ⟨k - 1, by omega⟩
      simp only [elastic_Bucket_right.l0]
      rw [if_neg (by omega), if_pos h1, if_pos (by omega), decide_eq_true (by omega)]
    | succ d ih =>
      intro i k hi hk
      obtain ⟨k, rfl⟩ : ∃ z, k = z + 1 := ⟨k - 1, by omega⟩
      obtain ⟨_, hm⟩ := take76 y.f0 i (by omega)
      have hv := h3 _ hm
      simp only [elastic_Bucket_right.l0]
      rw [if_pos (by omega), if_pos (by omega), if_pos (by omega), if_neg (by omega), if_neg (by omega)]
      simp only [elastic_find.f]
      rw [if_pos (by omega), Option.bind_some, go_at y.f0 0 i h4 (by omega), if_neg (by omega), i64_in ((i : Int) + 1) (by omega) (by omega), show (i : Int) + 1 = ((i + 1 : Nat) : Int) by omega]
      exact ih (i + 1) k (by omega) (by omega)
  intro k hk
  exact main y.f0.length 0 k (by omega) (by omega)
theorem any_ok (r t : Int) (hr : r ≤ 8) (ht : t ≤ 1000000) (k : Nat) (hk : 20 ≤ k) : ∀ B : List S56, (∀ y ∈ B, bOk r t y) → elastic_Bucket_44.any k r B = some false := by
  intro B
  induction B with
  | nil => intro _; rfl
  | cons y l ih =>
    intro h
    rw [elastic_Bucket_44.any, List.foldr_cons, ← elastic_Bucket_44.any, ih (fun z hz => h z (List.mem_cons_of_mem _ hz)), bucket_ok r t hr ht y (h y List.mem_cons_self) k hk, Option.bind_some, if_pos rfl]
/-- a sketch that was fed t keys -/
structure Fed (s r v t : Int) (B : List S56) (rows : List (List Int)) : Prop where
  s0 : 0 ≤ s
  s1 : s < 18446744073709551616
  r0 : 1 ≤ r
  r1 : r ≤ 8
  v0 : 1 ≤ v
  v1 : v ≤ 64
  b0 : 1 ≤ B.length
  b1 : B.length ≤ 256
  t0 : 0 ≤ t
  t1 : t ≤ 1000
  lt : rightL 255 rows
  bs : ∀ y ∈ B, bOk r t y
theorem right_fed {s r v t : Int} {B : List S56} {rows : List (List Int)} (h : Fed s r v t B rows) (k : Nat) (hk : 300 ≤ k) : elastic_Right.f k s r v B (hrow s 1) 255 rows = some true := by
  simp only [elastic_Right.f]
  rw [if_pos h.r0, if_pos h.r1, if_pos h.v0, if_pos h.v1, if_pos (by have := h.b0; omega), if_pos (by have := h.b1; omega), right_spec k _ _ _ hk, decide_eq_true h.lt, Option.bind_some, if_pos rfl, row_spec s 1 h.s0 h.s1 (by decide), Option.bind_some, if_pos rfl, if_pos trivial]
  unfold elastic_Bucket_44.f
  rw [if_pos (by have := h.b1; omega), any_ok r t h.r1 (by have := h.t1; omega) k (by omega) B h.bs]
  rfl
/-- the place of a key -/
def placeOf (s : Int) (n : Nat) (key : ByteArray) : Nat := (hcell (hrow s 0) key n).toNat
theorem place_lt (s : Int) (n : Nat) (key : ByteArray) (h : 1 ≤ n) : placeOf s n key < n ∧ hcell (hrow s 0) key n = (placeOf s n key : Int) := by
  have := hcell_range (hrow s 0) key n (by omega)
  unfold placeOf; omega
theorem bucket_spec {s : Int} (h0 : 0 ≤ s) (h1 : s < 18446744073709551616) (r v : Int) (B : List S56) (hB : B.length ≤ 256) (hB1 : 1 ≤ B.length) (H m : Int) (rows : List (List Int)) (key : ByteArray) (hk : key.size ≤ 1000) (k : Nat) (hk2 : 2000 ≤ k) : elastic_bucket.f k s r v B H m rows key = some (placeOf s B.length key : Int) := by
  have hw := words_le key 250 (by omega)
  have hr := hrow_range s 0
  simp only [elastic_bucket.f]
  rw [row_spec s 0 h0 h1 (by decide), Option.bind_some, cell_spec k (hrow s 0) key B.length (by omega) hr.1 (by omega) (by omega) (by omega), Option.bind_some, (place_lt s B.length key hB1).2]
theorem lst_bucket (B : List S56) (h : B.length ≤ 256) : elastic_Bucket_32.f B = some B := by
  simp only [elastic_Bucket_32.f, Option.bind_some]
  rw [if_pos (by simp; omega)]; rfl
theorem lst_entry (l : List S76) (h : l.length ≤ 256) : elastic_Entry_29.f l = some l := by
  simp only [elastic_Entry_29.f, Option.bind_some]
  rw [if_pos (by simp; omega)]; rfl
theorem mem_set76 {l : List S76} {j : Nat} {x e : S76} (h : e ∈ l.set j x) : e = x ∨ e ∈ l := by
  rcases List.mem_or_eq_of_mem_set h with h | h
  · exact .inr h
  · exact .inl h
/-- what voting does: nothing but to the light ones, or an entry goes there and the key takes its place -/
theorem vote_spec {s v t H : Int} (hH0 : 0 ≤ H) (hH1 : H < 18446744073709551616) (hv : 1 ≤ v ∧ v ≤ 64) (ht : 0 ≤ t ∧ t ≤ 1000) (r : Int) (B : List S56) (rows : List (List Int)) (hlt : rightL 255 rows) (es : List S76) (hl1 : 1 ≤ es.length) (hl : es.length ≤ 8) (he : ∀ e ∈ es, (1 ≤ e.f1 ∧ e.f1 ≤ t) ∧ e.f0.size ≤ 1000) (ag : Int) (key : ByteArray) (hkey : key.size ≤ 1000) :
    ∃ es' ag' rows', Evt (fun k => elastic_vote.f k s r v B H 255 rows es ag key) (es', ag', H, 255, rows') ∧ ((es' = es ∧ ag' = ag ∧ rows' = addRows H 255 key 1 rows) ∨ ∃ j, j < es.length ∧ es' = es.set j ⟨key, 1, true⟩ ∧ ag' = 0 ∧ rows' = addRows H 255 (rd_T76 es (j : Int)).f0 (rd_T76 es (j : Int)).f1 rows) := by
  have main : ∀ (d i j : Nat), i + d = es.length → j < es.length → ∃ es' ag' rows', Evt (fun k => elastic_vote.l0 k key (j : Int) es (es.length : Int) (i : Int) s r v B H 255 rows es ag) (es', ag', H, 255, rows') ∧ ((es' = es ∧ ag' = ag ∧ rows' = addRows H 255 key 1 rows) ∨ ∃ j, j < es.length ∧ es' = es.set j ⟨key, 1, true⟩ ∧ ag' = 0 ∧ rows' = addRows H 255 (rd_T76 es (j : Int)).f0 (rd_T76 es (j : Int)).f1 rows) := by
    intro d
    induction d with
    | zero =>
      intro i j hi hj
      obtain ⟨_, hm⟩ := take76 es j hj
      obtain ⟨⟨h1, h2⟩, h3⟩ := he _ hm
      have hmul : v * (rd_T76 es (j : Int)).f1 ≤ 64 * 1000 := Int.le_trans (Int.mul_le_mul_of_nonneg_right hv.2 (by omega)) (Int.mul_le_mul_of_nonneg_left (by omega) (by decide))
      have hmul0 : 0 ≤ v * (rd_T76 es (j : Int)).f1 := Int.mul_nonneg (by omega) (by omega)
      have hw : wrap64 (v * (rd_T76 es (j : Int)).f1) = v * (rd_T76 es (j : Int)).f1 := i64_in _ (by omega) (by omega)
      by_cases c : ag < v * (rd_T76 es (j : Int)).f1
      · refine ⟨es, ag, addRows H 255 key 1 rows, ⟨2101, fun k hk => ?_⟩, .inl ⟨rfl, rfl, rfl⟩⟩
        obtain ⟨k, rfl⟩ : ∃ z, k = z + 1 := ⟨k - 1, by omega⟩
        simp only [elastic_vote.l0]
        rw [if_neg (by omega), if_pos (by omega), if_pos (by omega), hw, if_pos c, addf_spec k H 255 1 key rows hH0 hH1 hkey (by omega), if_pos ⟨hlt, by decide, by decide⟩]
        rfl
      · refine ⟨es.set j ⟨key, 1, true⟩, 0, addRows H 255 (rd_T76 es (j : Int)).f0 (rd_T76 es (j : Int)).f1 rows, ⟨2101, fun k hk => ?_⟩, .inr ⟨j, hj, rfl, rfl, rfl⟩⟩
        obtain ⟨k, rfl⟩ : ∃ z, k = z + 1 := ⟨k - 1, by omega⟩
        simp only [elastic_vote.l0]
        rw [if_neg (by omega), if_pos (by omega), if_pos (by omega), hw, if_neg c, addf_spec k H 255 (rd_T76 es (j : Int)).f1 (rd_T76 es (j : Int)).f0 rows hH0 hH1 h3 (by omega), if_pos ⟨hlt, by omega, by omega⟩, Int.toNat_natCast]
        rfl
    | succ d ih =>
      intro i j hi hj
      by_cases c : (rd_T76 es (i : Int)).f1 < (rd_T76 es (j : Int)).f1
      · obtain ⟨e1, e2, e3, h1, h2⟩ := ih (i + 1) i (by omega) (by omega)
        refine ⟨e1, e2, e3, Evt.step h1 (fun k => ?_), h2⟩
        simp only [elastic_vote.l0]
        rw [if_pos (by omega), if_pos (by omega), if_pos (by omega), if_pos (by omega), if_pos (by omega), if_pos c, i64_in ((i : Int) + 1) (by omega) (by omega)]
        rfl
      · obtain ⟨e1, e2, e3, h1, h2⟩ := ih (i + 1) j (by omega) hj
        refine ⟨e1, e2, e3, Evt.step h1 (fun k => ?_), h2⟩
        simp only [elastic_vote.l0]
        rw [if_pos (by omega), if_pos (by omega), if_pos (by omega), if_pos (by omega), if_pos (by omega), if_neg c, i64_in ((i : Int) + 1) (by omega) (by omega)]
        rfl
  obtain ⟨e1, e2, e3, h1, h2⟩ := main es.length 0 0 (by omega) (by omega)
  exact ⟨e1, e2, e3, h1.eq (fun k => rfl), h2⟩
theorem keys_set (l : List S76) (j : Nat) (x : S76) : keysE (l.set j x) = (keysE l).set j x.f0 := by
  unfold keysE; rw [List.map_set]
theorem nodup_set {α : Type} : ∀ (l : List α) (j : Nat) (x : α), l.Nodup → x ∉ l → (l.set j x).Nodup := by
  intro l
  induction l with
  | nil => intro j x _ _; exact List.nodup_nil
  | cons y l ih =>
    intro j x h hx
    rw [List.nodup_cons] at h
    rw [List.mem_cons, not_or] at hx
    cases j with
    | zero => rw [List.set_cons_zero, List.nodup_cons]; exact ⟨hx.2, h.2⟩
    | succ j =>
      rw [List.set_cons_succ, List.nodup_cons]
      refine ⟨fun g => ?_, ih j x h.2 hx.2⟩
      rcases List.mem_or_eq_of_mem_set g with g | g
      · exact h.1 g
      · exact hx.1 g.symm
theorem set_same {α : Type} : ∀ (l : List α) (j : Nat) (x : α), l[j]? = some x → l.set j x = l := by
  intro l
  induction l with
  | nil => intro j x h; rfl
  | cons y l ih =>
    intro j x h
    cases j with
    | zero => simp at h; rw [List.set_cons_zero, h]
    | succ j => rw [List.set_cons_succ, ih j x (by simpa using h)]
theorem rd76 (l : List S76) (j : Nat) (h : j < l.length) : l[j]? = some (rd_T76 l (j : Int)) := by
  rw [List.getElem?_eq_getElem h]; simp [rd_T76, List.getD_eq_getElem?_getD, h]
theorem rd56 (l : List S56) (j : Nat) (h : j < l.length) : l[j]? = some (rd_T56 l (j : Int)) := by
  rw [List.getElem?_eq_getElem h]; simp [rd_T56, List.getD_eq_getElem?_getD, h]
/-- one key more: always a sketch that was fed one more; told whole where the key has or finds a place -/
theorem add_fed {s r v t : Int} {B : List S56} {rows : List (List Int)} (h : Fed s r v t B rows) (ht : t < 1000) (key : ByteArray) (hkey : key.size ≤ 1000) :
    ∃ y' rows', Evt (fun k => elastic_Add.f k s r v B (hrow s 1) 255 rows key) (s, r, v, B.set (placeOf s B.length key) y', hrow s 1, 255, rows', 0) ∧ Fed s r v (t + 1) (B.set (placeOf s B.length key) y') rows' ∧
      ((∃ j, j < (rd_T56 B (placeOf s B.length key : Int)).f0.length ∧ (rd_T76 (rd_T56 B (placeOf s B.length key : Int)).f0 (j : Int)).f0 = key ∧ rows' = rows ∧ y' = ⟨(rd_T56 B (placeOf s B.length key : Int)).f0.set j ⟨key, (rd_T76 (rd_T56 B (placeOf s B.length key : Int)).f0 (j : Int)).f1 + 1, (rd_T76 (rd_T56 B (placeOf s B.length key : Int)).f0 (j : Int)).f2⟩, (rd_T56 B (placeOf s B.length key : Int)).f1⟩) ∨
       (key ∉ keysE (rd_T56 B (placeOf s B.length key : Int)).f0 ∧ ((rd_T56 B (placeOf s B.length key : Int)).f0.length : Int) < r ∧ rows' = rows ∧ y' = ⟨(rd_T56 B (placeOf s B.length key : Int)).f0 ++ [⟨key, 1, false⟩], (rd_T56 B (placeOf s B.length key : Int)).f1⟩) ∨
       (key ∉ keysE (rd_T56 B (placeOf s B.length key : Int)).f0 ∧ r ≤ ((rd_T56 B (placeOf s B.length key : Int)).f0.length : Int) ∧ ((y' = ⟨(rd_T56 B (placeOf s B.length key : Int)).f0, (rd_T56 B (placeOf s B.length key : Int)).f1 + 1⟩ ∧ rows' = addRows (hrow s 1) 255 key 1 rows) ∨
         ∃ j, j < (rd_T56 B (placeOf s B.length key : Int)).f0.length ∧ y' = ⟨(rd_T56 B (placeOf s B.length key : Int)).f0.set j ⟨key, 1, true⟩, 0⟩ ∧ rows' = addRows (hrow s 1) 255 (rd_T76 (rd_T56 B (placeOf s B.length key : Int)).f0 (j : Int)).f0 (rd_T76 (rd_T56 B (placeOf s B.length key : Int)).f0 (j : Int)).f1 rows))) := by
  have hp := (place_lt s B.length key h.b0).1
  have hbs := bucket_spec h.s0 h.s1 r v B h.b1 h.b0 (hrow s 1) 255 rows key hkey
  have hB1 := h.b1
  generalize placeOf s B.length key = p at *
  have hm := (take56 B p hp).2
  have hb := h.bs _ hm
  generalize hy : rd_T56 B (p : Int) = y at *
  obtain ⟨es, ag⟩ := y
  obtain ⟨q1, q2, q3, q4, q5⟩ := hb
  simp only at q1 q2 q3 q4 q5
  have hr1 := h.r1
  have hr0 := h.r0
  have ht0 := h.t0
  -- the sketch behind: the other buckets as they were
  have fed' : ∀ (y' : S56) (rows' : List (List Int)), bOk r (t + 1) y' → rightL 255 rows' → Fed s r v (t + 1) (B.set p y') rows' := by
    intro y' rows' h1 h2
    refine ⟨h.s0, h.s1, h.r0, h.r1, h.v0, h.v1, by rw [List.length_set]; exact h.b0, by rw [List.length_set]; exact h.b1, by omega, by omega, h2, fun z hz => ?_⟩
    rcases List.mem_or_eq_of_mem_set hz with hz | hz
    · obtain ⟨w1, w2, w3, w4, w5⟩ := h.bs z hz
      exact ⟨w1, ⟨w2.1, by omega⟩, fun e he => ⟨(w3 e he).1, by have := (w3 e he).2; omega⟩, w4, w5⟩
    · rw [hz]; exact h1
  have hlen : es.length ≤ 8 := by omega
  have start : ∀ (k : Nat), 2000 ≤ k → elastic_Add.f k s r v B (hrow s 1) 255 rows key = (if elastic_find.go key es 0 ≥ 0 then (if 0 ≤ elastic_find.go key es 0 then (if elastic_find.go key es 0 < (es.length : Int) then (elastic_Add.j0 k key (p : Int) (elastic_find.go key es 0) (((rd_T76 es (elastic_find.go key es 0)).f1) == 1099511627776) s r v B (hrow s 1) 255 rows es ag) else (none)) else (none)) else (elastic_Add.j0 k key (p : Int) (elastic_find.go key es 0) false s r v B (hrow s 1) 255 rows es ag)) := by
    intro k hk
    simp only [elastic_Add.f]
    rw [right_fed h k (by omega), Option.bind_some, if_pos rfl, hbs k hk, Option.bind_some, if_pos (by omega), if_pos (by omega), hy, lst_entry es (by omega), Option.bind_some]
    simp only [elastic_find.f]
    rw [if_pos (by omega), Option.bind_some]
  rcases go_spec key es 0 with ⟨g1, g2⟩ | ⟨j, g1, g2, g3, g4⟩
  · rw [g2] at start
    by_cases c : (es.length : Int) < r
    · refine ⟨⟨es ++ [⟨key, 1, false⟩], ag⟩, rows, ⟨2001, fun k hk => ?_⟩, fed' _ _ ⟨by simp; omega, by simp only; omega, fun e he => ?_, ?_, fun e he => ?_⟩ h.lt, .inr (.inl ⟨g1, c, rfl, rfl⟩)⟩
      · obtain ⟨k, rfl⟩ : ∃ z, k = z + 1 := ⟨k - 1, by omega⟩
        refine (start (k + 1) (by omega)).trans ?_
        rw [if_neg (by decide)]
        simp only [elastic_Add.j0]
        rw [if_neg (by decide), if_neg (by decide), if_pos c, if_pos (by omega), lst_bucket B hB1, Option.bind_some, if_pos (by omega), if_pos (by omega), Int.toNat_natCast]
      · rcases List.mem_append.1 he with he | he
        · have := q3 e he; omega
        · rw [List.mem_singleton.1 he]; exact ⟨Int.le_refl _, by show (1 : Int) ≤ t + 1; omega⟩
      · show (keysE (es ++ [⟨key, 1, false⟩])).Nodup
        have : keysE (es ++ [⟨key, 1, false⟩]) = keysE es ++ [key] := by simp [keysE]
        rw [this, List.nodup_append]
        refine ⟨q4, by simp, fun a ha b hb => ?_⟩
        rw [List.mem_singleton.1 hb]
        intro e; rw [e] at ha; exact g1 ha
      · rcases List.mem_append.1 he with he | he
        · exact q5 e he
        · rw [List.mem_singleton.1 he]; exact hkey
    · obtain ⟨es', ag', rows', hv1, hv2⟩ := vote_spec (s := s) (v := v) (t := t) (H := hrow s 1) (hrow_range s 1).1 (by have := (hrow_range s 1).2; omega) ⟨h.v0, h.v1⟩ ⟨h.t0, by omega⟩ r B rows h.lt es (by omega) hlen (fun e he => ⟨q3 e he, q5 e he⟩) (ag + 1) key hkey
      have walk : Evt (fun k => elastic_Add.f k s r v B (hrow s 1) 255 rows key) (s, r, v, B.set p ⟨es', ag'⟩, hrow s 1, 255, rows', 0) := by
        obtain ⟨m, e⟩ := hv1
        refine ⟨2001 + m, fun k hk => ?_⟩
        obtain ⟨k, rfl⟩ : ∃ z, k = z + 1 := ⟨k - 1, by omega⟩
        refine (start (k + 1) (by omega)).trans ?_
        have e := e k (by omega)
        simp only at e
        rw [if_neg (by decide)]
        simp only [elastic_Add.j0]
        rw [if_neg (by decide), if_neg (by decide), if_neg c, if_neg (by omega), i64_in (ag + 1) (by omega) (by omega), e, Option.bind_some, lst_bucket B hB1, Option.bind_some, if_pos (by omega), if_pos (by omega), Int.toNat_natCast]
      rcases hv2 with ⟨rfl, rfl, rfl⟩ | ⟨j, hj, rfl, rfl, rfl⟩
      · exact ⟨⟨es', ag + 1⟩, _, walk, fed' _ _ ⟨q1, by simp only; omega, fun e he => ⟨(q3 e he).1, by have := (q3 e he).2; omega⟩, q4, q5⟩ (addRows_right _ _ _ _ _ h.lt (by decide)), .inr (.inr ⟨g1, by simp only; omega, .inl ⟨rfl, rfl⟩⟩)⟩
      · have hmj := (take76 es j hj).2
        refine ⟨⟨es.set j ⟨key, 1, true⟩, 0⟩, _, walk, fed' _ _ ⟨by simp only [List.length_set]; omega, by simp only; omega, fun e he => ?_, ?_, fun e he => ?_⟩ (addRows_right _ _ _ _ _ h.lt (by have := (q3 _ hmj).1; omega)), .inr (.inr ⟨g1, by simp only; omega, .inr ⟨j, hj, rfl, rfl⟩⟩)⟩
        · rcases mem_set76 he with he | he
          · rw [he]; exact ⟨Int.le_refl _, by show (1 : Int) ≤ t + 1; omega⟩
          · have := q3 e he; omega
        · rw [keys_set]; exact nodup_set _ _ _ q4 g1
        · rcases mem_set76 he with he | he
          · rw [he]; exact hkey
          · exact q5 e he
  · rw [g3] at start
    have hmj := (take76 es j g1).2
    have hvj := q3 _ hmj
    have hw : wrap64 ((rd_T76 es (j : Int)).f1 + 1) = (rd_T76 es (j : Int)).f1 + 1 := i64_in _ (by omega) (by omega)
    refine ⟨⟨es.set j ⟨key, (rd_T76 es (j : Int)).f1 + 1, (rd_T76 es (j : Int)).f2⟩, ag⟩, rows, ⟨2001, fun k hk => ?_⟩, fed' _ _ ⟨by simp only [List.length_set]; omega, by simp only; omega, fun e he => ?_, ?_, fun e he => ?_⟩ h.lt, .inl ⟨j, g1, g2, rfl, rfl⟩⟩
    · obtain ⟨k, rfl⟩ : ∃ z, k = z + 1 := ⟨k - 1, by omega⟩
      refine (start (k + 1) (by omega)).trans ?_
      rw [Nat.zero_add, if_pos (by omega), if_pos (by omega), if_pos (by omega)]
      simp only [elastic_Add.j0]
      rw [show ((rd_T76 es (j : Int)).f1 == 1099511627776) = false from beq_eq_false_iff_ne.2 (by omega), if_neg (by decide), if_pos (by omega), if_pos (by omega), if_pos (by omega), lst_bucket B hB1, Option.bind_some, if_pos (by omega), if_pos (by omega), Int.toNat_natCast, Int.toNat_natCast, hw, g2]
    · rcases mem_set76 he with he | he
      · rw [he]; simp only; omega
      · have := q3 e he; omega
    · show (keysE (es.set j _)).Nodup
      rw [keys_set]
      have : (keysE es)[j]? = some key := by unfold keysE; rw [List.getElem?_map, rd76 es j g1, Option.map_some, g2]
      rw [set_same _ _ _ this]; exact q4
    · rcases mem_set76 he with he | he
      · rw [he]; exact hkey
      · exact q5 e he
/-- how often a key stands in a list -/
def cnt (key : ByteArray) (l : List ByteArray) : Nat := l.countP (fun x => decide (x = key))
theorem cnt_snoc (key x : ByteArray) (l : List ByteArray) : cnt key (l ++ [x]) = cnt key l + (if x = key then 1 else 0) := by
  unfold cnt
  rw [List.countP_append, List.countP_singleton]
  by_cases h : x = key <;> simp [h]
theorem cnt_le (key : ByteArray) (l : List ByteArray) : cnt key l ≤ l.length := List.countP_le_length
theorem cnt_zero {key : ByteArray} {l : List ByteArray} : cnt key l = 0 ↔ key ∉ l := by
  unfold cnt
  rw [List.countP_eq_zero]
  constructor
  · intro h hm; have := h key hm; simp at this
  · intro h x hx g; exact h (by rw [← of_decide_eq_true g]; exact hx)
theorem takeK (l : List ByteArray) (i : Nat) (h : i < l.length) : l.take (i + 1) = l.take i ++ [rdOf ByteArray.empty l (i : Int)] ∧ rdOf ByteArray.empty l (i : Int) ∈ l := by
  rw [rdOf_eq ByteArray.empty l i h]
  refine ⟨?_, List.getElem_mem _⟩
  rw [List.take_add_one, List.getElem?_eq_getElem h]
  rfl
theorem many_spec (l : List ByteArray) (hl : l.length ≤ 1000000) (key : ByteArray) : Evt (fun k => rillmeterlaw15_many.f k l key) (cnt key l : Int) := by
  have main : ∀ (d i : Nat), i + d = l.length → Evt (fun k => rillmeterlaw15_many.l0 k key (cnt key (l.take i) : Int) l (l.length : Int) (i : Int)) (cnt key l : Int) := by
    intro d
    induction d with
    | zero =>
      intro i hi
      refine Evt.step (Evt.now (f := fun _ => some _) (fun _ => rfl)) (fun k => ?_)
      simp only [rillmeterlaw15_many.l0]
      rw [if_neg (by omega), List.take_of_length_le (by omega)]
    | succ d ih =>
      intro i hi
      obtain ⟨e, _⟩ := takeK l i (by omega)
      have hI := ih (i + 1) (by omega)
      rw [e, cnt_snoc] at hI
      have hc := cnt_le key (l.take i)
      rw [List.length_take] at hc
      refine Evt.step hI (fun k => ?_)
      simp only [rillmeterlaw15_many.l0]
      rw [if_pos (by omega), if_pos (by omega), if_pos (by omega), i64_in ((i : Int) + 1) (by omega) (by omega), show (i : Int) + 1 = ((i + 1 : Nat) : Int) by omega]
      by_cases c : rdOf ByteArray.empty l (i : Int) = key
      · rw [if_pos (tl_inj.2 c), if_pos c, i64_in _ (by omega) (by omega)]
        rfl
      · rw [if_neg (fun g => c (tl_inj.1 g)), if_neg c]
        rfl
  have h := main l.length 0 (by omega)
  exact h.eq (fun k => rfl)
/-- how many unlike keys of a place stand in a list -/
def firsts (s : Int) (n p : Nat) : List ByteArray → List ByteArray → Nat
  | _, [] => 0
  | seen, x :: l => (if placeOf s n x = p ∧ cnt x seen = 0 then 1 else 0) + firsts s n p (seen ++ [x]) l
theorem firsts_snoc (s : Int) (n p : Nat) (x : ByteArray) : ∀ (l seen : List ByteArray), firsts s n p seen (l ++ [x]) = firsts s n p seen l + (if placeOf s n x = p ∧ cnt x (seen ++ l) = 0 then 1 else 0) := by
  intro l
  induction l with
  | nil => intro seen; rw [List.nil_append, firsts, firsts, firsts, List.append_nil]; omega
  | cons y l ih => intro seen; rw [List.cons_append, firsts, firsts, ih, List.append_assoc]; simp only [List.singleton_append]; omega
def few (s r : Int) (n : Nat) (l : List ByteArray) : Prop := ∀ i, i < l.length → rdOf ByteArray.empty l (i : Int) ∉ l.take i → (firsts s n (placeOf s n (rdOf ByteArray.empty l (i : Int))) [] (l.take (i + 1)) : Int) ≤ r
/-- each key that came stands in its bucket, told exactly -/
structure Exact (s : Int) (n : Nat) (l : List ByteArray) (B : List S56) : Prop where
  ag : ∀ p, p < n → (rd_T56 B (p : Int)).f1 = 0
  ent : ∀ p, p < n → ∀ e ∈ (rd_T56 B (p : Int)).f0, e.f2 = false ∧ placeOf s n e.f0 = p ∧ e.f1 = (cnt e.f0 l : Int) ∧ e.f0 ∈ l
  all : ∀ key ∈ l, key ∈ keysE (rd_T56 B (placeOf s n key : Int)).f0
  len : ∀ p, p < n → (rd_T56 B (p : Int)).f0.length = firsts s n p [] l
theorem rd_set (B : List S56) (p q : Nat) (y : S56) (hp : p < B.length) : rd_T56 (B.set p y) (q : Int) = if p = q then y else rd_T56 B (q : Int) := by
  unfold rd_T56
  rw [Int.toNat_natCast, List.getD_eq_getElem?_getD, List.getD_eq_getElem?_getD, List.getElem?_set]
  by_cases h : p = q
  · rw [if_pos h, if_pos (by subst h; exact hp), if_pos h]; rfl
  · rw [if_neg h, if_neg h]
theorem exact_snoc {s r : Int} {n : Nat} {l : List ByteArray} {B : List S56} {x : ByteArray} {y' : S56} {rows rows' Z : List (List Int)} (hn : B.length = n) (hn1 : 1 ≤ n) (h : Exact s n l B) (hx : placeOf s n x < n) (hnd : (keysE (rd_T56 B (placeOf s n x : Int)).f0).Nodup)
    (few' : x ∉ l → (firsts s n (placeOf s n x) [] (l ++ [x]) : Int) ≤ r)
    (ha : (∃ j, j < (rd_T56 B (placeOf s n x : Int)).f0.length ∧ (rd_T76 (rd_T56 B (placeOf s n x : Int)).f0 (j : Int)).f0 = x ∧ rows' = rows ∧ y' = ⟨(rd_T56 B (placeOf s n x : Int)).f0.set j ⟨x, (rd_T76 (rd_T56 B (placeOf s n x : Int)).f0 (j : Int)).f1 + 1, (rd_T76 (rd_T56 B (placeOf s n x : Int)).f0 (j : Int)).f2⟩, (rd_T56 B (placeOf s n x : Int)).f1⟩) ∨
       (x ∉ keysE (rd_T56 B (placeOf s n x : Int)).f0 ∧ ((rd_T56 B (placeOf s n x : Int)).f0.length : Int) < r ∧ rows' = rows ∧ y' = ⟨(rd_T56 B (placeOf s n x : Int)).f0 ++ [⟨x, 1, false⟩], (rd_T56 B (placeOf s n x : Int)).f1⟩) ∨
       (x ∉ keysE (rd_T56 B (placeOf s n x : Int)).f0 ∧ r ≤ ((rd_T56 B (placeOf s n x : Int)).f0.length : Int))) :
    rows' = rows ∧ Exact s n (l ++ [x]) (B.set (placeOf s n x) y') := by
  have hpn : placeOf s n x < B.length := by omega
  have hE := h.ent _ hx
  have hA := h.ag _ hx
  have hL := h.len _ hx
  have hfs := firsts_snoc s n (placeOf s n x) x l []
  rw [List.nil_append] at hfs
  -- the other places
  have other : ∀ q, q < n → placeOf s n x ≠ q → rd_T56 (B.set (placeOf s n x) y') (q : Int) = rd_T56 B (q : Int) := fun q _ hq => by rw [rd_set _ _ _ _ hpn, if_neg hq]
  have this_ : rd_T56 (B.set (placeOf s n x) y') (placeOf s n x : Int) = y' := by rw [rd_set _ _ _ _ hpn, if_pos rfl]
  have lift : y'.f1 = 0 → (∀ e ∈ y'.f0, e.f2 = false ∧ placeOf s n e.f0 = placeOf s n x ∧ e.f1 = (cnt e.f0 (l ++ [x]) : Int) ∧ e.f0 ∈ l ++ [x]) → (∀ key, key ∈ keysE (rd_T56 B (placeOf s n x : Int)).f0 ∨ key = x → key ∈ keysE y'.f0) → y'.f0.length = firsts s n (placeOf s n x) [] (l ++ [x]) → Exact s n (l ++ [x]) (B.set (placeOf s n x) y') := by
    intro g1 g2 g3 g4
    refine ⟨fun q hq => ?_, fun q hq e he => ?_, fun key hk => ?_, fun q hq => ?_⟩
    · by_cases c : placeOf s n x = q
      · subst c; rw [this_]; exact g1
      · rw [other q hq c]; exact h.ag q hq
    · by_cases c : placeOf s n x = q
      · subst c; rw [this_] at he; exact g2 e he
      · rw [other q hq c] at he
        obtain ⟨w1, w2, w3, w4⟩ := h.ent q hq e he
        refine ⟨w1, w2, ?_, List.mem_append.2 (.inl w4)⟩
        rw [cnt_snoc, if_neg (fun g => c (by rw [g]; exact w2)), w3, Nat.add_zero]
    · by_cases c : placeOf s n x = placeOf s n key
      · rw [← c, this_]
        rcases List.mem_append.1 hk with hk | hk
        · have := h.all key hk; rw [← c] at this; exact g3 key (.inl this)
        · exact g3 key (.inr (List.mem_singleton.1 hk))
      · rcases List.mem_append.1 hk with hk | hk
        · have hk2 : placeOf s n key < n := (place_lt s n key hn1).1
          rw [other _ hk2 c]; exact h.all key hk
        · exact absurd (by rw [List.mem_singleton.1 hk]) c
    · by_cases c : placeOf s n x = q
      · subst c; rw [this_]; exact g4
      · rw [other q hq c, h.len q hq, firsts_snoc, if_neg (fun g => c g.1), Nat.add_zero]
  generalize hp : placeOf s n x = p at *
  generalize hy : rd_T56 B (p : Int) = y at *
  rcases ha with ⟨j, hj, hjx, rfl, rfl⟩ | ⟨hnot, hlt, rfl, rfl⟩ | ⟨hnot, hge⟩
  · refine ⟨rfl, lift hA (fun e he => ?_) (fun key hk => ?_) ?_⟩
    · have hmj := (take76 y.f0 j hj).2
      obtain ⟨w1, w2, w3, w4⟩ := hE _ hmj
      rw [hjx] at w2 w3 w4
      simp only at he
      obtain ⟨i, hi⟩ := List.getElem?_of_mem he
      by_cases c : j = i
      · subst c
        rw [List.getElem?_set_self hj] at hi
        have hi := (Option.some.inj hi).symm
        subst hi
        refine ⟨w1, w2, ?_, List.mem_append.2 (.inl w4)⟩
        show (rd_T76 y.f0 (j : Int)).f1 + 1 = _
        rw [cnt_snoc, if_pos rfl, w3]; simp
      · rw [List.getElem?_set_ne c] at hi
        have hm := List.mem_of_getElem? hi
        obtain ⟨v1, v2, v3, v4⟩ := hE e hm
        refine ⟨v1, v2, ?_, List.mem_append.2 (.inl v4)⟩
        have hne : x ≠ e.f0 := by
          intro g
          have hil : i < y.f0.length := (List.getElem?_eq_some_iff.1 hi).1
          have k1 : (keysE y.f0)[i]? = some x := by unfold keysE; rw [List.getElem?_map, hi, Option.map_some, ← g]
          have k2 : (keysE y.f0)[j]? = some x := by unfold keysE; rw [List.getElem?_map, rd76 y.f0 j hj, Option.map_some, hjx]
          have l1 : i < (keysE y.f0).length := by unfold keysE; rw [List.length_map]; exact hil
          exact c (((List.getElem?_inj l1 hnd).1 (by rw [k1, k2])).symm)
        rw [cnt_snoc, if_neg hne, v3]; simp
    · have e1 : keysE (y.f0.set j ⟨x, (rd_T76 y.f0 (j : Int)).f1 + 1, (rd_T76 y.f0 (j : Int)).f2⟩) = keysE y.f0 := by
        rw [keys_set]
        refine set_same _ _ _ ?_
        unfold keysE; rw [List.getElem?_map, rd76 y.f0 j hj, Option.map_some, hjx]
      show key ∈ keysE (y.f0.set j _)
      rw [e1]
      rcases hk with hk | hk
      · exact hk
      · rw [hk, ← hjx]; exact List.mem_map.2 ⟨_, (take76 y.f0 j hj).2, rfl⟩
    · have hxl : x ∈ l := by have := (hE _ (take76 y.f0 j hj).2).2.2.2; rw [hjx] at this; exact this
      simp only [List.length_set]
      rw [hfs, if_neg (fun g => cnt_zero.1 g.2 hxl), hL, Nat.add_zero]
  · have hxl : x ∉ l := fun g => by have := h.all x g; rw [hp, hy] at this; exact hnot this
    refine ⟨rfl, lift hA (fun e he => ?_) (fun key hk => ?_) ?_⟩
    · simp only at he
      rcases List.mem_append.1 he with he | he
      · obtain ⟨v1, v2, v3, v4⟩ := hE e he
        refine ⟨v1, v2, ?_, List.mem_append.2 (.inl v4)⟩
        rw [cnt_snoc, if_neg (fun g => hxl (by rw [g]; exact v4)), v3]; simp
      · rw [List.mem_singleton.1 he]
        refine ⟨rfl, hp, ?_, by simp⟩
        show (1 : Int) = _
        rw [cnt_snoc, if_pos rfl, cnt_zero.2 hxl]; rfl
    · show key ∈ keysE (y.f0 ++ [⟨x, 1, false⟩])
      have : keysE (y.f0 ++ [⟨x, 1, false⟩]) = keysE y.f0 ++ [x] := by simp [keysE]
      rw [this]
      rcases hk with hk | hk
      · exact List.mem_append.2 (.inl hk)
      · rw [hk]; simp
    · simp only [List.length_append, List.length_singleton]
      rw [hfs, if_pos ⟨rfl, cnt_zero.2 hxl⟩, hL]
  · exfalso
    have hxl : x ∉ l := fun g => by have := h.all x g; rw [hp, hy] at this; exact hnot this
    have := few' hxl
    rw [hfs, if_pos ⟨rfl, cnt_zero.2 hxl⟩, ← hL] at this
    omega
theorem rd_no (m : Nat) (i : Int) : rd_T56 (List.replicate m z56) i = z56 := by
  unfold rd_T56
  rw [List.getD_eq_getElem?_getD, List.getElem?_replicate]
  split <;> rfl
theorem noB_len (b : Int) : (noB b).length = b.toNat := List.length_replicate
theorem fed_start {s b r v n c : Int} (h0 : 0 ≤ s) (h1 : s < 18446744073709551616) (g : newOk b r v n c) : Fed s r v 0 (noB b) (noL n c) := by
  obtain ⟨g1, g2, g3, g4, g5, g6, g7, g8, g9, g10⟩ := g
  refine ⟨h0, h1, g3, g4, g5, g6, by rw [noB_len]; omega, by rw [noB_len]; omega, Int.le_refl _, by decide, new_right n.toNat c.toNat 255 (by omega) (by omega) (by omega) (by omega) (by decide) (by decide), fun y hy => ?_⟩
  rw [(List.mem_replicate.1 hy).2]
  exact ⟨by show ((0 : Nat) : Int) ≤ r; omega, ⟨Int.le_refl _, Int.le_refl _⟩, fun e he => (by cases he), List.nodup_nil, fun e he => (by cases he)⟩
theorem exact_start (s b : Int) : Exact s b.toNat [] (noB b) := by
  have hz : ∀ p : Nat, rd_T56 (noB b) (p : Int) = z56 := fun p => rd_no _ _
  refine ⟨fun p _ => (by rw [hz]; rfl), fun p _ e he => (by rw [hz] at he; cases he), fun key hk => (by cases hk), fun p _ => by rw [hz]; rfl⟩
theorem fed_l0 {s r v : Int} {n : Nat} (Z : List (List Int)) (l : List ByteArray) (hl : l.length ≤ 300) (hk : ∀ x ∈ l, x.size ≤ 100) : ∀ (d i : Nat) (B : List S56) (rows : List (List Int)), i + d = l.length → Fed s r v i B rows → B.length = n → (few s r n l → Exact s n (l.take i) B ∧ rows = Z) →
    ∃ B' rows', Evt (fun k => rillmeterlaw15_fed.l0 k l (l.length : Int) (i : Int) s r v B (hrow s 1) 255 rows) (s, r, v, B', hrow s 1, 255, rows', true) ∧ Fed s r v l.length B' rows' ∧ B'.length = n ∧ (few s r n l → Exact s n l B' ∧ rows' = Z) := by
  intro d
  induction d with
  | zero =>
    intro i B rows hi hF hB hE
    have e : i = l.length := by omega
    subst e
    rw [List.take_length] at hE
    refine ⟨B, rows, Evt.step (Evt.now (f := fun _ => some _) (fun _ => rfl)) (fun k => ?_), hF, hB, hE⟩
    simp only [rillmeterlaw15_fed.l0]
    rw [if_neg (by omega)]
  | succ d ih =>
    intro i B rows hi hF hB hE
    obtain ⟨e, hm⟩ := takeK l i (by omega)
    have hx := hk _ hm
    obtain ⟨y', rows', ⟨m1, e1⟩, hF', hA⟩ := add_fed hF (by omega) (rdOf ByteArray.empty l (i : Int)) (by omega)
    rw [hB] at e1 hF' hA
    have hn1 : 1 ≤ n := by have := hF.b0; omega
    have hpl := (place_lt s n (rdOf ByteArray.empty l (i : Int)) hn1).1
    have hE' : few s r n l → Exact s n (l.take (i + 1)) (B.set (placeOf s n (rdOf ByteArray.empty l (i : Int))) y') ∧ rows' = Z := by
      intro hf
      obtain ⟨x1, x2⟩ := hE hf
      have hbk := hF.bs _ (take56 B (placeOf s n (rdOf ByteArray.empty l (i : Int))) (by omega)).2
      have := exact_snoc (r := r) (rows := rows) (rows' := rows') (Z := Z) hB hn1 x1 hpl hbk.2.2.2.1 (fun g => by rw [← e]; exact hf i (by omega) g) (by
        rcases hA with h | h | h
        · exact .inl h
        · exact .inr (.inl h)
        · exact .inr (.inr ⟨h.1, h.2.1⟩))
      rw [e]
      exact ⟨this.2, this.1.trans x2⟩
    obtain ⟨B', R', ⟨m2, e2⟩, q1, q2, q3⟩ := ih (i + 1) (B.set (placeOf s n (rdOf ByteArray.empty l (i : Int))) y') rows' (by omega) (show Fed s r v ((i + 1 : Nat) : Int) _ _ from (show ((i + 1 : Nat) : Int) = (i : Int) + 1 by omega) ▸ hF') (by rw [List.length_set]; exact hB) hE'
    refine ⟨B', R', ⟨m1 + m2 + 1, fun k hk => ?_⟩, q1, q2, q3⟩
    obtain ⟨k, rfl⟩ : ∃ z, k = z + 1 := ⟨k - 1, by omega⟩
    have e1 := e1 k (by omega)
    have e2 := e2 k (by omega)
    simp only at e1 e2
    simp only [rillmeterlaw15_fed.l0]
    rw [if_pos (by omega), if_pos (by omega), if_pos (by omega), e1, Option.bind_some, i64_in ((i : Int) + 1) (by omega) (by omega), show (i : Int) + 1 = ((i + 1 : Nat) : Int) by omega]
    exact e2
def shortK (l : List ByteArray) : Prop := (l.length : Int) ≤ 300 ∧ ∀ s ∈ l, s.size ≤ 100
theorem fed_ok {s b r v n c : Int} (h0 : 0 ≤ s) (h1 : s < 18446744073709551616) (g : newOk b r v n c) (l : List ByteArray) (hl : shortK l) :
    ∃ B rows, Evt (fun k => rillmeterlaw15_fed.f k s b r v n c l) (s, r, v, B, hrow s 1, 255, rows, true) ∧ Fed s r v l.length B rows ∧ B.length = b.toNat ∧ (few s r b.toNat l → Exact s b.toNat l B ∧ rows = noL n c) := by
  obtain ⟨B, rows, ⟨m2, e2⟩, q1, q2, q3⟩ := fed_l0 (n := b.toNat) (noL n c) l (by have := hl.1; omega) hl.2 l.length 0 (noB b) (noL n c) (by omega) (fed_start h0 h1 g) (noB_len b) (fun _ => ⟨by rw [List.take_zero]; exact exact_start s b, rfl⟩)
  obtain ⟨m1, e1⟩ := elnew_spec s b r v n c h0 h1
  rw [if_pos g] at e1
  refine ⟨B, rows, ⟨m1 + m2 + 1003, fun k hk => ?_⟩, q1, q2, q3⟩
  obtain ⟨k, rfl⟩ : ∃ z, k = z + 1 := ⟨k - 1, by omega⟩
  have e1 := e1 (k + 1) (by omega)
  have e2 := e2 k (by omega)
  simp only at e1 e2
  simp only [rillmeterlaw15_fed.f]
  rw [e1, Option.bind_some]
  simp only
  rw [if_pos trivial, short_spec (k + 1) l 300 ⟨by decide, by decide⟩ (by omega), decide_eq_true (show (l.length : Int) ≤ 300 ∧ ∀ s ∈ l, s.size ≤ 100 from hl), Option.bind_some, Bool.not_true]
  simp only [rillmeterlaw15_fed.j0]
  rw [if_neg (by decide)]
  exact e2
theorem fed_no {s b r v n c : Int} (h0 : 0 ≤ s) (h1 : s < 18446744073709551616) (l : List ByteArray) (h : ¬ (newOk b r v n c ∧ shortK l)) :
    ∃ R, Evt (fun k => rillmeterlaw15_fed.f k s b r v n c l) R ∧ R.2.2.2.2.2.2.2 = false := by
  obtain ⟨m1, e1⟩ := elnew_spec s b r v n c h0 h1
  by_cases g : newOk b r v n c
  · have hl : ¬ shortK l := fun q => h ⟨g, q⟩
    rw [if_pos g] at e1
    refine ⟨(s, r, v, noB b, hrow s 1, 255, noL n c, false), ⟨m1 + 1003, fun k hk => ?_⟩, rfl⟩
    obtain ⟨k, rfl⟩ : ∃ z, k = z + 1 := ⟨k - 1, by omega⟩
    have e1 := e1 (k + 1) (by omega)
    simp only at e1
    simp only [rillmeterlaw15_fed.f]
    rw [e1, Option.bind_some]
    simp only
    rw [if_pos trivial, short_spec (k + 1) l 300 ⟨by decide, by decide⟩ (by omega), decide_eq_false (show ¬ ((l.length : Int) ≤ 300 ∧ ∀ s ∈ l, s.size ≤ 100) from hl), Option.bind_some, Bool.not_false]
    simp only [rillmeterlaw15_fed.j0]
    rw [if_pos trivial]
  · rw [if_neg g] at e1
    refine ⟨(0, 0, 0, [], 0, 0, [], false), ⟨m1 + 1, fun k hk => ?_⟩, rfl⟩
    obtain ⟨k, rfl⟩ : ∃ z, k = z + 1 := ⟨k - 1, by omega⟩
    have e1 := e1 (k + 1) (by omega)
    simp only at e1
    simp only [rillmeterlaw15_fed.f]
    rw [e1, Option.bind_some]
    simp only
    rw [if_neg (by decide)]
    simp only [rillmeterlaw15_fed.j0]
    rw [if_pos trivial]
theorem place_spec {s : Int} (h0 : 0 ≤ s) (m : Nat) (hm1 : 1 ≤ m) (hm : m ≤ 256) (x : ByteArray) (hx : x.size ≤ 100) (k : Nat) (hk : 500 ≤ k) : rillmeterref15_Place.f k s 0 0 (List.replicate m z74) 0 0 [] x = some (placeOf s m x : Int) := by
  have hw := words_le x 25 (by omega)
  have hr := hrow_range s 0
  simp only [rillmeterref15_Place.f]
  rw [rrow_spec k s 0 h0 (by decide) (by omega), Option.bind_some, List.length_replicate, rcell_spec k (hrow s 0) x m (by omega) hr.1 (by omega) (by omega), Option.bind_some, (place_lt s m x hm1).2]
theorem rd_setI (U : List Int) (p q : Nat) (y : Int) (hp : p < U.length) : rd (U.set p y) (q : Int) = if p = q then y else rd U (q : Int) := by
  unfold rd
  rw [Int.toNat_natCast, List.getD_eq_getElem?_getD, List.getD_eq_getElem?_getD, List.getElem?_set]
  by_cases h : p = q
  · rw [if_pos h, if_pos (by subst h; exact hp), if_pos h]; rfl
  · rw [if_neg h, if_neg h]
theorem get_exact {s r v t : Int} {B : List S56} {rows : List (List Int)} {l : List ByteArray} (h : Fed s r v t B rows) (hE : Exact s B.length l B) (x : ByteArray) (hx : x ∈ l) (hs : x.size ≤ 100) (k : Nat) (hk : 2000 ≤ k) : elastic_Get.f k s r v B (hrow s 1) 255 rows x = some ((cnt x l : Int), (cnt x l : Int), true, false) := by
  have hp := (place_lt s B.length x h.b0).1
  have hall := hE.all x hx
  have hent := hE.ent _ hp
  have hbk := h.bs _ (take56 B _ hp).2
  have hbs := bucket_spec h.s0 h.s1 r v B h.b1 h.b0 (hrow s 1) 255 rows x (by omega) k hk
  generalize placeOf s B.length x = p at *
  have hr1 := h.r1
  simp only [elastic_Get.f]
  rw [right_fed h k (by omega), Option.bind_some, if_pos rfl, hbs, Option.bind_some, if_pos (by omega), if_pos (by omega)]
  generalize rd_T56 B (p : Int) = y at *
  obtain ⟨q1, q2, q3, q4, q5⟩ := hbk
  simp only [elastic_find.f]
  rw [if_pos (by omega), Option.bind_some]
  rcases go_spec x y.f0 0 with ⟨g1, _⟩ | ⟨j, g1, g2, g3, _⟩
  · exact absurd hall g1
  · have he := hent _ (take76 y.f0 j g1).2
    rw [g3, Nat.zero_add, if_pos (by omega), if_pos (by omega), if_pos (by omega), he.1, if_neg (by decide), he.2.2.1, g2]
theorem few_l2 (n c : Int) : ∀ (d i : Nat), i + d = (noL n c).length → c ≤ 256 → n ≤ 7 → Evt (fun k => rillmeterlaw15_ElasticFew.l2 k (noL n c) ((noL n c).length : Int) (i : Int)) true := by
  intro d
  induction d with
  | zero =>
    intro i hi _ _
    refine Evt.step (Evt.bind awake15_spec (g := fun _ t => some t) (Evt.now fun _ => rfl)) (fun k => ?_)
    simp only [rillmeterlaw15_ElasticFew.l2]
    rw [if_neg (by omega)]
  | succ d ih =>
    intro i hi hc hn
    have hI := ih (i + 1) (by omega) hc hn
    have hlen : (noL n c).length = n.toNat := List.length_replicate
    have hr : rd_L1 (noL n c) (i : Int) = List.replicate c.toNat 0 := by
      unfold rd_L1 noL
      rw [List.getD_eq_getElem?_getD, List.getElem?_replicate, if_pos (by show i < n.toNat; omega)]
      rfl
    have main : ∀ (q j : Nat), j + q = c.toNat → Evt (fun k => rillmeterlaw15_ElasticFew.l3 k (noL n c) ((noL n c).length : Int) (i : Int) (List.replicate c.toNat 0) (c.toNat : Int) (j : Int)) true := by
      intro q
      induction q with
      | zero =>
        intro j hj
        refine Evt.step hI (fun k => ?_)
        simp only [rillmeterlaw15_ElasticFew.l3]
        rw [if_neg (by omega), i64_in ((i : Int) + 1) (by omega) (by omega)]
        rfl
      | succ q ih2 =>
        intro j hj
        have hz : rd (List.replicate c.toNat (0 : Int)) (j : Int) = 0 := by
          unfold rd
          rw [List.getD_eq_getElem?_getD, List.getElem?_replicate]
          split <;> rfl
        refine Evt.step (ih2 (j + 1) (by omega)) (fun k => ?_)
        simp only [rillmeterlaw15_ElasticFew.l3]
        rw [if_pos (by omega), if_pos (by omega), if_pos (by rw [List.length_replicate]; omega), if_pos hz, i64_in ((j : Int) + 1) (by omega) (by omega)]
        rfl
    refine Evt.step (main c.toNat 0 (by omega)) (fun k => ?_)
    simp only [rillmeterlaw15_ElasticFew.l2]
    rw [if_pos (by omega), if_pos (by omega), if_pos (by omega), hr, List.length_replicate]
    rfl
theorem few_l1 {s r v t n c : Int} {B : List S56} {l : List ByteArray} (hc : c ≤ 256) (hn : n ≤ 7) (h : Fed s r v t B (noL n c)) (hE : Exact s B.length l B) (hl : l.length ≤ 300) (hk : ∀ x ∈ l, x.size ≤ 100) : ∀ (d i : Nat), i + d = l.length → Evt (fun k => rillmeterlaw15_ElasticFew.l1 k l l (l.length : Int) (i : Int) s r v B (hrow s 1) 255 (noL n c)) true := by
  intro d
  induction d with
  | zero =>
    intro i hi
    refine Evt.step (few_l2 n c (noL n c).length 0 (by omega) hc hn) (fun k => ?_)
    simp only [rillmeterlaw15_ElasticFew.l1]
    rw [if_neg (by omega)]
    rfl
  | succ d ih =>
    intro i hi
    obtain ⟨_, hm⟩ := takeK l i (by omega)
    obtain ⟨m1, e1⟩ := many_spec l (by omega) (rdOf ByteArray.empty l (i : Int))
    obtain ⟨m2, e2⟩ := ih (i + 1) (by omega)
    refine ⟨m1 + m2 + 2001, fun k hk2 => ?_⟩
    obtain ⟨k, rfl⟩ : ∃ z, k = z + 1 := ⟨k - 1, by omega⟩
    have e1 := e1 k (by omega)
    have e2 := e2 k (by omega)
    simp only at e1 e2
    simp only [rillmeterlaw15_ElasticFew.l1]
    rw [if_pos (by omega), if_pos (by omega), if_pos (by omega), get_exact h hE _ hm (hk _ hm) k (by omega), Option.bind_some, e1, Option.bind_some]
    simp only
    rw [if_pos trivial, if_pos trivial, if_pos trivial, if_neg (by decide), i64_in ((i : Int) + 1) (by omega) (by omega)]
    exact e2
theorem few_l0 {s b r v t n c : Int} {B : List S56} {rows : List (List Int)} {l : List ByteArray} (s0 : 0 ≤ s) (hb1 : 1 ≤ b) (hb : b ≤ 256) (hr : 0 ≤ r ∧ r ≤ 8) (vv nn cc : Int) (hl : l.length ≤ 300) (hk : ∀ x ∈ l, x.size ≤ 100)
    (fin : few s r b.toNat l → Evt (fun k => rillmeterlaw15_ElasticFew.l1 k l l (l.length : Int) 0 s r v B (hrow s 1) 255 rows) true) : ∀ (d i : Nat) (U : List Int), i + d = l.length → U.length = b.toNat → (∀ p, p < b.toNat → rd U (p : Int) = (firsts s b.toNat p [] (l.take i) : Int) ∧ rd U (p : Int) ≤ i) →
      (∀ i', i' < i → rdOf ByteArray.empty l (i' : Int) ∉ l.take i' → (firsts s b.toNat (placeOf s b.toNat (rdOf ByteArray.empty l (i' : Int))) [] (l.take (i' + 1)) : Int) ≤ r) →
      Evt (fun k => rillmeterlaw15_ElasticFew.l0 k l U l (l.length : Int) (i : Int) s b r vv nn cc s r v B (hrow s 1) 255 rows) true := by
  intro d
  induction d with
  | zero =>
    intro i U hi hU hF hP
    refine Evt.step (fin (fun i' h' => hP i' (by omega))) (fun k => ?_)
    simp only [rillmeterlaw15_ElasticFew.l0]
    rw [if_neg (by omega)]
  | succ d ih =>
    intro i U hi hU hF hP
    obtain ⟨e, hm⟩ := takeK l i (by omega)
    have hx := hk _ hm
    obtain ⟨m1, e1⟩ := many_spec (l.take i) (by rw [List.length_take]; omega) (rdOf ByteArray.empty l (i : Int))
    have hpl := (place_lt s b.toNat (rdOf ByteArray.empty l (i : Int)) (by omega)).1
    have hfs : ∀ p, firsts s b.toNat p [] (l.take (i + 1)) = firsts s b.toNat p [] (l.take i) + (if placeOf s b.toNat (rdOf ByteArray.empty l (i : Int)) = p ∧ cnt (rdOf ByteArray.empty l (i : Int)) (l.take i) = 0 then 1 else 0) := fun p => by
      rw [e, firsts_snoc, List.nil_append]
    have open_ : ∀ k, m1 ≤ k → rillmeterlaw15_ElasticFew.l0 (k + 1) l U l (l.length : Int) (i : Int) s b r vv nn cc s r v B (hrow s 1) 255 rows = (if ((cnt (rdOf ByteArray.empty l (i : Int)) (l.take i) : Nat) : Int) = 0 then (if 0 ≤ b then (if b.toNat ≤ 8796093022208 then ((rillmeterref15_Place.f k s 0 0 (List.replicate b.toNat z74) 0 0 ([] : List (List Int)) (rdOf ByteArray.empty l (i : Int))).bind fun t423 => (if 0 ≤ t423 then (if t423 < (U.length : Int) then ((some (U.set (t423 : Int).toNat (wrap64 ((rd U t423) + 1)) : List Int)).bind fun y425 => (if (rd y425 t423) > r then ((rillmeterlaw15_awake.f k).bind fun t427 => (some t427)) else (rillmeterlaw15_ElasticFew.l0 k l y425 l (l.length : Int) ((i + 1 : Nat) : Int) s b r vv nn cc s r v B (hrow s 1) 255 rows))) else (none)) else (none))) else (none)) else (none)) else (rillmeterlaw15_ElasticFew.l0 k l U l (l.length : Int) ((i + 1 : Nat) : Int) s b r vv nn cc s r v B (hrow s 1) 255 rows)) := by
      intro k hk2
      have e1 := e1 k hk2
      simp only at e1
      simp only [rillmeterlaw15_ElasticFew.l0]
      rw [if_pos (by omega), if_pos (by omega), if_pos (by omega), if_pos (by omega), Int.toNat_natCast, e1, Option.bind_some, i64_in ((i : Int) + 1) (by omega) (by omega), show (i : Int) + 1 = ((i + 1 : Nat) : Int) by omega]
    generalize hX : rdOf ByteArray.empty l (i : Int) = x at *
    by_cases c : cnt x (l.take i) = 0
    · have hq := hF _ hpl
      have hw : wrap64 (rd U (placeOf s b.toNat x : Int) + 1) = rd U (placeOf s b.toNat x : Int) + 1 := i64_in _ (by omega) (by omega)
      by_cases c2 : rd U (placeOf s b.toNat x : Int) + 1 > r
      · obtain ⟨m0, e0⟩ := awake15_spec
        refine ⟨m0 + m1 + 501, fun k hk2 => ?_⟩
        obtain ⟨k, rfl⟩ : ∃ z, k = z + 1 := ⟨k - 1, by omega⟩
        refine (open_ k (by omega)).trans ?_
        have e0 := e0 k (by omega)
        simp only at e0
        rw [if_pos (by omega), if_pos (by omega), if_pos (by omega), place_spec s0 b.toNat (by omega) (by omega) x hx k (by omega), Option.bind_some, if_pos (by omega), if_pos (by omega), Option.bind_some, Int.toNat_natCast, rd_setI U _ _ _ (by omega), if_pos rfl, hw, if_pos c2, e0]
        rfl
      · obtain ⟨m2, e2⟩ := ih (i + 1) (U.set (placeOf s b.toNat x) (rd U (placeOf s b.toNat x : Int) + 1)) (by omega) (by rw [List.length_set]; exact hU) (fun p hp => by
            rw [rd_setI U _ _ _ (by omega), hfs p]
            by_cases g : placeOf s b.toNat x = p
            · rw [if_pos g, if_pos ⟨g, c⟩]; subst g; omega
            · rw [if_neg g, if_neg (fun q => g q.1)]; have := hF p hp; omega) (fun i' h' => by
            by_cases g : i' < i
            · exact hP i' g
            · have : i' = i := by omega
              subst this
              rw [hX]
              intro _
              rw [hfs, if_pos ⟨rfl, c⟩]
              omega)
        refine ⟨m1 + m2 + 501, fun k hk2 => ?_⟩
        obtain ⟨k, rfl⟩ : ∃ z, k = z + 1 := ⟨k - 1, by omega⟩
        refine (open_ k (by omega)).trans ?_
        rw [if_pos (by omega), if_pos (by omega), if_pos (by omega), place_spec s0 b.toNat (by omega) (by omega) x hx k (by omega), Option.bind_some, if_pos (by omega), if_pos (by omega), Option.bind_some, Int.toNat_natCast, rd_setI U _ _ _ (by omega), if_pos rfl, hw, if_neg c2]
        exact e2 k (by omega)
    · obtain ⟨m2, e2⟩ := ih (i + 1) U (by omega) hU (fun p hp => by
          rw [hfs p, if_neg (fun q => c q.2)]; have := hF p hp; omega) (fun i' h' => by
          by_cases g : i' < i
          · exact hP i' g
          · have : i' = i := by omega
            subst this
            rw [hX]
            intro q
            exact absurd (cnt_zero.2 q) c)
      refine ⟨m1 + m2 + 1, fun k hk2 => ?_⟩
      obtain ⟨k, rfl⟩ : ∃ z, k = z + 1 := ⟨k - 1, by omega⟩
      refine (open_ k (by omega)).trans ?_
      rw [if_neg (by omega)]
      exact e2 k (by omega)
theorem ElasticFew : rillmeterlaw15_ElasticFew.Pure := by
  intro s b r v n c l hs _ _ _ _ _ _
  have hb : 0 ≤ s ∧ s < 18446744073709551616 := by
    simp only [Lit.wf] at hs
    have h1 := Bool.and_eq_true_iff.1 hs
    have h2 := of_decide_eq_true h1.1
    have h3 := of_decide_eq_true h1.2
    have e1 : IntKind.u64.min = 0 := by decide
    have e2 : IntKind.u64.max = 18446744073709551615 := by decide
    omega
  obtain ⟨m0, e0⟩ := awake15_spec
  by_cases g : newOk b r v n c ∧ shortK l
  · obtain ⟨g, hl⟩ := g
    obtain ⟨B, rows, ⟨m1, e1⟩, q1, q2, q3⟩ := fed_ok hb.1 hb.2 g l hl
    have g' := g
    obtain ⟨g1, g2, g3, g4, g5, g6, g7, g8, g9, g10⟩ := g'
    have hl0 : l.length ≤ 300 := by have := hl.1; omega
    obtain ⟨m2, e2⟩ := few_l0 (v := v) (t := l.length) (n := n) (c := c) (B := B) (rows := rows) (l := l) hb.1 g1 g2 ⟨by omega, g4⟩ v n c hl0 hl.2 (fun hf => by
      obtain ⟨x1, x2⟩ := q3 hf
      rw [x2]
      rw [x2] at q1
      rw [← q2] at x1
      exact few_l1 g10 g8 q1 x1 hl0 hl.2 l.length 0 (by omega)) l.length 0 (List.replicate b.toNat 0) (by omega) List.length_replicate (fun p hp => by
      have hz : rd (List.replicate b.toNat (0 : Int)) (p : Int) = 0 := by
        unfold rd
        rw [List.getD_eq_getElem?_getD, List.getElem?_replicate]
        split <;> rfl
      rw [hz]; exact ⟨rfl, by omega⟩) (fun i' h' => absurd h' (Nat.not_lt_zero _))
    refine ⟨m1 + m2 + 1, ?_⟩
    have e1 := e1 (m1 + m2 + 1) (by omega)
    have e2 := e2 (m1 + m2) (by omega)
    simp only at e1 e2
    simp only [rillmeterlaw15_ElasticFew.f]
    rw [e1, Option.bind_some]
    simp only
    rw [if_pos trivial, if_neg (by omega), decide_eq_false (by omega)]
    simp only [rillmeterlaw15_ElasticFew.j0]
    rw [if_neg (by decide), if_pos (by omega), if_pos (by omega)]
    exact e2
  · obtain ⟨R, ⟨m1, e1⟩, hR⟩ := fed_no hb.1 hb.2 l g
    refine ⟨m0 + m1 + 1, ?_⟩
    have e0 := e0 (m0 + m1) (by omega)
    have e1 := e1 (m0 + m1 + 1) (by omega)
    simp only at e0 e1
    simp only [rillmeterlaw15_ElasticFew.f]
    rw [e1, Option.bind_some, hR, if_neg (by decide)]
    simp only [rillmeterlaw15_ElasticFew.j0]
    rw [if_pos trivial, e0]
    rfl

end Go.Proofs.Ytljmjjeghebdpaa.Pure
