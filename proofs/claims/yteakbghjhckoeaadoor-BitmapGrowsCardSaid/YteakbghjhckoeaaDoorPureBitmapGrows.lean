/- The estimate never falls with a thing more, or a map merged; a thing that comes again turns nothing; the order does not matter. Conditions: the library's table of trailing zeros lies as its initialiser lays it, which the card ties to the program's text. -/
import Derived.Test.YteakbghjhckoeaaDoorPBitmapGrowsy
import Derived.Test.YteakbghjhckoeaaDoorBits
import Derived.Test.YteakbghjhckoeaaDoorHash
import Derived.Test.YteakbghjhckoeaaDoorMaps
import Derived.Test.YteakbghjhckoeaaDoorMapsMore
namespace Go.Proofs.YteakbghjhckoeaaDoor.Pure
open Go.RowKit Go.Proofs.YteakbghjhckoeaaDoor.PBitmapGrows Go.Proofs.YteakbghjhckoeaaDoorW.PrintWords Go.Proofs.YteakbghjhckoeaaDoorW.PrintLast Go.Proofs.YteakbghjhckoeaaDoor.Bits Go.Proofs.YteakbghjhckoeaaDoor.Hash Go.Proofs.YteakbghjhckoeaaDoor.Maps Go.Proofs.YteakbghjhckoeaaDoor.MapsMore
set_option linter.unusedSimpArgs false
set_option linter.unusedVariables false

theorem bnew_l0 (s : Int) (c n : Nat) (hc : c ≤ 256) (hn : n ≤ 16) : ∀ (d k i : Nat), n - i = d → i ≤ n → d < k →
    bitmap_New.l0 k c n i s (List.replicate i (List.replicate c false)) = some (s, List.replicate n (List.replicate c false), 0) := by
  intro d
  induction d with
  | zero =>
    intro k i h0 hi hk
    obtain ⟨k, rfl⟩ : ∃ m, k = m + 1 := ⟨k - 1, by omega⟩
    have e : i = n := by omega
    subst e
    simp only [bitmap_New.l0]
    rw [if_neg (by omega)]
  | succ d ih =>
    intro k i h0 hi hk
    obtain ⟨k, rfl⟩ : ∃ m, k = m + 1 := ⟨k - 1, by omega⟩
    have h := ih k (i + 1) (by omega) (by omega) (by omega)
    simp only [bitmap_New.l0]
    rw [if_pos (by omega), if_pos (by omega), Int.toNat_natCast, if_pos (by omega), List.length_replicate, if_pos (by omega), i64_in ((i : Int) + 1) (by omega) (by omega), show (i : Int) + 1 = ((i + 1 : Nat) : Int) by omega]
    rw [List.replicate_succ'] at h
    exact h

theorem bnew_spec (k : Nat) (s n c : Int) (hk : 30 ≤ k) : bitmap_New.f k s n c = some (if 1 ≤ n ∧ n ≤ 16 ∧ 1 ≤ c ∧ c ≤ 256 then (s, List.replicate n.toNat (List.replicate c.toNat false), 0) else (0, [], 1)) := by
  obtain ⟨k, rfl⟩ : ∃ m, k = m + 1 := ⟨k - 1, by omega⟩
  have hbad : bitmap_New.j0 (k + 1) s n c true = some (0, [], 1) := by
    simp only [bitmap_New.j0]
    rw [if_pos trivial]
  unfold bitmap_New.f
  by_cases h1 : n < 1
  · rw [if_pos h1, hbad, if_neg (fun o => by have := o.1; omega)]
  · rw [if_neg h1]
    by_cases h2 : n > 16
    · rw [if_pos h2, hbad, if_neg (fun o => by have := o.2.1; omega)]
    · rw [if_neg h2]
      by_cases h3 : c < 1
      · rw [if_pos h3, hbad, if_neg (fun o => by have := o.2.2.1; omega)]
      · rw [if_neg h3]
        by_cases h4 : c > 256
        · rw [decide_eq_true h4, hbad, if_neg (fun o => by have := o.2.2.2; omega)]
        · rw [decide_eq_false h4, if_pos ⟨by omega, by omega, by omega, by omega⟩]
          simp only [bitmap_New.j0]
          rw [if_neg (by decide)]
          have h := bnew_l0 s c.toNat n.toNat (by omega) (by omega) n.toNat k 0 (by omega) (by omega) (by omega)
          rw [show ((c.toNat : Nat) : Int) = c by omega, show ((n.toNat : Nat) : Int) = n by omega] at h
          exact h

theorem zerosB_right (n c : Nat) (hn : 1 ≤ n) (hn2 : n ≤ 16) (hc : 1 ≤ c) (hc2 : c ≤ 256) : rightB (List.replicate n (List.replicate c false)) := by
  have hcols : colsB (List.replicate n (List.replicate c false)) = c := by
    obtain ⟨m, rfl⟩ : ∃ m, n = m + 1 := ⟨n - 1, by omega⟩
    simp [colsB, List.replicate_succ]
  refine ⟨by simpa using hn, by simpa using hn2, fun r hr => ?_⟩
  rw [hcols, List.eq_of_mem_replicate hr]
  exact ⟨by simpa using hc, by simpa using hc2, by simp⟩

theorem zerosB_bit (n c i j : Nat) : bit (List.replicate n (List.replicate c false)) i j = false := by
  unfold bit
  by_cases h : i < n
  · by_cases g : j < c
    · simp [List.getD_eq_getElem?_getD, h, g]
    · simp [List.getD_eq_getElem?_getD, h, g]
  · simp [List.getD_eq_getElem?_getD, h]
theorem same13_l1 (s : Int) (rows : List (List Bool)) (i : Nat) (g : i < rows.length) (h7 : rows.length ≤ 20) (hlen : (rows.getD i []).length ≤ 300) (K : Nat) (hb : ∀ k, K ≤ k → rillmeterref13_Equal.l0 k ((i + 1 : Nat) : Int) s rows s rows = some true) : ∀ (d k j : Nat), (rows.getD i []).length - j = d → j ≤ (rows.getD i []).length → K + d + 1 ≤ k →
    rillmeterref13_Equal.l1 k i j s rows s rows = some true := by
  have e : rd_L1 rows (i : Int) = rows.getD i [] := rfl
  intro d
  induction d with
  | zero =>
    intro k j h0 hi hk
    obtain ⟨k, rfl⟩ : ∃ m, k = m + 1 := ⟨k - 1, by omega⟩
    simp only [rillmeterref13_Equal.l1]
    rw [if_pos (by omega), if_pos (by omega), e, if_neg (by omega), i64_in ((i : Int) + 1) (by omega) (by omega), show (i : Int) + 1 = ((i + 1 : Nat) : Int) by omega, hb k (by omega)]
  | succ d ih =>
    intro k j h0 hi hk
    obtain ⟨k, rfl⟩ : ∃ m, k = m + 1 := ⟨k - 1, by omega⟩
    simp only [rillmeterref13_Equal.l1]
    rw [if_pos (by omega), if_pos (by omega), e, if_pos (by omega), if_pos (by omega), if_pos (by omega), if_pos (by omega), bne_self_eq_false, if_neg (by decide), i64_in ((j : Int) + 1) (by omega) (by omega), show (j : Int) + 1 = ((j + 1 : Nat) : Int) by omega]
    exact ih k (j + 1) (by omega) (by omega) (by omega)

set_option maxRecDepth 100000 in
theorem same13_l0 (s : Int) (rows : List (List Bool)) (h7 : rows.length ≤ 20) (hlen : ∀ r ∈ rows, r.length ≤ 300) : ∀ (d k i : Nat), rows.length - i = d → i ≤ rows.length → d * 310 + 1 ≤ k →
    rillmeterref13_Equal.l0 k i s rows s rows = some true := by
  intro d
  induction d with
  | zero =>
    intro k i h0 hi hk
    obtain ⟨k, rfl⟩ : ∃ m, k = m + 1 := ⟨k - 1, by omega⟩
    simp only [rillmeterref13_Equal.l0]
    rw [if_neg (by omega)]
  | succ d ih =>
    intro k i h0 hi hk
    obtain ⟨k, rfl⟩ : ∃ m, k = m + 1 := ⟨k - 1, by omega⟩
    have g : i < rows.length := by omega
    have hl := hlen _ (rowB_mem rows i g)
    simp only [rillmeterref13_Equal.l0]
    rw [if_pos (by omega), if_pos (by omega), if_pos (by omega), if_pos trivial]
    exact same13_l1 s rows i g h7 hl (d * 310 + 1) (fun k hk => ih k (i + 1) (by omega) (by omega) hk) (rows.getD i []).length k 0 (by omega) (by omega) (by omega)

theorem same13_spec (k : Nat) (s : Int) (rows : List (List Bool)) (h7 : rows.length ≤ 20) (hlen : ∀ r ∈ rows, r.length ≤ 300) (hk : 6300 ≤ k) : rillmeterref13_Equal.f k s rows s rows = some true := by
  obtain ⟨k, rfl⟩ : ∃ m, k = m + 1 := ⟨k - 1, by omega⟩
  unfold rillmeterref13_Equal.f
  rw [if_pos rfl, bne_self_eq_false]
  simp only [rillmeterref13_Equal.j0]
  rw [if_neg (by decide)]
  exact same13_l0 s rows h7 hlen rows.length k 0 (by omega) (by omega) (by omega)
theorem rowB_is (l : List (List Bool)) (r : List Bool) : bitmap_Right.row l r = decide (rowOkB (colsB l) r) := by
  have e : rd_L1 l 0 = l.getD 0 [] := rfl
  unfold bitmap_Right.row rowOkB colsB
  rw [e]
  exact and3

theorem bright_spec (s : Int) (l : List (List Bool)) : bitmap_Right.f s l = some (decide (rightB l)) := by
  unfold bitmap_Right.f
  have e : l.all (bitmap_Right.row l) = decide (∀ r ∈ l, rowOkB (colsB l) r) := by
    by_cases h : ∀ r ∈ l, rowOkB (colsB l) r
    · rw [decide_eq_true h, List.all_eq_true]
      intro r hr
      rw [rowB_is]; exact decide_eq_true (h r hr)
    · rw [decide_eq_false h, Bool.eq_false_iff]
      intro ha
      exact h (fun r hr => by
        have := List.all_eq_true.1 ha r hr
        rw [rowB_is] at this
        exact of_decide_eq_true this)
  rw [e]
  unfold rightB
  exact congrArg some and3

theorem bright_rows {rows : List (List Bool)} (r : rightB rows) (j : Nat) (h : j < rows.length) : 1 ≤ (rows.getD j []).length ∧ (rows.getD j []).length ≤ 256 ∧ (rows.getD j []).length = colsB rows := r.2.2 _ (rowB_mem rows j h)
theorem of_spec (a : Int) (h0 : 0 ≤ a) (h1 : a < 18446744073709551616) : field_Of.f a = some (a % 2305843009213693951) := by
  unfold field_Of.f
  rw [and_p a h0 h1, u64_in _ (by omega) (by omega)]
  split
  · rw [u64_in _ (by omega) (by omega)]
    exact congrArg some (by omega)
  · exact congrArg some (by omega)

theorem add_spec (a b : Int) (h0 : 0 ≤ a) (h1 : a < 18446744073709551616) (g0 : 0 ≤ b) (g1 : b < 18446744073709551616) :
    field_Add.f a b = some ((a + b) % 2305843009213693951) := by
  unfold field_Add.f
  rw [of_spec a h0 h1, of_spec b g0 g1]
  simp only [Option.bind_some]
  rw [u64_in _ (by omega) (by omega), of_spec _ (by omega) (by omega)]
  simp only [Option.bind_some]
  exact congrArg some (by omega)

theorem mul64_spec (a b : Int) (h0 : 0 ≤ a) (h1 : a < 18446744073709551616) (g0 : 0 ≤ b) (g1 : b < 18446744073709551616) :
    bits_Mul64.f a b = some (a * b / 18446744073709551616, a * b % 18446744073709551616) := by
  unfold bits_Mul64.f
  have hh := halves a b
  obtain ⟨p0, p1⟩ := mul_bd (a := a / 4294967296) (b := b / 4294967296) (by omega) (by omega) (by omega) (by omega)
  obtain ⟨q0, q1⟩ := mul_bd (a := a / 4294967296) (b := b % 4294967296) (by omega) (by omega) (by omega) (by omega)
  obtain ⟨r0, r1⟩ := mul_bd (a := a % 4294967296) (b := b / 4294967296) (by omega) (by omega) (by omega) (by omega)
  obtain ⟨s0, s1⟩ := mul_bd (a := a % 4294967296) (b := b % 4294967296) (by omega) (by omega) (by omega) (by omega)
  rw [and_32 a h0 h1, and_32 b g0 g1]
  generalize a / 4294967296 * (b / 4294967296) = p at *
  generalize a / 4294967296 * (b % 4294967296) = q at *
  generalize a % 4294967296 * (b / 4294967296) = r at *
  generalize a % 4294967296 * (b % 4294967296) = s at *
  generalize a * b = m at *
  clear h0 h1 g0 g1
  rw [u64_in p (by omega) (by omega), u64_in q (by omega) (by omega), u64_in r (by omega) (by omega), u64_in s (by omega) (by omega)]
  rw [u64_in (q + s / 4294967296) (by omega) (by omega)]
  rw [and_32 _ (by omega) (by omega)]
  rw [u64_in (p + _) (by omega) (by omega), u64_in (_ + r) (by omega) (by omega), wrap_u64 m]
  rw [u64_in _ (by omega) (by omega)]
  exact congrArg some (Prod.ext (by show _ = _; omega) rfl)

theorem mul_spec (a b : Int) (h0 : 0 ≤ a) (h1 : a < 18446744073709551616) (g0 : 0 ≤ b) (g1 : b < 18446744073709551616) :
    field_Mul.f a b = some (a * b % 2305843009213693951) := by
  unfold field_Mul.f
  rw [of_spec a h0 h1, of_spec b g0 g1, Int.mul_emod]
  simp only [Option.bind_some]
  have x0 : 0 ≤ a % 2305843009213693951 := by omega
  have x1 : a % 2305843009213693951 ≤ 2305843009213693950 := by omega
  have y0 : 0 ≤ b % 2305843009213693951 := by omega
  have y1 : b % 2305843009213693951 ≤ 2305843009213693950 := by omega
  generalize a % 2305843009213693951 = x at *
  generalize b % 2305843009213693951 = y at *
  rw [mul64_spec x y x0 (by omega) y0 (by omega)]
  simp only [Option.bind_some]
  have hm : 0 ≤ x * y ∧ x * y ≤ 2305843009213693950 * 2305843009213693950 := ⟨Int.mul_nonneg x0 y0, Int.mul_le_mul x1 y1 y0 (by omega)⟩
  generalize x * y = m at *
  obtain ⟨m0, m1⟩ := hm
  rw [and_p _ (by omega) (by omega)]
  rw [u64_in (_ * 8) (by omega) (by omega)]
  rw [or_3 _ _ (by omega) (by omega) (by omega) (by omega) (by omega)]
  rw [u64_in _ (by omega) (by omega), of_spec _ (by omega) (by omega)]
  simp only [Option.bind_some]
  exact congrArg some (by omega)

theorem sq_half (x n : Int) (h0 : 0 ≤ n) : (x * x % 2305843009213693951) ^ (n / 2).toNat % 2305843009213693951 = x ^ (2 * (n.toNat / 2)) % 2305843009213693951 := by
  rw [pow_emod, Int.pow_mul, show (n / 2).toNat = n.toNat / 2 by omega, show x ^ 2 = x * x by grind]

theorem pow_l0 (d : Nat) : ∀ (k : Nat) (x n out : Int), 0 ≤ x → x < 2305843009213693951 → 0 ≤ n → n < 18446744073709551616 → n < 2 ^ d → 0 ≤ out → out < 2305843009213693951 → d < k →
    field_Pow.l0 k x n out = some (out * x ^ n.toNat % 2305843009213693951) := by
  induction d with
  | zero =>
    intro k x n out x0 x1 n0 n1 nd o0 o1 hk
    obtain ⟨k, rfl⟩ : ∃ m, k = m + 1 := ⟨k - 1, by omega⟩
    have hn : n = 0 := by simp at nd; omega
    simp only [field_Pow.l0]
    rw [if_neg (by omega), hn]
    exact congrArg some (by simp; omega)
  | succ d ih =>
    intro k x n out x0 x1 n0 n1 nd o0 o1 hk
    obtain ⟨k, rfl⟩ : ∃ m, k = m + 1 := ⟨k - 1, by omega⟩
    simp only [field_Pow.l0]
    by_cases hp : n > 0
    · rw [if_pos hp, and_1 n n0 n1, mul_spec x x x0 (by omega) x0 (by omega), mul_spec out x o0 (by omega) x0 (by omega)]
      simp only [Option.bind_some]
      have hd : n / 2 < 2 ^ d := by rw [Int.pow_succ] at nd; omega
      split
      · rw [ih k _ (n / 2) _ (by omega) (by omega) (by omega) (by omega) hd (by omega) (by omega) (by omega)]
        have e : n.toNat = 2 * (n.toNat / 2) + 1 := by omega
        refine congrArg some ?_
        rw [Int.mul_emod, sq_half x n n0, ← Int.mul_emod]
        rw [Int.mul_emod, Int.emod_emod, ← Int.mul_emod]
        conv => rhs; rw [e, Int.pow_succ, Int.mul_comm _ x, ← Int.mul_assoc]
      · rw [ih k _ (n / 2) _ (by omega) (by omega) (by omega) (by omega) hd o0 o1 (by omega)]
        have e : n.toNat = 2 * (n.toNat / 2) := by omega
        refine congrArg some ?_
        rw [Int.mul_emod, sq_half x n n0, ← Int.mul_emod]
        conv => rhs; rw [e]
    · have hn : n = 0 := by omega
      rw [if_neg hp, hn]
      exact congrArg some (by simp; omega)

theorem pow_spec (k : Nat) (a n : Int) (h0 : 0 ≤ a) (h1 : a < 18446744073709551616) (g0 : 0 ≤ n) (g1 : n < 18446744073709551616) (hk : 65 ≤ k) :
    field_Pow.f k a n = some (a ^ n.toNat % 2305843009213693951) := by
  unfold field_Pow.f
  rw [of_spec a h0 h1]
  simp only [Option.bind_some]
  rw [pow_l0 64 k _ n 1 (by omega) (by omega) g0 g1 (by omega) (by omega) (by omega) (by omega), Int.one_mul, pow_emod]

theorem sum_step (s : ByteArray) (a n i x j j' : Int) (k : Nat) (hj : j' = j + 1) (hs : s.size ≤ 140737488351232) (i0 : 0 ≤ i) (i1 : i ≤ s.size) (j0 : 0 ≤ j) (j1 : j < 4) (x0 : 0 ≤ x) (x1 : x < 72057594037927936) :
    hash_Sum.l1 (k + 1) s a n i x j = hash_Sum.l1 k s a n i (x * 256 + bt s (i + j)) j' := by
  subst hj
  have hb := bt_range s (i + j)
  conv => lhs; unfold hash_Sum.l1
  rw [if_pos j1, i64_in (i + j) (by omega) (by omega), i64_in (j + 1) (by omega) (by omega), u64_in (x * 256) (by omega) (by omega), u64_in (bt s (i + j)) (by omega) (by omega)]
  by_cases h : i + j < (s.size : Int)
  · rw [if_pos h, if_pos (by omega), or_8 (x * 256) _ (by omega) (by omega) (by omega) (by omega) (by omega)]
  · rw [if_neg h, bt_out s (i + j) (by omega), Int.add_zero]

theorem sum_word (s : ByteArray) (a n i : Int) (k : Nat) (hs : s.size ≤ 140737488351232) (i0 : 0 ≤ i) (i1 : i ≤ s.size) :
    hash_Sum.l1 (k + 4) s a n i 0 0 = hash_Sum.l1 k s a n i (wordAt s i) 4 := by
  have h0 := bt_range s i
  have h1 := bt_range s (i + 1)
  have h2 := bt_range s (i + 2)
  rw [sum_step s a n i 0 0 1 (k + 3) (by omega) hs i0 i1 (by omega) (by omega) (by omega) (by omega), Int.add_zero, Int.zero_mul, Int.zero_add,
    sum_step s a n i _ 1 2 (k + 2) (by omega) hs i0 i1 (by omega) (by omega) (by omega) (by omega),
    sum_step s a n i _ 2 3 (k + 1) (by omega) hs i0 i1 (by omega) (by omega) (by omega) (by omega),
    sum_step s a n i _ 3 4 k (by omega) hs i0 i1 (by omega) (by omega) (by omega) (by omega)]
  rfl

theorem sum_l0 (s : ByteArray) (a : Int) (hs : s.size ≤ 140737488351232) (a0 : 0 ≤ a) (a1 : a < 18446744073709551616) : ∀ (m k : Nat) (n i : Int), 0 ≤ i → (s.size : Int) ≤ i + 4 * m → i < (s.size : Int) + 4 → (0 < m → i + 4 * m < (s.size : Int) + 4) →
    0 ≤ n → n < 18446744073709551616 → 6 * m + 66 ≤ k →
    hash_Sum.l0 k s a n i = some ((roll s a m n i * a) ^ 17 % 2305843009213693951) := by
  intro m
  induction m with
  | zero =>
    intro k n i i0 i1 i2 i3 n0 n1 hk
    obtain ⟨k, rfl⟩ : ∃ m, k = m + 1 := ⟨k - 1, by omega⟩
    unfold hash_Sum.l0
    rw [if_neg (by omega), mul_spec n a n0 n1 a0 a1]
    simp only [Option.bind_some]
    rw [pow_spec k _ 17 (by omega) (by omega) (by omega) (by omega) (by omega), show (17 : Int).toNat = 17 from rfl, pow_emod]
    rfl
  | succ m ih =>
    intro k n i i0 i1 i2 i3 n0 n1 hk
    obtain ⟨k, rfl⟩ : ∃ m, k = m + 1 := ⟨k - 1, by omega⟩
    obtain ⟨k, rfl⟩ : ∃ m, k = m + 4 := ⟨k - 4, by omega⟩
    have hw := wordAt_range s i
    have i4 : i < (s.size : Int) := by omega
    unfold hash_Sum.l0
    rw [if_pos i4, sum_word s a n i k hs i0 (by omega)]
    obtain ⟨k, rfl⟩ : ∃ m, k = m + 1 := ⟨k - 1, by omega⟩
    unfold hash_Sum.l1
    rw [if_neg (by omega), mul_spec n a n0 n1 a0 a1, u64_in _ (by omega) (by omega)]
    simp only [Option.bind_some]
    rw [add_spec _ _ (by omega) (by omega) (by omega) (by omega), i64_in (i + 4) (by omega) (by omega)]
    simp only [Option.bind_some]
    rw [ih k _ (i + 4) (by omega) (by omega) (by omega) (by omega) (by omega) (by omega) (by omega)]
    simp only [roll]
    have e : (n * a % 2305843009213693951 + (wordAt s i + 1)) % 2305843009213693951 = (n * a + wordAt s i + 1) % 2305843009213693951 := by omega
    rw [e]

theorem sum_spec (k : Nat) (seed : Int) (s : ByteArray) (hs : s.size ≤ 140737488351232) (h0 : 0 ≤ seed) (h1 : seed < 18446744073709551616) (hk : 6 * words s + 66 ≤ k) :
    hash_Sum.f k seed s = some (hsum seed s) := by
  unfold hash_Sum.f
  rw [add_spec seed 2 h0 h1 (by omega) (by omega), u64_in _ (by omega) (by omega)]
  simp only [Option.bind_some]
  have hw : words s = (s.size + 3) / 4 := rfl
  exact sum_l0 s _ hs (by omega) (by omega) (words s) k s.size 0 (by omega) (by omega) (by omega) (by omega) (by omega) (by omega) hk

/-- the level of a sum: how many of its lowest bits are nought, at most so many -/
def lev (S most : Int) : Int := if S = 0 then mx most 0 else mx (mn (Lib.ctz 64 S.toNat : Int) most) 0

theorem ctz_le (x : Nat) (hx : x < 18446744073709551616) : Lib.ctz 64 x ≤ 64 := by
  unfold Lib.ctz
  split
  · exact Nat.le_refl _
  · rename_i h
    obtain ⟨m, _, h2⟩ := Lib.ctzFrom_spec 64 x (by omega) (by omega)
    omega

theorem level_spec (k : Nat) (seed : Int) (s : ByteArray) (most : Int) (hs : s.size ≤ 140737488351232) (h0 : 0 ≤ seed) (h1 : seed < 18446744073709551616) (hk : 6 * words s + 66 ≤ k) :
    hash_Level.f k seed s most = some (lev (hsum seed s) most) := by
  unfold hash_Level.f lev
  have h := hsum_range seed s
  rw [sum_spec k seed s hs h0 h1 hk]
  simp only [Option.bind_some]
  by_cases c : hsum seed s = 0
  · rw [if_pos c, if_pos c]
  · rw [if_neg c, if_neg c]
    unfold bits_TrailingZeros64.f
    rw [if_pos h.1, if_pos (by omega)]
    rfl
theorem row_spec (seed i : Int) (h0 : 0 ≤ seed) (h1 : seed < 18446744073709551616) (hi : i < 9223372036854775808) : hash_Row.f seed i = some (hrow seed i) := by
  unfold hash_Row.f hrow hmid
  have e : mx i 0 = if i < 0 then 0 else i := rfl
  rw [e, add_spec seed 3 h0 h1 (by omega) (by omega)]
  generalize hj : (if i < 0 then (0 : Int) else i) = j
  have hj0 : 0 ≤ j ∧ j < 9223372036854775808 := by rw [← hj]; split <;> omega
  simp only [Option.bind_some]
  rw [u64_in j (by omega) (by omega), add_spec j 2 (by omega) (by omega) (by omega) (by omega)]
  simp only [Option.bind_some]
  rw [mul_spec _ _ (by omega) (by omega) (by omega) (by omega)]
  simp only [Option.bind_some]
  rw [add_spec _ 5 (by omega) (by omega) (by omega) (by omega)]
  simp only [Option.bind_some]
  rw [mul_spec _ _ (by omega) (by omega) (by omega) (by omega)]
  rfl

theorem cell_spec (k : Nat) (seed : Int) (key : ByteArray) (n : Int) (hs : key.size ≤ 140737488351232) (h0 : 0 ≤ seed) (h1 : seed < 18446744073709551616) (hn : n < 9223372036854775808) (hk : 6 * words key + 66 ≤ k) :
    hash_Cell.f k seed key n = some (hcell seed key n) := by
  unfold hash_Cell.f hcell
  by_cases a : n < 1
  · rw [if_pos a, if_pos a]
  · rw [if_neg a, if_neg a, sum_spec k seed key hs h0 h1 hk]
    simp only [Option.bind_some]
    have r := hsum_range seed key
    have r1 := Int.emod_nonneg (hsum seed key) (b := n) (by omega)
    have r2 := Int.emod_lt_of_pos (hsum seed key) (b := n) (by omega)
    rw [u64_in n (by omega) (by omega), if_neg (by omega), Int.tmod_eq_emod_of_nonneg r.1, i64_in _ (by omega) (by omega)]

/-- the row and the bit of a thing -/
def placeI (s : Int) (rows : List (List Bool)) (thing : ByteArray) : Int := lev (hsum (hrow s 0) thing) ((rows.length : Int) - 1)
def placeK (s : Int) (rows : List (List Bool)) (thing : ByteArray) : Int := hcell (hrow s 1) thing (colsB rows)

theorem lev_range (S most : Int) (h : 0 ≤ most) : 0 ≤ lev S most ∧ lev S most ≤ most := by
  unfold lev mn mx
  by_cases c : S = 0
  · rw [if_pos c]
    (repeat' split) <;> omega
  · rw [if_neg c]
    have ht : 0 ≤ (Lib.ctz 64 S.toNat : Int) := by omega
    generalize (Lib.ctz 64 S.toNat : Int) = t at ht ⊢
    (repeat' split) <;> omega

theorem place_range (s : Int) (rows : List (List Bool)) (thing : ByteArray) (r : rightB rows) : 0 ≤ placeI s rows thing ∧ placeI s rows thing < (rows.length : Int) ∧ 0 ≤ placeK s rows thing ∧ placeK s rows thing < (colsB rows : Int) := by
  have h1 := lev_range (hsum (hrow s 0) thing) ((rows.length : Int) - 1) (by have := r.1; omega)
  have hc := bright_rows r 0 (by have := r.1; omega)
  have h2 := hcell_range (hrow s 1) thing (colsB rows) (by unfold colsB; omega)
  unfold placeI placeK
  omega

theorem bplace_spec (k : Nat) (s : Int) (rows : List (List Bool)) (thing : ByteArray) (hs0 : 0 ≤ s) (hs1 : s < 18446744073709551616) (ht : thing.size ≤ 1000) (hk : 1600 ≤ k) :
    bitmap_Place.f k s rows thing = some (if rightB rows then (placeI s rows thing, placeK s rows thing) else (0, 0)) := by
  have hw := words_le thing 250 (by omega)
  unfold bitmap_Place.f
  rw [bright_spec]
  simp only [Option.bind_some]
  by_cases r : rightB rows
  · rw [if_pos (decide_eq_true r), if_pos r, row_spec s 0 hs0 hs1 (by omega)]
    simp only [Option.bind_some]
    have hr0 := hrow_range s 0
    have hr1 := hrow_range s 1
    have h16 := r.2.1
    rw [i64_in ((rows.length : Int) - 1) (by omega) (by omega), level_spec k (hrow s 0) thing _ (by omega) hr0.1 (by omega) (by omega)]
    simp only [Option.bind_some]
    rw [row_spec s 1 hs0 hs1 (by omega)]
    simp only [Option.bind_some]
    have hp := place_range s rows thing r
    have e1 : lev (hsum (hrow s 0) thing) ((rows.length : Int) - 1) = placeI s rows thing := rfl
    rw [e1, if_pos hp.1, if_pos hp.2.1]
    have e2 : rd_L1 rows (placeI s rows thing) = rows.getD (placeI s rows thing).toNat [] := rfl
    have hl := bright_rows r (placeI s rows thing).toNat (by omega)
    rw [e2, hl.2.2, cell_spec k (hrow s 1) thing _ (by omega) hr1.1 (by omega) (by omega) (by omega)]
    rfl
  · rw [if_neg (by rw [decide_eq_false r]; decide), if_neg r]
theorem clone_rowsB (l : List (List Bool)) (h : l.length < 5864062014805) : slices_Clone_bool_bool_26.f l = some l := by
  unfold slices_Clone_bool_bool_26.f
  simp only [Option.bind_some, List.length_nil, List.nil_append]
  rw [if_pos (by omega)]

theorem clone_bits (l : List Bool) (h : l.length < 140737488355328) : slices_Clone_bool_bool_27.f l = some l := by
  unfold slices_Clone_bool_bool_27.f
  simp only [Option.bind_some, List.length_nil, List.nil_append]
  rw [if_pos (by omega)]

/-- with one thing more -/
def addB (s : Int) (thing : ByteArray) (rows : List (List Bool)) : List (List Bool) := setB rows (placeI s rows thing).toNat (placeK s rows thing).toNat

theorem addB_shape (s : Int) (thing : ByteArray) (rows : List (List Bool)) (r : rightB rows) : shapeB (addB s thing rows) rows := by
  have hp := place_range s rows thing r
  exact shapeB_set rows _ _ (by omega)

theorem addB_right (s : Int) (thing : ByteArray) (rows : List (List Bool)) (r : rightB rows) : rightB (addB s thing rows) := shapeB_right (addB_shape s thing rows r) r

theorem addB_bit (s : Int) (thing : ByteArray) (rows : List (List Bool)) (r : rightB rows) (j d : Nat) : bit (addB s thing rows) j d = (bit rows j d || decide (j = (placeI s rows thing).toNat ∧ d = (placeK s rows thing).toNat)) := by
  have hp := place_range s rows thing r
  have hl := bright_rows r (placeI s rows thing).toNat (by omega)
  exact setB_bit rows _ _ j d (by omega) (by omega)

theorem badd_spec (k : Nat) (s : Int) (rows : List (List Bool)) (thing : ByteArray) (hs0 : 0 ≤ s) (hs1 : s < 18446744073709551616) (ht : thing.size ≤ 1000) (hk : 1600 ≤ k) :
    bitmap_Add.f k s rows thing = some (if rightB rows then (s, addB s thing rows) else (s, rows)) := by
  unfold bitmap_Add.f
  rw [bright_spec]
  simp only [Option.bind_some]
  by_cases r : rightB rows
  · rw [if_pos (decide_eq_true r), if_pos r, bplace_spec k s rows thing hs0 hs1 ht hk, if_pos r, clone_rowsB rows (by have := r.2.1; omega)]
    simp only [Option.bind_some]
    have hp := place_range s rows thing r
    have hl := bright_rows r (placeI s rows thing).toNat (by omega)
    have e2 : rd_L1 rows (placeI s rows thing) = rows.getD (placeI s rows thing).toNat [] := rfl
    rw [if_pos hp.1, if_pos hp.2.1, e2, clone_bits _ (by omega)]
    simp only [Option.bind_some]
    rw [if_pos hp.2.2.1, if_pos (by omega)]
    rfl
  · rw [if_neg (by rw [decide_eq_false r]; decide), if_neg r]
theorem best_l2 (rows : List (List Bool)) (i b : Nat) (hb : b ≤ 256) (K : Nat) (res : Int) : ∀ (d k j : Nat) (acc : Int), b + 1 - j = d → 1 ≤ j → j ≤ b + 1 → 0 ≤ acc → acc + (d : Int) * 16777216 ≤ 1152921504606846976 → (∀ k, K ≤ k → bitmap_Estimate.l0 k (acc + partB b d) rows rows.length ((i + 1 : Nat) : Int) = some res) → i < 1000 → K + d + 1 ≤ k →
    bitmap_Estimate.l2 k acc b j rows rows.length i = some res := by
  intro d
  induction d with
  | zero =>
    intro k j acc h0 h1 hj ha ha2 hnext hi hk
    obtain ⟨k, rfl⟩ : ∃ m, k = m + 1 := ⟨k - 1, by omega⟩
    have hn := hnext k (by omega)
    simp only [partB, Int.add_zero] at hn
    simp only [bitmap_Estimate.l2]
    rw [if_neg (by omega), i64_in ((i : Int) + 1) (by omega) (by omega), show (i : Int) + 1 = ((i + 1 : Nat) : Int) by omega, hn]
  | succ d ih =>
    intro k j acc h0 h1 hj ha ha2 hnext hi hk
    obtain ⟨k, rfl⟩ : ∃ m, k = m + 1 := ⟨k - 1, by omega⟩
    have ht := partB_term b d hb (by omega)
    have ej : b - d = j := by omega
    rw [ej] at ht
    simp only [bitmap_Estimate.l2]
    rw [if_pos (by omega), if_neg (by omega), i64_in ((b : Int) * 65536) (by omega) (by omega), Int.tdiv_eq_ediv_of_nonneg (by omega), i64_in ((b : Int) * 65536 / (j : Int)) (by omega) (by omega), i64_in (acc + (b : Int) * 65536 / (j : Int)) (by omega) (by omega), i64_in ((j : Int) + 1) (by omega) (by omega), show (j : Int) + 1 = ((j + 1 : Nat) : Int) by omega]
    refine ih k (j + 1) _ (by omega) (by omega) (by omega) (by omega) (by omega) (fun k' hk' => ?_) hi (by omega)
    have hn := hnext k' hk'
    simp only [partB] at hn
    rw [ej] at hn
    rw [show acc + (b : Int) * 65536 / (j : Int) + partB b d = acc + (partB b d + (b : Int) * 65536 / (j : Int)) by omega]
    exact hn

theorem best_l1 (rows : List (List Bool)) (i : Nat) (acc : Int) (row : List Bool) (hr : row.length ≤ 256) (K : Nat) (res : Int) (hnext : ∀ k, K ≤ k → bitmap_Estimate.l2 k acc row.length ((row.length - cnt row + 1 : Nat) : Int) rows rows.length i = some res) : ∀ (d k j : Nat), row.length - j = d → j ≤ row.length → K + d + 1 ≤ k →
    bitmap_Estimate.l1 k acc row.length ((row.length - cnt (row.take j) : Nat) : Int) rows rows.length i row row.length j = some res := by
  intro d
  induction d with
  | zero =>
    intro k j h0 hj hk
    obtain ⟨k, rfl⟩ : ∃ m, k = m + 1 := ⟨k - 1, by omega⟩
    have hc := cnt_le row
    have hn := hnext k (by omega)
    simp only [bitmap_Estimate.l1]
    rw [if_neg (by omega), List.take_of_length_le (by omega), i64_in _ (by omega) (by omega), show ((row.length - cnt row : Nat) : Int) + 1 = ((row.length - cnt row + 1 : Nat) : Int) by omega, hn]
  | succ d ih =>
    intro k j h0 hj hk
    obtain ⟨k, rfl⟩ : ∃ m, k = m + 1 := ⟨k - 1, by omega⟩
    have g : j < row.length := by omega
    have hn := ih k (j + 1) (by omega) (by omega) (by omega)
    have hct := cnt_take row j g
    have hc1 := cnt_le (row.take (j + 1))
    rw [List.length_take] at hc1
    have e : rdOf false row (j : Int) = row.getD j false := rfl
    simp only [bitmap_Estimate.l1]
    rw [if_pos (by omega), if_pos (by omega), if_pos (by omega), e, i64_in ((j : Int) + 1) (by omega) (by omega), show (j : Int) + 1 = ((j + 1 : Nat) : Int) by omega]
    by_cases c : row.getD j false = true
    · rw [if_pos c] at hct ⊢
      rw [i64_in _ (by omega) (by omega), show ((row.length - cnt (row.take j) : Nat) : Int) - 1 = ((row.length - cnt (row.take (j + 1)) : Nat) : Int) by omega]
      exact hn
    · rw [if_neg c] at hct ⊢
      rw [hct, Nat.add_zero] at hn
      exact hn

set_option maxRecDepth 100000 in
theorem best_l0 (rows : List (List Bool)) (hr : ∀ r ∈ rows, r.length ≤ 256) (h16 : rows.length ≤ 16) : ∀ (d k i : Nat) (acc : Int), rows.length - i = d → i ≤ rows.length → 0 ≤ acc → acc + (d : Int) * 4294967296 ≤ 576460752303423488 → d * 600 + 1 ≤ k →
    bitmap_Estimate.l0 k acc rows rows.length i = some (acc + est (rows.drop i)) := by
  intro d
  induction d with
  | zero =>
    intro k i acc h0 hi ha ha2 hk
    obtain ⟨k, rfl⟩ : ∃ m, k = m + 1 := ⟨k - 1, by omega⟩
    simp only [bitmap_Estimate.l0]
    rw [if_neg (by omega), List.drop_of_length_le (by omega)]
    simp [est]
  | succ d ih =>
    intro k i acc h0 hi ha ha2 hk
    obtain ⟨k, rfl⟩ : ∃ m, k = m + 1 := ⟨k - 1, by omega⟩
    have g : i < rows.length := by omega
    have e : rd_L1 rows (i : Int) = rows.getD i [] := rfl
    have hl := hr _ (rowB_mem rows i g)
    have hrow := estRow_range (rows.getD i []) hl
    have hcn := cnt_le (rows.getD i [])
    have ed : rows.drop i = rows.getD i [] :: rows.drop (i + 1) := by
      rw [List.drop_eq_getElem_cons g, List.getD_eq_getElem?_getD, List.getElem?_eq_getElem g]; rfl
    simp only [bitmap_Estimate.l0]
    rw [if_pos (by omega), if_pos (by omega), if_pos (by omega), e, ed]
    have hx := best_l1 rows i acc (rows.getD i []) hl (d * 600 + 260) (acc + est (rows.getD i [] :: rows.drop (i + 1))) (fun k' hk' => by
      refine best_l2 rows i (rows.getD i []).length hl (d * 600 + 1) _ (cnt (rows.getD i [])) k' ((rows.getD i []).length - cnt (rows.getD i []) + 1) acc (by omega) (by omega) (by omega) ha (by omega) (fun k'' hk'' => ?_) (by omega) (by omega)
      have hy := ih k'' (i + 1) (acc + partB (rows.getD i []).length (cnt (rows.getD i []))) (by omega) (by omega) (by unfold estRow at hrow; omega) (by unfold estRow at hrow; omega) hk''
      rw [hy]
      simp only [est, estRow]
      rw [Int.add_assoc]) (rows.getD i []).length k 0 (by omega) (by omega) (by omega)
    rw [List.take_zero] at hx
    simp only [cnt, Nat.sub_zero] at hx
    exact hx

theorem best_spec (k : Nat) (s : Int) (rows : List (List Bool)) (hk : 10000 ≤ k) : bitmap_Estimate.f k s rows = some (if rightB rows then est rows else 0) := by
  unfold bitmap_Estimate.f
  rw [bright_spec]
  simp only [Option.bind_some]
  by_cases r : rightB rows
  · have h16 := r.2.1
    have hx := best_l0 rows (fun x hx => (r.2.2 x hx).2.1) h16 rows.length k 0 0 (by omega) (by omega) (by omega) (by omega) (by omega)
    rw [if_pos (decide_eq_true r), if_pos r]
    rw [Int.zero_add, List.drop_zero] at hx
    exact hx
  · rw [if_neg (by rw [decide_eq_false r]; decide), if_neg r]
theorem awake13_bits : est (addB 1 (⟨#[97]⟩ : ByteArray) [[false, false]]) = 65536 ∧ est [[false, false]] = 0 ∧ est [[true, true]] = 196608 ∧ rightB [[false, false]] ∧ rightB [[true, true]] ∧ rightB (addB 1 (⟨#[97]⟩ : ByteArray) [[false, false]]) := by decide +kernel

theorem awake13_spec (k : Nat) (hk : 10000 ≤ k) : rillmeterlaw13_awake.f k = some true := by
  obtain ⟨h1, h2, h3, h4, h5, h6⟩ := awake13_bits
  unfold rillmeterlaw13_awake.f
  rw [bnew_spec k 1 1 2 (by omega), if_pos (by decide)]
  simp only [Option.bind_some]
  have ez : List.replicate (1 : Int).toNat (List.replicate (2 : Int).toNat false) = [[false, false]] := rfl
  have hz : (⟨#[97]⟩ : ByteArray).size ≤ 1000 := by decide
  rw [ez, if_pos trivial, best_spec k 1 _ hk, if_pos h4, h2]
  simp only [Option.bind_some]
  rw [if_pos trivial, badd_spec k 1 _ (⟨#[97]⟩ : ByteArray) (by omega) (by omega) hz (by omega), if_pos h4]
  simp only [Option.bind_some]
  rw [best_spec k 1 _ hk, if_pos h6, h1]
  simp only [Option.bind_some]
  rw [if_pos trivial, best_spec k 0 _ hk, if_pos h5, h3]
  rfl
theorem short_l0 (l : List ByteArray) (hl : l.length ≤ 1000000) : ∀ (d k i : Nat), l.length - i = d → i ≤ l.length → d < k →
    rillmeterref10_Short.l0 k l i = some (decide (∀ s ∈ l.drop i, s.size ≤ 100)) := by
  intro d
  induction d with
  | zero =>
    intro k i h0 h1 h2
    obtain ⟨k, rfl⟩ : ∃ m, k = m + 1 := ⟨k - 1, by omega⟩
    simp only [rillmeterref10_Short.l0]
    rw [if_neg (by omega), List.drop_of_length_le (by omega)]
    simp
  | succ d ih =>
    intro k i h0 h1 h2
    obtain ⟨k, rfl⟩ : ∃ m, k = m + 1 := ⟨k - 1, by omega⟩
    have g : i < l.length := by omega
    have e : rdOf ByteArray.empty l i = l[i] := by simp [rdOf, g]
    simp only [rillmeterref10_Short.l0]
    rw [if_pos (by omega), if_pos (by omega), e, i64_in ((i : Int) + 1) (by omega) (by omega), show (i : Int) + 1 = ((i + 1 : Nat) : Int) by omega, ih k (i + 1) (by omega) (by omega) (by omega), List.drop_eq_getElem_cons g]
    by_cases c : (l[i].size : Int) > 100
    · rw [if_pos c]
      exact congrArg some (decide_eq_false (fun h => by have := h l[i] List.mem_cons_self; omega)).symm
    · rw [if_neg c]
      exact congrArg some (decide_eq_decide.2 ⟨fun h s hs => by rcases List.mem_cons.1 hs with rfl | hs; omega; exact h s hs, fun h s hs => h s (List.mem_cons_of_mem _ hs)⟩)

theorem short_spec (k : Nat) (l : List ByteArray) (m : Int) (hm : 0 ≤ m ∧ m ≤ 1000) (hk : 1002 ≤ k) :
    rillmeterref10_Short.f k l m = some (decide ((l.length : Int) ≤ m ∧ ∀ s ∈ l, s.size ≤ 100)) := by
  unfold rillmeterref10_Short.f
  by_cases c : (l.length : Int) > m
  · rw [if_pos c]
    exact congrArg some (decide_eq_false (fun h => by omega)).symm
  · have h := short_l0 l (by omega) l.length k 0 (by omega) (by omega) (by omega)
    rw [show ((0 : Nat) : Int) = 0 from rfl, List.drop_zero] at h
    rw [if_neg c, h]
    exact congrArg some (decide_eq_decide.2 ⟨fun h => ⟨by omega, h⟩, fun h => h.2⟩)

def addsB (s : Int) : List ByteArray → List (List Bool) → List (List Bool)
  | [], r => r
  | y :: t, r => addsB s t (addB s y r)

theorem addsB_shape (s : Int) : ∀ (l : List ByteArray) (rows : List (List Bool)), rightB rows → shapeB (addsB s l rows) rows := by
  intro l
  induction l with
  | nil => intro rows _; exact shapeB_refl rows
  | cons y t ih => intro rows r; exact shapeB_trans (ih _ (addB_right s y rows r)) (addB_shape s y rows r)

theorem addsB_right (s : Int) (l : List ByteArray) (rows : List (List Bool)) (r : rightB rows) : rightB (addsB s l rows) := shapeB_right (addsB_shape s l rows r) r

/-- is it the place of one of these things? -/
def hit (s : Int) (rows : List (List Bool)) (l : List ByteArray) (i c : Nat) : Bool := l.any (fun y => decide (i = (placeI s rows y).toNat ∧ c = (placeK s rows y).toNat))

theorem place_shape (s : Int) {a b : List (List Bool)} (h : shapeB a b) (y : ByteArray) : placeI s a y = placeI s b y ∧ placeK s a y = placeK s b y := by
  have h0 : colsB a = colsB b := h.2 0
  unfold placeI placeK
  rw [h.1, h0]
  exact ⟨rfl, rfl⟩

theorem hit_shape (s : Int) {a b : List (List Bool)} (h : shapeB a b) (l : List ByteArray) (i c : Nat) : hit s a l i c = hit s b l i c := by
  unfold hit
  congr 1
  funext y
  obtain ⟨e1, e2⟩ := place_shape s h y
  rw [e1, e2]

theorem addsB_bit (s : Int) : ∀ (l : List ByteArray) (rows : List (List Bool)), rightB rows → ∀ i c, bit (addsB s l rows) i c = (bit rows i c || hit s rows l i c) := by
  intro l
  induction l with
  | nil => intro rows _ i c; simp [addsB, hit]
  | cons y t ih =>
    intro rows r i c
    simp only [addsB]
    rw [ih _ (addB_right s y rows r) i c, addB_bit s y rows r, hit_shape s (addB_shape s y rows r)]
    simp only [hit, List.any_cons]
    rw [Bool.or_assoc]

theorem badds_l0 (s : Int) (l : List ByteArray) (hl : l.length ≤ 1000) (h : ∀ y ∈ l, y.size ≤ 1000) (hs0 : 0 ≤ s) (hs1 : s < 18446744073709551616) : ∀ (d k i : Nat) (rows : List (List Bool)), l.length - i = d → i ≤ l.length → rightB rows → d + 1700 ≤ k →
    rillmeterlaw13_adds.l0 k l l.length i s rows = some (s, addsB s (l.drop i) rows) := by
  intro d
  induction d with
  | zero =>
    intro k i rows h0 hi r hk
    obtain ⟨k, rfl⟩ : ∃ m, k = m + 1 := ⟨k - 1, by omega⟩
    simp only [rillmeterlaw13_adds.l0]
    rw [if_neg (by omega), List.drop_of_length_le (by omega)]
    rfl
  | succ d ih =>
    intro k i rows h0 hi r hk
    obtain ⟨k, rfl⟩ : ∃ m, k = m + 1 := ⟨k - 1, by omega⟩
    have g : i < l.length := by omega
    have q := h _ (List.getElem_mem g)
    have r2 := addB_right s l[i] rows r
    have hnext := ih k (i + 1) _ (by omega) (by omega) r2 (by omega)
    rw [List.drop_eq_getElem_cons g]
    simp only [rillmeterlaw13_adds.l0]
    rw [if_pos (by omega), if_pos (by omega), if_pos (by omega), rdOf_eq _ l i g, badd_spec k s rows l[i] hs0 hs1 q (by omega), if_pos r]
    simp only [Option.bind_some]
    rw [i64_in ((i : Int) + 1) (by omega) (by omega), show (i : Int) + 1 = ((i + 1 : Nat) : Int) by omega]
    exact hnext

theorem badds_spec (k : Nat) (s : Int) (l : List ByteArray) (rows : List (List Bool)) (hl : l.length ≤ 1000) (h : ∀ y ∈ l, y.size ≤ 1000) (hs0 : 0 ≤ s) (hs1 : s < 18446744073709551616) (r : rightB rows) (hk : 2700 ≤ k) : rillmeterlaw13_adds.f k s rows l = some (s, addsB s l rows) := by
  have hx := badds_l0 s l hl h hs0 hs1 l.length k 0 rows (by omega) (by omega) r (by omega)
  rw [List.drop_zero] at hx
  exact hx
theorem setV_shape (rows : List (List Bool)) (i c : Nat) (v : Bool) (h : i < rows.length) : shapeB (rows.set i ((rows.getD i []).set c v)) rows := by
  refine ⟨List.length_set, fun j => ?_⟩
  rw [rowB_set rows i j _ h]
  by_cases e : i = j
  · rw [if_pos e, List.length_set, e]
  · rw [if_neg e]

theorem setV_bit (rows : List (List Bool)) (i c : Nat) (v : Bool) (j d : Nat) (h : i < rows.length) (hc : c < (rows.getD i []).length) : bit (rows.set i ((rows.getD i []).set c v)) j d = if j = i ∧ d = c then v else bit rows j d := by
  unfold bit
  rw [rowB_set rows i j _ h]
  by_cases e : i = j
  · subst e
    rw [if_pos rfl, bitB_set _ c d _ hc]
    by_cases e2 : c = d
    · rw [if_pos e2, if_pos ⟨rfl, e2.symm⟩]
    · rw [if_neg e2, if_neg (fun o => e2 o.2.symm)]
  · rw [if_neg e, if_neg (fun o => e o.1.symm)]

def alikeB (sa : Int) (a : List (List Bool)) (sb : Int) (b : List (List Bool)) : Prop := rightB a ∧ rightB b ∧ sa = sb ∧ a.length = b.length ∧ colsB a = colsB b
instance (sa : Int) (a : List (List Bool)) (sb : Int) (b : List (List Bool)) : Decidable (alikeB sa a sb b) := by unfold alikeB; infer_instance

theorem alike_shape {a b : List (List Bool)} (ra : rightB a) (rb : rightB b) (hl : a.length = b.length) (hc : colsB a = colsB b) : shapeB a b := by
  refine ⟨hl, fun j => ?_⟩
  by_cases h : j < a.length
  · have h1 := bright_rows ra j h
    have h2 := bright_rows rb j (by omega)
    omega
  · rw [List.getD_eq_getElem?_getD, List.getD_eq_getElem?_getD, List.getElem?_eq_none (by omega), List.getElem?_eq_none (by omega)]

theorem bmerge_l1 (s : Int) (a b : List (List Bool)) (ra : rightB a) (sh : shapeB a b) (i : Nat) (g : i < a.length) (K : Nat) (res : Int × List (List Bool) × Int)
    (hnext : ∀ k cur, K ≤ k → shapeB cur a → (∀ j, j < i + 1 → ∀ x, bit cur j x = bit (orRows a b) j x) → bitmap_Merge.l0 k a b cur a.length ((i + 1 : Nat) : Int) s = some res) : ∀ (d k c : Nat) (cur : List (List Bool)), (a.getD i []).length - c = d → c ≤ (a.getD i []).length → shapeB cur a → (∀ j, j < i → ∀ x, bit cur j x = bit (orRows a b) j x) → (∀ x, x < c → bit cur i x = bit (orRows a b) i x) → K + d + 1 ≤ k →
    bitmap_Merge.l1 k a b cur a.length i (a.getD i []).length c s = some res := by
  have h16 := ra.2.1
  have hra := bright_rows ra i g
  have hso := orRows_shape a b
  intro d
  induction d with
  | zero =>
    intro k c cur h0 hi hs h1 h2 hk
    obtain ⟨k, rfl⟩ : ∃ m, k = m + 1 := ⟨k - 1, by omega⟩
    simp only [bitmap_Merge.l1]
    rw [if_neg (by omega), i64_in ((i : Int) + 1) (by omega) (by omega), show (i : Int) + 1 = ((i + 1 : Nat) : Int) by omega]
    refine hnext k cur (by omega) hs (fun j hj x => ?_)
    by_cases e : j = i
    · subst e
      by_cases hx : x < c
      · exact h2 x hx
      · have e1 := hs.2 j
        have e2 := hso.2 j
        unfold bit
        rw [getD_short (r := cur.getD j []) (by omega), getD_short (r := (orRows a b).getD j []) (by omega)]
    · exact h1 j (by omega) x
  | succ d ih =>
    intro k c cur h0 hi hs h1 h2 hk
    obtain ⟨k, rfl⟩ : ∃ m, k = m + 1 := ⟨k - 1, by omega⟩
    have gc : c < (a.getD i []).length := by omega
    have ea : rd_L1 a (i : Int) = a.getD i [] := rfl
    have eb : rd_L1 b (i : Int) = b.getD i [] := rfl
    have ec : rd_L1 cur (i : Int) = cur.getD i [] := rfl
    have va : rdOf false (a.getD i []) (c : Int) = bit a i c := rfl
    have vb : rdOf false (b.getD i []) (c : Int) = bit b i c := rfl
    have hlb := sh.2 i
    have hlc := hs.2 i
    have hll := hs.1
    have hlb2 := sh.1
    have hor := orRows_bit a b sh i c
    have hgo : ∀ v, v = bit (orRows a b) i c → bitmap_Merge.l1 k a b (cur.set i ((cur.getD i []).set c v)) a.length i (a.getD i []).length ((c + 1 : Nat) : Int) s = some res := by
      intro v hv
      refine ih k (c + 1) _ (by omega) (by omega) (shapeB_trans (setV_shape cur i c v (by omega)) hs) (fun j hj x => ?_) (fun x hx => ?_) (by omega)
      · rw [setV_bit cur i c v j x (by omega) (by omega), if_neg (by omega)]; exact h1 j hj x
      · rw [setV_bit cur i c v i x (by omega) (by omega)]
        by_cases e : x = c
        · rw [if_pos ⟨rfl, e⟩, e]; exact hv
        · rw [if_neg (fun o => e o.2)]; exact h2 x (by omega)
    simp only [bitmap_Merge.l1]
    rw [if_pos (by omega), if_pos (by omega), if_pos (by omega), ea, if_pos (by omega), va, ec, i64_in ((c : Int) + 1) (by omega) (by omega), show (c : Int) + 1 = ((c + 1 : Nat) : Int) by omega]
    by_cases hb : bit a i c = true
    · rw [if_pos hb]
      exact hgo true (by rw [hor, hb]; rfl)
    · have hb0 : bit a i c = false := by simpa using hb
      rw [if_neg hb, if_pos (by omega), eb, if_pos (by omega), vb]
      exact hgo (bit b i c) (by rw [hor, hb0]; rfl)

set_option maxRecDepth 100000 in
theorem bmerge_l0 (s : Int) (a b : List (List Bool)) (ra : rightB a) (sh : shapeB a b) : ∀ (d k i : Nat) (cur : List (List Bool)), a.length - i = d → i ≤ a.length → shapeB cur a → (∀ j, j < i → ∀ x, bit cur j x = bit (orRows a b) j x) → d * 260 + 1 ≤ k →
    bitmap_Merge.l0 k a b cur a.length i s = some (s, orRows a b, 0) := by
  intro d
  induction d with
  | zero =>
    intro k i cur h0 hi hs h1 hk
    obtain ⟨k, rfl⟩ : ∃ m, k = m + 1 := ⟨k - 1, by omega⟩
    have e : cur = orRows a b := shapeB_ext _ _ (shapeB_trans hs (shapeB_symm (orRows_shape a b))) (fun j x => by
      by_cases hj : j < a.length
      · exact h1 j (by omega) x
      · have e1 : (cur.getD j []).length = 0 := by rw [hs.2 j, List.getD_eq_getElem?_getD, List.getElem?_eq_none (by omega)]; rfl
        have e2 : ((orRows a b).getD j []).length = 0 := by rw [(orRows_shape a b).2 j, List.getD_eq_getElem?_getD, List.getElem?_eq_none (by omega)]; rfl
        unfold bit
        rw [getD_short (r := cur.getD j []) (by omega), getD_short (r := (orRows a b).getD j []) (by omega)])
    simp only [bitmap_Merge.l0]
    rw [if_neg (by omega), e]
  | succ d ih =>
    intro k i cur h0 hi hs h1 hk
    obtain ⟨k, rfl⟩ : ∃ m, k = m + 1 := ⟨k - 1, by omega⟩
    have g : i < a.length := by omega
    have hra := bright_rows ra i g
    have ec : rd_L1 cur (i : Int) = cur.getD i [] := rfl
    have hlc := hs.2 i
    have hll := hs.1
    simp only [bitmap_Merge.l0]
    rw [if_pos (by omega), if_pos (by omega), if_pos (by omega), ec, hlc]
    exact bmerge_l1 s a b ra sh i g (d * 260 + 1) _ (fun k cur hk q1 q2 => ih k (i + 1) cur (by omega) (by omega) q1 q2 hk) (a.getD i []).length k 0 cur (by omega) (by omega) hs h1 (fun x hx => by omega) (by omega)

theorem bmerge_spec (k : Nat) (sa sb : Int) (a b : List (List Bool)) (hk : 6000 ≤ k) : bitmap_Merge.f k sa a sb b = some (if alikeB sa a sb b then (sa, orRows a b, 0) else (0, [], 1)) := by
  obtain ⟨k, rfl⟩ : ∃ m, k = m + 1 := ⟨k - 1, by omega⟩
  have hbad : bitmap_Merge.j0 (k + 1) true sa a b = some (0, [], 1) := by
    simp only [bitmap_Merge.j0]
    rw [if_pos trivial]
  unfold bitmap_Merge.f
  rw [bright_spec]
  simp only [Option.bind_some]
  by_cases ra : rightB a
  · rw [if_pos (decide_eq_true ra), bright_spec]
    simp only [Option.bind_some]
    by_cases rb : rightB b
    · rw [if_pos (decide_eq_true rb)]
      by_cases c1 : sa = sb
      · rw [if_pos c1]
        by_cases c3 : (a.length : Int) = (b.length : Int)
        · have ha1 := ra.1
          have hb1 := rb.1
          have e1 : rd_L1 a 0 = a.getD 0 [] := rfl
          have e2 : rd_L1 b 0 = b.getD 0 [] := rfl
          rw [if_pos c3, if_pos (by omega), if_pos (by omega), e1, e2]
          by_cases c4 : colsB a = colsB b
          · have h4 : ((((a.getD 0 []).length : Int)) != ((b.getD 0 []).length : Int)) = false := by
              unfold colsB at c4
              rw [c4]; exact bne_self_eq_false _
            have sh := alike_shape ra rb (by omega) c4
            have hc := bright_rows ra 0 (by omega)
            have h16 := ra.2.1
            rw [h4, if_pos ⟨ra, rb, c1, by omega, c4⟩]
            simp only [bitmap_Merge.j0]
            rw [if_neg (by decide), if_pos (by omega), e1, bnew_spec k sa _ _ (by omega), if_pos ⟨by omega, by omega, by omega, by omega⟩]
            simp only [Option.bind_some, Int.toNat_natCast, List.length_replicate]
            refine bmerge_l0 sa a b ra sh a.length k 0 _ (by omega) (by omega) ⟨by simp, fun j => ?_⟩ (fun j hj => by omega) (by omega)
            by_cases hj : j < a.length
            · have h2 := bright_rows ra j hj
              have e3 : (List.replicate a.length (List.replicate (a.getD 0 []).length false)).getD j [] = List.replicate (a.getD 0 []).length false := by
                simp [List.getD_eq_getElem?_getD, hj]
              rw [e3, List.length_replicate]
              unfold colsB at h2
              omega
            · have e3 : (List.replicate a.length (List.replicate (a.getD 0 []).length false)).getD j [] = [] := by
                rw [List.getD_eq_getElem?_getD, List.getElem?_eq_none (by simp; omega)]; rfl
              have e4 : a.getD j [] = [] := by
                rw [List.getD_eq_getElem?_getD, List.getElem?_eq_none (by omega)]; rfl
              rw [e3, e4]
          · have h4 : ((((a.getD 0 []).length : Int)) != ((b.getD 0 []).length : Int)) = true := by
              unfold colsB at c4
              exact bne_iff_ne.2 (fun e => c4 (by omega))
            rw [h4, hbad, if_neg (fun o => c4 o.2.2.2.2)]
        · rw [if_neg c3, hbad, if_neg (fun o => c3 (by rw [o.2.2.2.1]))]
      · rw [if_neg c1, hbad, if_neg (fun o => c1 o.2.2.1)]
    · rw [if_neg (by rw [decide_eq_false rb]; decide), hbad, if_neg (fun o => rb o.2.1)]
  · rw [if_neg (by rw [decide_eq_false ra]; decide), hbad, if_neg (fun o => ra o.1)]
theorem addsB_all (s : Int) (a b : List ByteArray) (Z : List (List Bool)) (r : rightB Z) :
    addsB s a (addsB s b Z) = addsB s b (addsB s a Z) ∧ orRows (addsB s a Z) (addsB s b Z) = addsB s b (addsB s a Z) ∧ addsB s a (addsB s b (addsB s a Z)) = addsB s b (addsB s a Z) := by
  have ra := addsB_right s a Z r
  have rb := addsB_right s b Z r
  have rab := addsB_right s b _ ra
  have sa := addsB_shape s a Z r
  have sb := addsB_shape s b Z r
  have sab := shapeB_trans (addsB_shape s b _ ra) sa
  have sba := shapeB_trans (addsB_shape s a _ rb) sb
  have saba := shapeB_trans (addsB_shape s a _ rab) sab
  have hab : ∀ i c, bit (addsB s b (addsB s a Z)) i c = (bit Z i c || hit s Z a i c || hit s Z b i c) := by
    intro i c
    rw [addsB_bit s b _ ra, addsB_bit s a Z r, hit_shape s sa]
  refine ⟨shapeB_ext _ _ (shapeB_trans sba (shapeB_symm sab)) (fun i c => ?_), shapeB_ext _ _ (shapeB_trans (orRows_shape _ _) (shapeB_trans sa (shapeB_symm sab))) (fun i c => ?_), shapeB_ext _ _ (shapeB_trans saba (shapeB_symm sab)) (fun i c => ?_)⟩
  · rw [hab, addsB_bit s a _ rb, addsB_bit s b Z r, hit_shape s sb]
    cases bit Z i c <;> cases hit s Z a i c <;> cases hit s Z b i c <;> rfl
  · rw [hab, orRows_bit _ _ (shapeB_trans sa (shapeB_symm sb)), addsB_bit s a Z r, addsB_bit s b Z r]
    cases bit Z i c <;> cases hit s Z a i c <;> cases hit s Z b i c <;> rfl
  · rw [addsB_bit s a _ rab, hab, hit_shape s sab]
    cases bit Z i c <;> cases hit s Z a i c <;> cases hit s Z b i c <;> rfl

theorem grows13_l0 (s : Int) (l : List ByteArray) (x y u : List (List Bool)) (rx : rightB x) (ry : rightB y) (ru : rightB u) (h1 : est x ≤ est u) (h2 : est y ≤ est u) (hs0 : 0 ≤ s) (hs1 : s < 18446744073709551616) (hl : l.length ≤ 1000) (h : ∀ z ∈ l, z.size ≤ 1000) : ∀ (d k i : Nat) (last : Int) (m : List (List Bool)), l.length - i = d → i ≤ l.length → rightB m → last ≤ est m → d + 12000 ≤ k →
    rillmeterlaw13_BitmapGrows.l0 k last l l.length i s m s x s y s u = some true := by
  intro d
  induction d with
  | zero =>
    intro k i last m h0 hi rm hlast hk
    obtain ⟨k, rfl⟩ : ∃ m, k = m + 1 := ⟨k - 1, by omega⟩
    simp only [rillmeterlaw13_BitmapGrows.l0]
    rw [if_neg (by omega), best_spec k s u (by omega), if_pos ru, best_spec k s x (by omega), if_pos rx]
    simp only [Option.bind_some]
    rw [if_pos (by omega), best_spec k s y (by omega), if_pos ry]
    simp only [Option.bind_some]
    rw [if_pos (by omega), awake13_spec k (by omega)]
    rfl
  | succ d ih =>
    intro k i last m h0 hi rm hlast hk
    obtain ⟨k, rfl⟩ : ∃ m, k = m + 1 := ⟨k - 1, by omega⟩
    have g : i < l.length := by omega
    have rm2 := addB_right s l[i] m rm
    have hp := place_range s m l[i] rm
    have hl256 : ∀ r ∈ m, r.length ≤ 256 := fun r hr => (rm.2.2 r hr).2.1
    have hl256' : ∀ r ∈ addB s l[i] m, r.length ≤ 256 := fun r hr => (rm2.2.2 r hr).2.1
    have hmono := est_mono m (addB s l[i] m) (shapeB_symm (addB_shape s l[i] m rm)) hl256 (fun a c hb => by rw [addB_bit s l[i] m rm, hb]; rfl)
    have hpos := est_pos (addB s l[i] m) hl256' (placeI s m l[i]).toNat (placeK s m l[i]).toNat (by
      rw [addB_bit s l[i] m rm]
      have : ((placeI s m l[i]).toNat = (placeI s m l[i]).toNat ∧ (placeK s m l[i]).toNat = (placeK s m l[i]).toNat) := ⟨rfl, rfl⟩
      rw [decide_eq_true this, Bool.or_true])
    simp only [rillmeterlaw13_BitmapGrows.l0]
    rw [if_pos (by omega), if_pos (by omega), if_pos (by omega), rdOf_eq _ l i g, badd_spec k s m l[i] hs0 hs1 (h _ (List.getElem_mem g)) (by omega), if_pos rm]
    simp only [Option.bind_some]
    rw [best_spec k s _ (by omega), if_pos rm2]
    simp only [Option.bind_some]
    rw [if_neg (by omega), if_neg (by omega), i64_in ((i : Int) + 1) (by omega) (by omega), show (i : Int) + 1 = ((i + 1 : Nat) : Int) by omega]
    exact ih k (i + 1) _ _ (by omega) (by omega) rm2 (Int.le_refl _) (by omega)

theorem BitmapGrows : rillmeterlaw13_BitmapGrows.Pure := by
  intro s n c a b hs0 _ _ _ _
  have hs0 := u64_wf hs0
  refine ⟨30000, ?_⟩
  obtain ⟨k, hk⟩ : ∃ k, k = 29998 := ⟨_, rfl⟩
  rw [show (30000 : Nat) = k + 2 by omega]
  unfold rillmeterlaw13_BitmapGrows.f
  rw [bnew_spec _ s n c (by omega)]
  simp only [Option.bind_some]
  have hend : ∀ z rows, rillmeterlaw13_BitmapGrows.j0 (k + 2) a b true z rows = some true := by
    intro z rows
    simp only [rillmeterlaw13_BitmapGrows.j0]
    rw [if_pos trivial, awake13_spec (k + 1) (by omega)]
    rfl
  by_cases r : 1 ≤ n ∧ n ≤ 16 ∧ 1 ≤ c ∧ c ≤ 256
  · rw [if_pos r, if_pos rfl, short_spec (k + 2) a 40 (by omega) (by omega), short_spec (k + 2) b 40 (by omega) (by omega)]
    simp only [Option.bind_some]
    by_cases hsa : (a.length : Int) ≤ 40 ∧ ∀ y ∈ a, y.size ≤ 100
    · rw [if_pos (decide_eq_true hsa)]
      by_cases hsb : (b.length : Int) ≤ 40 ∧ ∀ y ∈ b, y.size ≤ 100
      · rw [decide_eq_true hsb, Bool.not_true]
        have r2 := zerosB_right n.toNat c.toNat (by omega) (by omega) (by omega) (by omega)
        have hz := zerosB_bit n.toNat c.toNat
        generalize hZ : List.replicate n.toNat (List.replicate c.toNat false) = Z at *
        have hya : ∀ y ∈ a, y.size ≤ 1000 := fun y hy => by have := hsa.2 y hy; omega
        have hyb : ∀ y ∈ b, y.size ≤ 1000 := fun y hy => by have := hsb.2 y hy; omega
        have ra := addsB_right s a Z r2
        have rb := addsB_right s b Z r2
        have rab := addsB_right s b _ ra
        have sa := addsB_shape s a Z r2
        have sb := addsB_shape s b Z r2
        have sab := shapeB_trans sa (shapeB_symm sb)
        obtain ⟨q1, q2, q3⟩ := addsB_all s a b Z r2
        have al : alikeB s (addsB s a Z) s (addsB s b Z) := ⟨ra, rb, rfl, sab.1, sab.2 0⟩
        have heq := same13_spec (k + 1) s (addsB s b (addsB s a Z)) (by have := rab.2.1; omega) (fun x hx => by have := (rab.2.2 x hx).2.1; omega) (by omega)
        have l1 : ∀ x ∈ addsB s a Z, x.length ≤ 256 := fun x hx => (ra.2.2 x hx).2.1
        have l2 : ∀ x ∈ addsB s b Z, x.length ≤ 256 := fun x hx => (rb.2.2 x hx).2.1
        have shu := addsB_shape s b _ ra
        have m1 := est_mono (addsB s a Z) (addsB s b (addsB s a Z)) (shapeB_symm shu) l1 (fun i c hb => by rw [addsB_bit s b _ ra, hb]; rfl)
        have m2 := est_mono (addsB s b Z) (addsB s b (addsB s a Z)) (shapeB_trans (shapeB_symm sab) (shapeB_symm shu)) l2 (fun i c hb => by
          rw [← q2, orRows_bit _ _ sab, hb, Bool.or_true])
        have he0 := (est_zero Z hz).1
        simp only [rillmeterlaw13_BitmapGrows.j0, rillmeterlaw13_ref.f]
        rw [if_neg (by decide), badds_spec (k + 1) s a Z (by omega) hya hs0.1 hs0.2 r2 (by omega), badds_spec (k + 1) s b Z (by omega) hyb hs0.1 hs0.2 r2 (by omega)]
        simp only [Option.bind_some]
        rw [badds_spec (k + 1) s b _ (by omega) hyb hs0.1 hs0.2 ra (by omega), badds_spec (k + 1) s a _ (by omega) hya hs0.1 hs0.2 rb (by omega)]
        simp only [Option.bind_some]
        rw [bmerge_spec (k + 1) s s _ _ (by omega), if_pos al, q1, q2]
        simp only [Option.bind_some]
        rw [if_pos trivial, heq]
        simp only [Option.bind_some]
        rw [if_pos trivial, badds_spec (k + 1) s a _ (by omega) hya hs0.1 hs0.2 rab (by omega), q3]
        simp only [Option.bind_some]
        rw [heq]
        simp only [Option.bind_some]
        rw [if_pos trivial, Bool.not_true]
        simp only [rillmeterlaw13_BitmapGrows.j1]
        rw [if_neg (by decide)]
        exact grows13_l0 s a (addsB s a Z) (addsB s b Z) (addsB s b (addsB s a Z)) ra rb rab m1 m2 hs0.1 hs0.2 (by omega) hya a.length k 0 0 Z (by omega) (by omega) r2 (by omega) (by omega)
      · rw [decide_eq_false hsb]; exact hend _ _
    · rw [if_neg (by rw [decide_eq_false hsa]; decide)]; exact hend _ _
  · rw [if_neg r, if_neg (by decide)]; exact hend _ _

end Go.Proofs.YteakbghjhckoeaaDoor.Pure
