/- Whatever a map is, what it is with any thing more, and its estimate, are what the document says. Conditions: the library's table of trailing zeros lies as its initialiser lays it, which the card ties to the program's text. -/
import Derived.Test.YteakbghjhckoeaaDoorPBitmapTurnsy
import Derived.Test.YteakbghjhckoeaaDoorBits
import Derived.Test.YteakbghjhckoeaaDoorNum
import Derived.Test.YteakbghjhckoeaaDoorHash
import Derived.Test.YteakbghjhckoeaaDoorMaps
namespace Go.Proofs.YteakbghjhckoeaaDoor.Pure
open Go.RowKit Go.Proofs.YteakbghjhckoeaaDoor.PBitmapTurns Go.Proofs.YteakbghjhckoeaaDoorW.PrintWords Go.Proofs.YteakbghjhckoeaaDoorW.PrintLast Go.Proofs.YteakbghjhckoeaaDoor.Bits Go.Proofs.YteakbghjhckoeaaDoor.Num Go.Proofs.YteakbghjhckoeaaDoor.Hash Go.Proofs.YteakbghjhckoeaaDoor.Maps
set_option linter.unusedSimpArgs false
set_option linter.unusedVariables false

theorem same13_l1 (s : Int) (rows : List (List Bool)) (i : Nat) (g : i < rows.length) (h7 : rows.length ≤ 20) (hlen : (rows.getD i []).length ≤ 300) (K : Nat) (hb : ∀ k, K ≤ k → rillmeterref13_Equal.l0 k ((i + 1 : Nat) : Int) s rows s rows = some true) : ∀ (d k j : Nat), (rows.getD i []).length - j = d → j ≤ (rows.getD i []).length → K + d + 1 ≤ k →
    rillmeterref13_Equal.l1 k i j s rows s rows = some true := by
  have e : rd_L1 rows (i : Int) = rows.getD i [] := rfl
  intro d
  induction d with
  | zero =>
    intro k j h0 hi hk
    obtain ⟨k, rfl⟩ : ∃ m, k = m + 1 := ⟨k - 1, by omega⟩
    simp only [rillmeterref13_Equal.l1]
    rw [if_pos (by omega), if_pos (by omega), e, if_neg (by omega), i64_in ((i : Int) + 1) (by omega) (by omega), show (i : Int) + 1 = ((i + 1 : Nat) : Int) by omega, hb k (by omega)]
  | succ d ih =>
    intro k j h0 hi hk
    obtain ⟨k, rfl⟩ : ∃ m, k = m + 1 := ⟨k - 1, by omega⟩
    simp only [rillmeterref13_Equal.l1]
    rw [if_pos (by omega), if_pos (by omega), e, if_pos (by omega), if_pos (by omega), if_pos (by omega), if_pos (by omega), bne_self_eq_false, if_neg (by decide), i64_in ((j : Int) + 1) (by omega) (by omega), show (j : Int) + 1 = ((j + 1 : Nat) : Int) by omega]
    exact ih k (j + 1) (by omega) (by omega) (by omega)

set_option maxRecDepth 100000 in
theorem same13_l0 (s : Int) (rows : List (List Bool)) (h7 : rows.length ≤ 20) (hlen : ∀ r ∈ rows, r.length ≤ 300) : ∀ (d k i : Nat), rows.length - i = d → i ≤ rows.length → d * 310 + 1 ≤ k →
    rillmeterref13_Equal.l0 k i s rows s rows = some true := by
  intro d
  induction d with
  | zero =>
    intro k i h0 hi hk
    obtain ⟨k, rfl⟩ : ∃ m, k = m + 1 := ⟨k - 1, by omega⟩
    simp only [rillmeterref13_Equal.l0]
    rw [if_neg (by omega)]
  | succ d ih =>
    intro k i h0 hi hk
    obtain ⟨k, rfl⟩ : ∃ m, k = m + 1 := ⟨k - 1, by omega⟩
    have g : i < rows.length := by omega
    have hl := hlen _ (rowB_mem rows i g)
    simp only [rillmeterref13_Equal.l0]
    rw [if_pos (by omega), if_pos (by omega), if_pos (by omega), if_pos trivial]
    exact same13_l1 s rows i g h7 hl (d * 310 + 1) (fun k hk => ih k (i + 1) (by omega) (by omega) hk) (rows.getD i []).length k 0 (by omega) (by omega) (by omega)

theorem same13_spec (k : Nat) (s : Int) (rows : List (List Bool)) (h7 : rows.length ≤ 20) (hlen : ∀ r ∈ rows, r.length ≤ 300) (hk : 6300 ≤ k) : rillmeterref13_Equal.f k s rows s rows = some true := by
  obtain ⟨k, rfl⟩ : ∃ m, k = m + 1 := ⟨k - 1, by omega⟩
  unfold rillmeterref13_Equal.f
  rw [if_pos rfl, bne_self_eq_false]
  simp only [rillmeterref13_Equal.j0]
  rw [if_neg (by decide)]
  exact same13_l0 s rows h7 hlen rows.length k 0 (by omega) (by omega) (by omega)
theorem bnew_l0 (s : Int) (c n : Nat) (hc : c ≤ 256) (hn : n ≤ 16) : ∀ (d k i : Nat), n - i = d → i ≤ n → d < k →
    bitmap_New.l0 k c n i s (List.replicate i (List.replicate c false)) = some (s, List.replicate n (List.replicate c false), 0) := by
  intro d
  induction d with
  | zero =>
    intro k i h0 hi hk
    obtain ⟨k, rfl⟩ : ∃ m, k = m + 1 := ⟨k - 1, by omega⟩
    have e : i = n := by omega
    subst e
    simp only [bitmap_New.l0]
    rw [if_neg (by omega)]
  | succ d ih =>
    intro k i h0 hi hk
    obtain ⟨k, rfl⟩ : ∃ m, k = m + 1 := ⟨k - 1, by omega⟩
    have h := ih k (i + 1) (by omega) (by omega) (by omega)
    simp only [bitmap_New.l0]
    rw [if_pos (by omega), if_pos (by omega), Int.toNat_natCast, if_pos (by omega), List.length_replicate, if_pos (by omega), i64_in ((i : Int) + 1) (by omega) (by omega), show (i : Int) + 1 = ((i + 1 : Nat) : Int) by omega]
    rw [List.replicate_succ'] at h
    exact h

theorem bnew_spec (k : Nat) (s n c : Int) (hk : 30 ≤ k) : bitmap_New.f k s n c = some (if 1 ≤ n ∧ n ≤ 16 ∧ 1 ≤ c ∧ c ≤ 256 then (s, List.replicate n.toNat (List.replicate c.toNat false), 0) else (0, [], 1)) := by
  obtain ⟨k, rfl⟩ : ∃ m, k = m + 1 := ⟨k - 1, by omega⟩
  have hbad : bitmap_New.j0 (k + 1) s n c true = some (0, [], 1) := by
    simp only [bitmap_New.j0]
    rw [if_pos trivial]
  unfold bitmap_New.f
  by_cases h1 : n < 1
  · rw [if_pos h1, hbad, if_neg (fun o => by have := o.1; omega)]
  · rw [if_neg h1]
    by_cases h2 : n > 16
    · rw [if_pos h2, hbad, if_neg (fun o => by have := o.2.1; omega)]
    · rw [if_neg h2]
      by_cases h3 : c < 1
      · rw [if_pos h3, hbad, if_neg (fun o => by have := o.2.2.1; omega)]
      · rw [if_neg h3]
        by_cases h4 : c > 256
        · rw [decide_eq_true h4, hbad, if_neg (fun o => by have := o.2.2.2; omega)]
        · rw [decide_eq_false h4, if_pos ⟨by omega, by omega, by omega, by omega⟩]
          simp only [bitmap_New.j0]
          rw [if_neg (by decide)]
          have h := bnew_l0 s c.toNat n.toNat (by omega) (by omega) n.toNat k 0 (by omega) (by omega) (by omega)
          rw [show ((c.toNat : Nat) : Int) = c by omega, show ((n.toNat : Nat) : Int) = n by omega] at h
          exact h

theorem zerosB_right (n c : Nat) (hn : 1 ≤ n) (hn2 : n ≤ 16) (hc : 1 ≤ c) (hc2 : c ≤ 256) : rightB (List.replicate n (List.replicate c false)) := by
  have hcols : colsB (List.replicate n (List.replicate c false)) = c := by
    obtain ⟨m, rfl⟩ : ∃ m, n = m + 1 := ⟨n - 1, by omega⟩
    simp [colsB, List.replicate_succ]
  refine ⟨by simpa using hn, by simpa using hn2, fun r hr => ?_⟩
  rw [hcols, List.eq_of_mem_replicate hr]
  exact ⟨by simpa using hc, by simpa using hc2, by simp⟩

theorem zerosB_bit (n c i j : Nat) : bit (List.replicate n (List.replicate c false)) i j = false := by
  unfold bit
  by_cases h : i < n
  · by_cases g : j < c
    · simp [List.getD_eq_getElem?_getD, h, g]
    · simp [List.getD_eq_getElem?_getD, h, g]
  · simp [List.getD_eq_getElem?_getD, h]
theorem rowB_is (l : List (List Bool)) (r : List Bool) : bitmap_Right.row l r = decide (rowOkB (colsB l) r) := by
  have e : rd_L1 l 0 = l.getD 0 [] := rfl
  unfold bitmap_Right.row rowOkB colsB
  rw [e]
  exact and3

theorem bright_spec (s : Int) (l : List (List Bool)) : bitmap_Right.f s l = some (decide (rightB l)) := by
  unfold bitmap_Right.f
  have e : l.all (bitmap_Right.row l) = decide (∀ r ∈ l, rowOkB (colsB l) r) := by
    by_cases h : ∀ r ∈ l, rowOkB (colsB l) r
    · rw [decide_eq_true h, List.all_eq_true]
      intro r hr
      rw [rowB_is]; exact decide_eq_true (h r hr)
    · rw [decide_eq_false h, Bool.eq_false_iff]
      intro ha
      exact h (fun r hr => by
        have := List.all_eq_true.1 ha r hr
        rw [rowB_is] at this
        exact of_decide_eq_true this)
  rw [e]
  unfold rightB
  exact congrArg some and3

theorem bright_rows {rows : List (List Bool)} (r : rightB rows) (j : Nat) (h : j < rows.length) : 1 ≤ (rows.getD j []).length ∧ (rows.getD j []).length ≤ 256 ∧ (rows.getD j []).length = colsB rows := r.2.2 _ (rowB_mem rows j h)
theorem of_spec (a : Int) (h0 : 0 ≤ a) (h1 : a < 18446744073709551616) : field_Of.f a = some (a % 2305843009213693951) := by
  unfold field_Of.f
  rw [and_p a h0 h1, u64_in _ (by omega) (by omega)]
  split
  · rw [u64_in _ (by omega) (by omega)]
    exact congrArg some (by omega)
  · exact congrArg some (by omega)

theorem add_spec (a b : Int) (h0 : 0 ≤ a) (h1 : a < 18446744073709551616) (g0 : 0 ≤ b) (g1 : b < 18446744073709551616) :
    field_Add.f a b = some ((a + b) % 2305843009213693951) := by
  unfold field_Add.f
  rw [of_spec a h0 h1, of_spec b g0 g1]
  simp only [Option.bind_some]
  rw [u64_in _ (by omega) (by omega), of_spec _ (by omega) (by omega)]
  simp only [Option.bind_some]
  exact congrArg some (by omega)

theorem mul64_spec (a b : Int) (h0 : 0 ≤ a) (h1 : a < 18446744073709551616) (g0 : 0 ≤ b) (g1 : b < 18446744073709551616) :
    bits_Mul64.f a b = some (a * b / 18446744073709551616, a * b % 18446744073709551616) := by
  unfold bits_Mul64.f
  have hh := halves a b
  obtain ⟨p0, p1⟩ := mul_bd (a := a / 4294967296) (b := b / 4294967296) (by omega) (by omega) (by omega) (by omega)
  obtain ⟨q0, q1⟩ := mul_bd (a := a / 4294967296) (b := b % 4294967296) (by omega) (by omega) (by omega) (by omega)
  obtain ⟨r0, r1⟩ := mul_bd (a := a % 4294967296) (b := b / 4294967296) (by omega) (by omega) (by omega) (by omega)
  obtain ⟨s0, s1⟩ := mul_bd (a := a % 4294967296) (b := b % 4294967296) (by omega) (by omega) (by omega) (by omega)
  rw [and_32 a h0 h1, and_32 b g0 g1]
  generalize a / 4294967296 * (b / 4294967296) = p at *
  generalize a / 4294967296 * (b % 4294967296) = q at *
  generalize a % 4294967296 * (b / 4294967296) = r at *
  generalize a % 4294967296 * (b % 4294967296) = s at *
  generalize a * b = m at *
  clear h0 h1 g0 g1
  rw [u64_in p (by omega) (by omega), u64_in q (by omega) (by omega), u64_in r (by omega) (by omega), u64_in s (by omega) (by omega)]
  rw [u64_in (q + s / 4294967296) (by omega) (by omega)]
  rw [and_32 _ (by omega) (by omega)]
  rw [u64_in (p + _) (by omega) (by omega), u64_in (_ + r) (by omega) (by omega), wrap_u64 m]
  rw [u64_in _ (by omega) (by omega)]
  exact congrArg some (Prod.ext (by show _ = _; omega) rfl)

theorem mul_spec (a b : Int) (h0 : 0 ≤ a) (h1 : a < 18446744073709551616) (g0 : 0 ≤ b) (g1 : b < 18446744073709551616) :
    field_Mul.f a b = some (a * b % 2305843009213693951) := by
  unfold field_Mul.f
  rw [of_spec a h0 h1, of_spec b g0 g1, Int.mul_emod]
  simp only [Option.bind_some]
  have x0 : 0 ≤ a % 2305843009213693951 := by omega
  have x1 : a % 2305843009213693951 ≤ 2305843009213693950 := by omega
  have y0 : 0 ≤ b % 2305843009213693951 := by omega
  have y1 : b % 2305843009213693951 ≤ 2305843009213693950 := by omega
  generalize a % 2305843009213693951 = x at *
  generalize b % 2305843009213693951 = y at *
  rw [mul64_spec x y x0 (by omega) y0 (by omega)]
  simp only [Option.bind_some]
  have hm : 0 ≤ x * y ∧ x * y ≤ 2305843009213693950 * 2305843009213693950 := ⟨Int.mul_nonneg x0 y0, Int.mul_le_mul x1 y1 y0 (by omega)⟩
  generalize x * y = m at *
  obtain ⟨m0, m1⟩ := hm
  rw [and_p _ (by omega) (by omega)]
  rw [u64_in (_ * 8) (by omega) (by omega)]
  rw [or_3 _ _ (by omega) (by omega) (by omega) (by omega) (by omega)]
  rw [u64_in _ (by omega) (by omega), of_spec _ (by omega) (by omega)]
  simp only [Option.bind_some]
  exact congrArg some (by omega)

theorem sq_half (x n : Int) (h0 : 0 ≤ n) : (x * x % 2305843009213693951) ^ (n / 2).toNat % 2305843009213693951 = x ^ (2 * (n.toNat / 2)) % 2305843009213693951 := by
  rw [pow_emod, Int.pow_mul, show (n / 2).toNat = n.toNat / 2 by omega, show x ^ 2 = x * x by grind]

theorem pow_l0 (d : Nat) : ∀ (k : Nat) (x n out : Int), 0 ≤ x → x < 2305843009213693951 → 0 ≤ n → n < 18446744073709551616 → n < 2 ^ d → 0 ≤ out → out < 2305843009213693951 → d < k →
    field_Pow.l0 k x n out = some (out * x ^ n.toNat % 2305843009213693951) := by
  induction d with
  | zero =>
    intro k x n out x0 x1 n0 n1 nd o0 o1 hk
    obtain ⟨k, rfl⟩ : ∃ m, k = m + 1 := ⟨k - 1, by omega⟩
    have hn : n = 0 := by simp at nd; omega
    simp only [field_Pow.l0]
    rw [if_neg (by omega), hn]
    exact congrArg some (by simp; omega)
  | succ d ih =>
    intro k x n out x0 x1 n0 n1 nd o0 o1 hk
    obtain ⟨k, rfl⟩ : ∃ m, k = m + 1 := ⟨k - 1, by omega⟩
    simp only [field_Pow.l0]
    by_cases hp : n > 0
    · rw [if_pos hp, and_1 n n0 n1, mul_spec x x x0 (by omega) x0 (by omega), mul_spec out x o0 (by omega) x0 (by omega)]
      simp only [Option.bind_some]
      have hd : n / 2 < 2 ^ d := by rw [Int.pow_succ] at nd; omega
      split
      · rw [ih k _ (n / 2) _ (by omega) (by omega) (by omega) (by omega) hd (by omega) (by omega) (by omega)]
        have e : n.toNat = 2 * (n.toNat / 2) + 1 := by omega
        refine congrArg some ?_
        rw [Int.mul_emod, sq_half x n n0, ← Int.mul_emod]
        rw [Int.mul_emod, Int.emod_emod, ← Int.mul_emod]
        conv => rhs; rw [e, Int.pow_succ, Int.mul_comm _ x, ← Int.mul_assoc]
      · rw [ih k _ (n / 2) _ (by omega) (by omega) (by omega) (by omega) hd o0 o1 (by omega)]
        have e : n.toNat = 2 * (n.toNat / 2) := by omega
        refine congrArg some ?_
        rw [Int.mul_emod, sq_half x n n0, ← Int.mul_emod]
        conv => rhs; rw [e]
    · have hn : n = 0 := by omega
      rw [if_neg hp, hn]
      exact congrArg some (by simp; omega)

theorem pow_spec (k : Nat) (a n : Int) (h0 : 0 ≤ a) (h1 : a < 18446744073709551616) (g0 : 0 ≤ n) (g1 : n < 18446744073709551616) (hk : 65 ≤ k) :
    field_Pow.f k a n = some (a ^ n.toNat % 2305843009213693951) := by
  unfold field_Pow.f
  rw [of_spec a h0 h1]
  simp only [Option.bind_some]
  rw [pow_l0 64 k _ n 1 (by omega) (by omega) g0 g1 (by omega) (by omega) (by omega) (by omega), Int.one_mul, pow_emod]

theorem sum_step (s : ByteArray) (a n i x j j' : Int) (k : Nat) (hj : j' = j + 1) (hs : s.size ≤ 140737488351232) (i0 : 0 ≤ i) (i1 : i ≤ s.size) (j0 : 0 ≤ j) (j1 : j < 4) (x0 : 0 ≤ x) (x1 : x < 72057594037927936) :
    hash_Sum.l1 (k + 1) s a n i x j = hash_Sum.l1 k s a n i (x * 256 + bt s (i + j)) j' := by
  subst hj
  have hb := bt_range s (i + j)
  conv => lhs; unfold hash_Sum.l1
  rw [if_pos j1, i64_in (i + j) (by omega) (by omega), i64_in (j + 1) (by omega) (by omega), u64_in (x * 256) (by omega) (by omega), u64_in (bt s (i + j)) (by omega) (by omega)]
  by_cases h : i + j < (s.size : Int)
  · rw [if_pos h, if_pos (by omega), or_8 (x * 256) _ (by omega) (by omega) (by omega) (by omega) (by omega)]
  · rw [if_neg h, bt_out s (i + j) (by omega), Int.add_zero]

theorem sum_word (s : ByteArray) (a n i : Int) (k : Nat) (hs : s.size ≤ 140737488351232) (i0 : 0 ≤ i) (i1 : i ≤ s.size) :
    hash_Sum.l1 (k + 4) s a n i 0 0 = hash_Sum.l1 k s a n i (wordAt s i) 4 := by
  have h0 := bt_range s i
  have h1 := bt_range s (i + 1)
  have h2 := bt_range s (i + 2)
  rw [sum_step s a n i 0 0 1 (k + 3) (by omega) hs i0 i1 (by omega) (by omega) (by omega) (by omega), Int.add_zero, Int.zero_mul, Int.zero_add,
    sum_step s a n i _ 1 2 (k + 2) (by omega) hs i0 i1 (by omega) (by omega) (by omega) (by omega),
    sum_step s a n i _ 2 3 (k + 1) (by omega) hs i0 i1 (by omega) (by omega) (by omega) (by omega),
    sum_step s a n i _ 3 4 k (by omega) hs i0 i1 (by omega) (by omega) (by omega) (by omega)]
  rfl

theorem sum_l0 (s : ByteArray) (a : Int) (hs : s.size ≤ 140737488351232) (a0 : 0 ≤ a) (a1 : a < 18446744073709551616) : ∀ (m k : Nat) (n i : Int), 0 ≤ i → (s.size : Int) ≤ i + 4 * m → i < (s.size : Int) + 4 → (0 < m → i + 4 * m < (s.size : Int) + 4) →
    0 ≤ n → n < 18446744073709551616 → 6 * m + 66 ≤ k →
    hash_Sum.l0 k s a n i = some ((roll s a m n i * a) ^ 17 % 2305843009213693951) := by
  intro m
  induction m with
  | zero =>
    intro k n i i0 i1 i2 i3 n0 n1 hk
    obtain ⟨k, rfl⟩ : ∃ m, k = m + 1 := ⟨k - 1, by omega⟩
    unfold hash_Sum.l0
    rw [if_neg (by omega), mul_spec n a n0 n1 a0 a1]
    simp only [Option.bind_some]
    rw [pow_spec k _ 17 (by omega) (by omega) (by omega) (by omega) (by omega), show (17 : Int).toNat = 17 from rfl, pow_emod]
    rfl
  | succ m ih =>
    intro k n i i0 i1 i2 i3 n0 n1 hk
    obtain ⟨k, rfl⟩ : ∃ m, k = m + 1 := ⟨k - 1, by omega⟩
    obtain ⟨k, rfl⟩ : ∃ m, k = m + 4 := ⟨k - 4, by omega⟩
    have hw := wordAt_range s i
    have i4 : i < (s.size : Int) := by omega
    unfold hash_Sum.l0
    rw [if_pos i4, sum_word s a n i k hs i0 (by omega)]
    obtain ⟨k, rfl⟩ : ∃ m, k = m + 1 := ⟨k - 1, by omega⟩
    unfold hash_Sum.l1
    rw [if_neg (by omega), mul_spec n a n0 n1 a0 a1, u64_in _ (by omega) (by omega)]
    simp only [Option.bind_some]
    rw [add_spec _ _ (by omega) (by omega) (by omega) (by omega), i64_in (i + 4) (by omega) (by omega)]
    simp only [Option.bind_some]
    rw [ih k _ (i + 4) (by omega) (by omega) (by omega) (by omega) (by omega) (by omega) (by omega)]
    simp only [roll]
    have e : (n * a % 2305843009213693951 + (wordAt s i + 1)) % 2305843009213693951 = (n * a + wordAt s i + 1) % 2305843009213693951 := by omega
    rw [e]

theorem sum_spec (k : Nat) (seed : Int) (s : ByteArray) (hs : s.size ≤ 140737488351232) (h0 : 0 ≤ seed) (h1 : seed < 18446744073709551616) (hk : 6 * words s + 66 ≤ k) :
    hash_Sum.f k seed s = some (hsum seed s) := by
  unfold hash_Sum.f
  rw [add_spec seed 2 h0 h1 (by omega) (by omega), u64_in _ (by omega) (by omega)]
  simp only [Option.bind_some]
  have hw : words s = (s.size + 3) / 4 := rfl
  exact sum_l0 s _ hs (by omega) (by omega) (words s) k s.size 0 (by omega) (by omega) (by omega) (by omega) (by omega) (by omega) hk

/-- the level of a sum: how many of its lowest bits are nought, at most so many -/
def lev (S most : Int) : Int := if S = 0 then mx most 0 else mx (mn (Lib.ctz 64 S.toNat : Int) most) 0

theorem ctz_le (x : Nat) (hx : x < 18446744073709551616) : Lib.ctz 64 x ≤ 64 := by
  unfold Lib.ctz
  split
  · exact Nat.le_refl _
  · rename_i h
    obtain ⟨m, _, h2⟩ := Lib.ctzFrom_spec 64 x (by omega) (by omega)
    omega

theorem level_spec (k : Nat) (seed : Int) (s : ByteArray) (most : Int) (hs : s.size ≤ 140737488351232) (h0 : 0 ≤ seed) (h1 : seed < 18446744073709551616) (hk : 6 * words s + 66 ≤ k) :
    hash_Level.f k seed s most = some (lev (hsum seed s) most) := by
  unfold hash_Level.f lev
  have h := hsum_range seed s
  rw [sum_spec k seed s hs h0 h1 hk]
  simp only [Option.bind_some]
  by_cases c : hsum seed s = 0
  · rw [if_pos c, if_pos c]
  · rw [if_neg c, if_neg c]
    unfold bits_TrailingZeros64.f
    rw [if_pos h.1, if_pos (by omega)]
    rfl
theorem row_spec (seed i : Int) (h0 : 0 ≤ seed) (h1 : seed < 18446744073709551616) (hi : i < 9223372036854775808) : hash_Row.f seed i = some (hrow seed i) := by
  unfold hash_Row.f hrow hmid
  have e : mx i 0 = if i < 0 then 0 else i := rfl
  rw [e, add_spec seed 3 h0 h1 (by omega) (by omega)]
  generalize hj : (if i < 0 then (0 : Int) else i) = j
  have hj0 : 0 ≤ j ∧ j < 9223372036854775808 := by rw [← hj]; split <;> omega
  simp only [Option.bind_some]
  rw [u64_in j (by omega) (by omega), add_spec j 2 (by omega) (by omega) (by omega) (by omega)]
  simp only [Option.bind_some]
  rw [mul_spec _ _ (by omega) (by omega) (by omega) (by omega)]
  simp only [Option.bind_some]
  rw [add_spec _ 5 (by omega) (by omega) (by omega) (by omega)]
  simp only [Option.bind_some]
  rw [mul_spec _ _ (by omega) (by omega) (by omega) (by omega)]
  rfl

theorem cell_spec (k : Nat) (seed : Int) (key : ByteArray) (n : Int) (hs : key.size ≤ 140737488351232) (h0 : 0 ≤ seed) (h1 : seed < 18446744073709551616) (hn : n < 9223372036854775808) (hk : 6 * words key + 66 ≤ k) :
    hash_Cell.f k seed key n = some (hcell seed key n) := by
  unfold hash_Cell.f hcell
  by_cases a : n < 1
  · rw [if_pos a, if_pos a]
  · rw [if_neg a, if_neg a, sum_spec k seed key hs h0 h1 hk]
    simp only [Option.bind_some]
    have r := hsum_range seed key
    have r1 := Int.emod_nonneg (hsum seed key) (b := n) (by omega)
    have r2 := Int.emod_lt_of_pos (hsum seed key) (b := n) (by omega)
    rw [u64_in n (by omega) (by omega), if_neg (by omega), Int.tmod_eq_emod_of_nonneg r.1, i64_in _ (by omega) (by omega)]

/-- the row and the bit of a thing -/
def placeI (s : Int) (rows : List (List Bool)) (thing : ByteArray) : Int := lev (hsum (hrow s 0) thing) ((rows.length : Int) - 1)
def placeK (s : Int) (rows : List (List Bool)) (thing : ByteArray) : Int := hcell (hrow s 1) thing (colsB rows)

theorem lev_range (S most : Int) (h : 0 ≤ most) : 0 ≤ lev S most ∧ lev S most ≤ most := by
  unfold lev mn mx
  by_cases c : S = 0
  · rw [if_pos c]
    (repeat' split) <;> omega
  · rw [if_neg c]
    have ht : 0 ≤ (Lib.ctz 64 S.toNat : Int) := by omega
    generalize (Lib.ctz 64 S.toNat : Int) = t at ht ⊢
    (repeat' split) <;> omega

theorem place_range (s : Int) (rows : List (List Bool)) (thing : ByteArray) (r : rightB rows) : 0 ≤ placeI s rows thing ∧ placeI s rows thing < (rows.length : Int) ∧ 0 ≤ placeK s rows thing ∧ placeK s rows thing < (colsB rows : Int) := by
  have h1 := lev_range (hsum (hrow s 0) thing) ((rows.length : Int) - 1) (by have := r.1; omega)
  have hc := bright_rows r 0 (by have := r.1; omega)
  have h2 := hcell_range (hrow s 1) thing (colsB rows) (by unfold colsB; omega)
  unfold placeI placeK
  omega

theorem bplace_spec (k : Nat) (s : Int) (rows : List (List Bool)) (thing : ByteArray) (hs0 : 0 ≤ s) (hs1 : s < 18446744073709551616) (ht : thing.size ≤ 1000) (hk : 1600 ≤ k) :
    bitmap_Place.f k s rows thing = some (if rightB rows then (placeI s rows thing, placeK s rows thing) else (0, 0)) := by
  have hw := words_le thing 250 (by omega)
  unfold bitmap_Place.f
  rw [bright_spec]
  simp only [Option.bind_some]
  by_cases r : rightB rows
  · rw [if_pos (decide_eq_true r), if_pos r, row_spec s 0 hs0 hs1 (by omega)]
    simp only [Option.bind_some]
    have hr0 := hrow_range s 0
    have hr1 := hrow_range s 1
    have h16 := r.2.1
    rw [i64_in ((rows.length : Int) - 1) (by omega) (by omega), level_spec k (hrow s 0) thing _ (by omega) hr0.1 (by omega) (by omega)]
    simp only [Option.bind_some]
    rw [row_spec s 1 hs0 hs1 (by omega)]
    simp only [Option.bind_some]
    have hp := place_range s rows thing r
    have e1 : lev (hsum (hrow s 0) thing) ((rows.length : Int) - 1) = placeI s rows thing := rfl
    rw [e1, if_pos hp.1, if_pos hp.2.1]
    have e2 : rd_L1 rows (placeI s rows thing) = rows.getD (placeI s rows thing).toNat [] := rfl
    have hl := bright_rows r (placeI s rows thing).toNat (by omega)
    rw [e2, hl.2.2, cell_spec k (hrow s 1) thing _ (by omega) hr1.1 (by omega) (by omega) (by omega)]
    rfl
  · rw [if_neg (by rw [decide_eq_false r]; decide), if_neg r]
theorem clone_rowsB (l : List (List Bool)) (h : l.length < 5864062014805) : slices_Clone_bool_bool_26.f l = some l := by
  unfold slices_Clone_bool_bool_26.f
  simp only [Option.bind_some, List.length_nil, List.nil_append]
  rw [if_pos (by omega)]

theorem clone_bits (l : List Bool) (h : l.length < 140737488355328) : slices_Clone_bool_bool_27.f l = some l := by
  unfold slices_Clone_bool_bool_27.f
  simp only [Option.bind_some, List.length_nil, List.nil_append]
  rw [if_pos (by omega)]

/-- with one thing more -/
def addB (s : Int) (thing : ByteArray) (rows : List (List Bool)) : List (List Bool) := setB rows (placeI s rows thing).toNat (placeK s rows thing).toNat

theorem addB_shape (s : Int) (thing : ByteArray) (rows : List (List Bool)) (r : rightB rows) : shapeB (addB s thing rows) rows := by
  have hp := place_range s rows thing r
  exact shapeB_set rows _ _ (by omega)

theorem addB_right (s : Int) (thing : ByteArray) (rows : List (List Bool)) (r : rightB rows) : rightB (addB s thing rows) := shapeB_right (addB_shape s thing rows r) r

theorem addB_bit (s : Int) (thing : ByteArray) (rows : List (List Bool)) (r : rightB rows) (j d : Nat) : bit (addB s thing rows) j d = (bit rows j d || decide (j = (placeI s rows thing).toNat ∧ d = (placeK s rows thing).toNat)) := by
  have hp := place_range s rows thing r
  have hl := bright_rows r (placeI s rows thing).toNat (by omega)
  exact setB_bit rows _ _ j d (by omega) (by omega)

theorem badd_spec (k : Nat) (s : Int) (rows : List (List Bool)) (thing : ByteArray) (hs0 : 0 ≤ s) (hs1 : s < 18446744073709551616) (ht : thing.size ≤ 1000) (hk : 1600 ≤ k) :
    bitmap_Add.f k s rows thing = some (if rightB rows then (s, addB s thing rows) else (s, rows)) := by
  unfold bitmap_Add.f
  rw [bright_spec]
  simp only [Option.bind_some]
  by_cases r : rightB rows
  · rw [if_pos (decide_eq_true r), if_pos r, bplace_spec k s rows thing hs0 hs1 ht hk, if_pos r, clone_rowsB rows (by have := r.2.1; omega)]
    simp only [Option.bind_some]
    have hp := place_range s rows thing r
    have hl := bright_rows r (placeI s rows thing).toNat (by omega)
    have e2 : rd_L1 rows (placeI s rows thing) = rows.getD (placeI s rows thing).toNat [] := rfl
    rw [if_pos hp.1, if_pos hp.2.1, e2, clone_bits _ (by omega)]
    simp only [Option.bind_some]
    rw [if_pos hp.2.2.1, if_pos (by omega)]
    rfl
  · rw [if_neg (by rw [decide_eq_false r]; decide), if_neg r]
theorem best_l2 (rows : List (List Bool)) (i b : Nat) (hb : b ≤ 256) (K : Nat) (res : Int) : ∀ (d k j : Nat) (acc : Int), b + 1 - j = d → 1 ≤ j → j ≤ b + 1 → 0 ≤ acc → acc + (d : Int) * 16777216 ≤ 1152921504606846976 → (∀ k, K ≤ k → bitmap_Estimate.l0 k (acc + partB b d) rows rows.length ((i + 1 : Nat) : Int) = some res) → i < 1000 → K + d + 1 ≤ k →
    bitmap_Estimate.l2 k acc b j rows rows.length i = some res := by
  intro d
  induction d with
  | zero =>
    intro k j acc h0 h1 hj ha ha2 hnext hi hk
    obtain ⟨k, rfl⟩ : ∃ m, k = m + 1 := ⟨k - 1, by omega⟩
    have hn := hnext k (by omega)
    simp only [partB, Int.add_zero] at hn
    simp only [bitmap_Estimate.l2]
    rw [if_neg (by omega), i64_in ((i : Int) + 1) (by omega) (by omega), show (i : Int) + 1 = ((i + 1 : Nat) : Int) by omega, hn]
  | succ d ih =>
    intro k j acc h0 h1 hj ha ha2 hnext hi hk
    obtain ⟨k, rfl⟩ : ∃ m, k = m + 1 := ⟨k - 1, by omega⟩
    have ht := partB_term b d hb (by omega)
    have ej : b - d = j := by omega
    rw [ej] at ht
    simp only [bitmap_Estimate.l2]
    rw [if_pos (by omega), if_neg (by omega), i64_in ((b : Int) * 65536) (by omega) (by omega), Int.tdiv_eq_ediv_of_nonneg (by omega), i64_in ((b : Int) * 65536 / (j : Int)) (by omega) (by omega), i64_in (acc + (b : Int) * 65536 / (j : Int)) (by omega) (by omega), i64_in ((j : Int) + 1) (by omega) (by omega), show (j : Int) + 1 = ((j + 1 : Nat) : Int) by omega]
    refine ih k (j + 1) _ (by omega) (by omega) (by omega) (by omega) (by omega) (fun k' hk' => ?_) hi (by omega)
    have hn := hnext k' hk'
    simp only [partB] at hn
    rw [ej] at hn
    rw [show acc + (b : Int) * 65536 / (j : Int) + partB b d = acc + (partB b d + (b : Int) * 65536 / (j : Int)) by omega]
    exact hn

theorem best_l1 (rows : List (List Bool)) (i : Nat) (acc : Int) (row : List Bool) (hr : row.length ≤ 256) (K : Nat) (res : Int) (hnext : ∀ k, K ≤ k → bitmap_Estimate.l2 k acc row.length ((row.length - cnt row + 1 : Nat) : Int) rows rows.length i = some res) : ∀ (d k j : Nat), row.length - j = d → j ≤ row.length → K + d + 1 ≤ k →
    bitmap_Estimate.l1 k acc row.length ((row.length - cnt (row.take j) : Nat) : Int) rows rows.length i row row.length j = some res := by
  intro d
  induction d with
  | zero =>
    intro k j h0 hj hk
    obtain ⟨k, rfl⟩ : ∃ m, k = m + 1 := ⟨k - 1, by omega⟩
    have hc := cnt_le row
    have hn := hnext k (by omega)
    simp only [bitmap_Estimate.l1]
    rw [if_neg (by omega), List.take_of_length_le (by omega), i64_in _ (by omega) (by omega), show ((row.length - cnt row : Nat) : Int) + 1 = ((row.length - cnt row + 1 : Nat) : Int) by omega, hn]
  | succ d ih =>
    intro k j h0 hj hk
    obtain ⟨k, rfl⟩ : ∃ m, k = m + 1 := ⟨k - 1, by omega⟩
    have g : j < row.length := by omega
    have hn := ih k (j + 1) (by omega) (by omega) (by omega)
    have hct := cnt_take row j g
    have hc1 := cnt_le (row.take (j + 1))
    rw [List.length_take] at hc1
    have e : rdOf false row (j : Int) = row.getD j false := rfl
    simp only [bitmap_Estimate.l1]
    rw [if_pos (by omega), if_pos (by omega), if_pos (by omega), e, i64_in ((j : Int) + 1) (by omega) (by omega), show (j : Int) + 1 = ((j + 1 : Nat) : Int) by omega]
    by_cases c : row.getD j false = true
    · rw [if_pos c] at hct ⊢
      rw [i64_in _ (by omega) (by omega), show ((row.length - cnt (row.take j) : Nat) : Int) - 1 = ((row.length - cnt (row.take (j + 1)) : Nat) : Int) by omega]
      exact hn
    · rw [if_neg c] at hct ⊢
      rw [hct, Nat.add_zero] at hn
      exact hn

set_option maxRecDepth 100000 in
theorem best_l0 (rows : List (List Bool)) (hr : ∀ r ∈ rows, r.length ≤ 256) (h16 : rows.length ≤ 16) : ∀ (d k i : Nat) (acc : Int), rows.length - i = d → i ≤ rows.length → 0 ≤ acc → acc + (d : Int) * 4294967296 ≤ 576460752303423488 → d * 600 + 1 ≤ k →
    bitmap_Estimate.l0 k acc rows rows.length i = some (acc + est (rows.drop i)) := by
  intro d
  induction d with
  | zero =>
    intro k i acc h0 hi ha ha2 hk
    obtain ⟨k, rfl⟩ : ∃ m, k = m + 1 := ⟨k - 1, by omega⟩
    simp only [bitmap_Estimate.l0]
    rw [if_neg (by omega), List.drop_of_length_le (by omega)]
    simp [est]
  | succ d ih =>
    intro k i acc h0 hi ha ha2 hk
    obtain ⟨k, rfl⟩ : ∃ m, k = m + 1 := ⟨k - 1, by omega⟩
    have g : i < rows.length := by omega
    have e : rd_L1 rows (i : Int) = rows.getD i [] := rfl
    have hl := hr _ (rowB_mem rows i g)
    have hrow := estRow_range (rows.getD i []) hl
    have hcn := cnt_le (rows.getD i [])
    have ed : rows.drop i = rows.getD i [] :: rows.drop (i + 1) := by
      rw [List.drop_eq_getElem_cons g, List.getD_eq_getElem?_getD, List.getElem?_eq_getElem g]; rfl
    simp only [bitmap_Estimate.l0]
    rw [if_pos (by omega), if_pos (by omega), if_pos (by omega), e, ed]
    have hx := best_l1 rows i acc (rows.getD i []) hl (d * 600 + 260) (acc + est (rows.getD i [] :: rows.drop (i + 1))) (fun k' hk' => by
      refine best_l2 rows i (rows.getD i []).length hl (d * 600 + 1) _ (cnt (rows.getD i [])) k' ((rows.getD i []).length - cnt (rows.getD i []) + 1) acc (by omega) (by omega) (by omega) ha (by omega) (fun k'' hk'' => ?_) (by omega) (by omega)
      have hy := ih k'' (i + 1) (acc + partB (rows.getD i []).length (cnt (rows.getD i []))) (by omega) (by omega) (by unfold estRow at hrow; omega) (by unfold estRow at hrow; omega) hk''
      rw [hy]
      simp only [est, estRow]
      rw [Int.add_assoc]) (rows.getD i []).length k 0 (by omega) (by omega) (by omega)
    rw [List.take_zero] at hx
    simp only [cnt, Nat.sub_zero] at hx
    exact hx

theorem best_spec (k : Nat) (s : Int) (rows : List (List Bool)) (hk : 10000 ≤ k) : bitmap_Estimate.f k s rows = some (if rightB rows then est rows else 0) := by
  unfold bitmap_Estimate.f
  rw [bright_spec]
  simp only [Option.bind_some]
  by_cases r : rightB rows
  · have h16 := r.2.1
    have hx := best_l0 rows (fun x hx => (r.2.2 x hx).2.1) h16 rows.length k 0 0 (by omega) (by omega) (by omega) (by omega) (by omega)
    rw [if_pos (decide_eq_true r), if_pos r]
    rw [Int.zero_add, List.drop_zero] at hx
    exact hx
  · rw [if_neg (by rw [decide_eq_false r]; decide), if_neg r]
theorem awake13_bits : est (addB 1 (⟨#[97]⟩ : ByteArray) [[false, false]]) = 65536 ∧ est [[false, false]] = 0 ∧ est [[true, true]] = 196608 ∧ rightB [[false, false]] ∧ rightB [[true, true]] ∧ rightB (addB 1 (⟨#[97]⟩ : ByteArray) [[false, false]]) := by decide +kernel

theorem awake13_spec (k : Nat) (hk : 10000 ≤ k) : rillmeterlaw13_awake.f k = some true := by
  obtain ⟨h1, h2, h3, h4, h5, h6⟩ := awake13_bits
  unfold rillmeterlaw13_awake.f
  rw [bnew_spec k 1 1 2 (by omega), if_pos (by decide)]
  simp only [Option.bind_some]
  have ez : List.replicate (1 : Int).toNat (List.replicate (2 : Int).toNat false) = [[false, false]] := rfl
  have hz : (⟨#[97]⟩ : ByteArray).size ≤ 1000 := by decide
  rw [ez, if_pos trivial, best_spec k 1 _ hk, if_pos h4, h2]
  simp only [Option.bind_some]
  rw [if_pos trivial, badd_spec k 1 _ (⟨#[97]⟩ : ByteArray) (by omega) (by omega) hz (by omega), if_pos h4]
  simp only [Option.bind_some]
  rw [best_spec k 1 _ hk, if_pos h6, h1]
  simp only [Option.bind_some]
  rw [if_pos trivial, best_spec k 0 _ hk, if_pos h5, h3]
  rfl
def r13B (rows : List (List Bool)) (r : List Bool) : Bool := decide (rowOkB (colsB rows) r)

theorem r13_l0 (s : Int) (rows : List (List Bool)) (hl : rows.length ≤ 9223372036854775807) : ∀ (d k i : Nat), rows.length - i = d → i ≤ rows.length → d < k →
    rillmeterref13_Right.l0 k i s rows = some ((rows.drop i).all (r13B rows) && (decide (rows.length > 0) && decide (rows.length < 17))) := by
  intro d
  induction d with
  | zero =>
    intro k i h0 hi hk
    obtain ⟨k, rfl⟩ : ∃ m, k = m + 1 := ⟨k - 1, by omega⟩
    simp only [rillmeterref13_Right.l0]
    rw [if_neg (by omega), List.drop_of_length_le (by omega), List.all_nil, Bool.true_and]
    by_cases c : rows.length > 0
    · rw [if_pos (by omega), decide_eq_true c, Bool.true_and]
      exact congrArg some (decide_eq_decide.2 (by omega))
    · rw [if_neg (by omega), decide_eq_false c, Bool.false_and]
  | succ d ih =>
    intro k i h0 hi hk
    obtain ⟨k, rfl⟩ : ∃ m, k = m + 1 := ⟨k - 1, by omega⟩
    have g : i < rows.length := by omega
    have e : rd_L1 rows (i : Int) = rows.getD i [] := rfl
    have e0 : rd_L1 rows 0 = rows.getD 0 [] := rfl
    have ed : rows.drop i = rows.getD i [] :: rows.drop (i + 1) := by
      rw [List.drop_eq_getElem_cons g, List.getD_eq_getElem?_getD, List.getElem?_eq_getElem g]; rfl
    have hn := ih k (i + 1) (by omega) (by omega) (by omega)
    simp only [rillmeterref13_Right.l0]
    rw [if_pos (by omega), if_pos (by omega), e, e0, ed, List.all_cons]
    have hno : ∀ (h : ¬ rowOkB (colsB rows) (rows.getD i [])), (some false : Option Bool) = some ((r13B rows (rows.getD i []) && (rows.drop (i + 1)).all (r13B rows)) && (decide (rows.length > 0) && decide (rows.length < 17))) := by
      intro h
      unfold r13B
      rw [decide_eq_false h, Bool.false_and, Bool.false_and]
    by_cases c1 : ((rows.getD i []).length : Int) = 0
    · rw [if_pos c1]; exact hno (fun o => by have := o.1; omega)
    · rw [if_neg c1]
      by_cases c2 : ((rows.getD i []).length : Int) > 256
      · rw [if_pos c2]; exact hno (fun o => by have := o.2.1; omega)
      · rw [if_neg c2, if_pos (by omega)]
        by_cases c3 : ((rows.getD i []).length : Int) = ((rows.getD 0 []).length : Int)
        · have hy : r13B rows (rows.getD i []) = true := decide_eq_true ⟨by omega, by omega, by unfold colsB; omega⟩
          rw [if_pos c3, i64_in ((i : Int) + 1) (by omega) (by omega), show (i : Int) + 1 = ((i + 1 : Nat) : Int) by omega, hn, hy, Bool.true_and]
        · rw [if_neg c3]; exact hno (fun o => c3 (by have := o.2.2; unfold colsB at this; omega))

theorem r13_spec (k : Nat) (s : Int) (rows : List (List Bool)) (hl : rows.length ≤ 9223372036854775807) (hk : rows.length < k) : rillmeterref13_Right.f k s rows = some (decide (rightB rows)) := by
  have h := r13_l0 s rows hl rows.length k 0 (by omega) (by omega) hk
  rw [List.drop_zero] at h
  unfold rillmeterref13_Right.f
  have h0 : ((0 : Nat) : Int) = 0 := rfl
  rw [h0] at h
  rw [h]
  have e : rows.all (r13B rows) = decide (∀ r ∈ rows, rowOkB (colsB rows) r) := by
    by_cases h : ∀ r ∈ rows, rowOkB (colsB rows) r
    · rw [decide_eq_true h, List.all_eq_true]
      intro r hr
      exact decide_eq_true (h r hr)
    · rw [decide_eq_false h, Bool.eq_false_iff]
      intro ha
      exact h (fun r hr => of_decide_eq_true (List.all_eq_true.1 ha r hr))
  rw [e]
  unfold rightB
  by_cases a : ∀ r ∈ rows, rowOkB (colsB rows) r
  · rw [decide_eq_true a, Bool.true_and]
    by_cases b : 1 ≤ rows.length ∧ rows.length ≤ 16
    · have hx : 1 ≤ rows.length ∧ rows.length ≤ 16 ∧ ∀ r ∈ rows, rowOkB (colsB rows) r := ⟨b.1, b.2, a⟩
      rw [decide_eq_true (show rows.length > 0 by omega), decide_eq_true (show rows.length < 17 by omega), decide_eq_true hx]; rfl
    · have hx : ¬ (1 ≤ rows.length ∧ rows.length ≤ 16 ∧ ∀ r ∈ rows, rowOkB (colsB rows) r) := fun o => b ⟨o.1, o.2.1⟩
      rw [decide_eq_false hx]
      by_cases b1 : rows.length > 0
      · rw [decide_eq_false (show ¬ rows.length < 17 by omega), Bool.and_false]
      · rw [decide_eq_false b1, Bool.false_and]
  · have hx : ¬ (1 ≤ rows.length ∧ rows.length ≤ 16 ∧ ∀ r ∈ rows, rowOkB (colsB rows) r) := fun o => a o.2.2
    rw [decide_eq_false a, decide_eq_false hx, Bool.false_and]
theorem small13_l0 (s : Int) (rows : List (List Bool)) (hl : rows.length ≤ 9223372036854775807) : ∀ (d k i : Nat), rows.length - i = d → i ≤ rows.length → d < k →
    rillmeterref13_Small.l0 k i s rows = some ((rows.drop i).all (fun r => decide (r.length ≤ 300)) && decide (rows.length < 20)) := by
  intro d
  induction d with
  | zero =>
    intro k i h0 hi hk
    obtain ⟨k, rfl⟩ : ∃ m, k = m + 1 := ⟨k - 1, by omega⟩
    simp only [rillmeterref13_Small.l0]
    rw [if_neg (by omega), List.drop_of_length_le (by omega), List.all_nil, Bool.true_and]
    exact congrArg some (decide_eq_decide.2 (by omega))
  | succ d ih =>
    intro k i h0 hi hk
    obtain ⟨k, rfl⟩ : ∃ m, k = m + 1 := ⟨k - 1, by omega⟩
    have g : i < rows.length := by omega
    have e : rd_L1 rows (i : Int) = rows.getD i [] := rfl
    have ed : rows.drop i = rows.getD i [] :: rows.drop (i + 1) := by
      rw [List.drop_eq_getElem_cons g, List.getD_eq_getElem?_getD, List.getElem?_eq_getElem g]; rfl
    simp only [rillmeterref13_Small.l0]
    rw [if_pos (by omega), if_pos (by omega), e, ed, List.all_cons]
    by_cases c : ((rows.getD i []).length : Int) > 300
    · rw [if_pos c, decide_eq_false (show ¬ (rows.getD i []).length ≤ 300 by omega), Bool.false_and, Bool.false_and]
    · rw [if_neg c, decide_eq_true (show (rows.getD i []).length ≤ 300 by omega), Bool.true_and, i64_in ((i : Int) + 1) (by omega) (by omega), show (i : Int) + 1 = ((i + 1 : Nat) : Int) by omega]
      exact ih k (i + 1) (by omega) (by omega) (by omega)

theorem small13_spec (k : Nat) (s : Int) (rows : List (List Bool)) (hl : rows.length ≤ 9223372036854775807) (hk : rows.length < k) : rillmeterref13_Small.f k s rows = some (decide ((∀ r ∈ rows, r.length ≤ 300) ∧ rows.length < 20)) := by
  have h := small13_l0 s rows hl rows.length k 0 (by omega) (by omega) hk
  rw [List.drop_zero] at h
  have h0 : ((0 : Nat) : Int) = 0 := rfl
  rw [h0] at h
  unfold rillmeterref13_Small.f
  rw [h]
  by_cases a : ∀ r ∈ rows, r.length ≤ 300
  · have e : rows.all (fun r => decide (r.length ≤ 300)) = true := List.all_eq_true.2 (fun r hr => decide_eq_true (a r hr))
    rw [e, Bool.true_and]
    exact congrArg some (decide_eq_decide.2 ⟨fun b => ⟨a, b⟩, fun b => b.2⟩)
  · have e : rows.all (fun r => decide (r.length ≤ 300)) = false := by
      rw [Bool.eq_false_iff]
      intro ha
      exact a (fun r hr => of_decide_eq_true (List.all_eq_true.1 ha r hr))
    rw [e, Bool.false_and, decide_eq_false (fun o => a o.1)]
theorem rmul_l0 (d : Nat) : ∀ (k : Nat) (x n out : Int), 0 ≤ x → x < 2305843009213693951 → 0 ≤ n → n < 2305843009213693951 → n < 2 ^ d → 0 ≤ out → out < 2305843009213693951 → d < k →
    rillmeterref01_Mul.l0 k x n out = some ((out + x * n) % 2305843009213693951) := by
  induction d with
  | zero =>
    intro k x n out x0 x1 n0 n1 nd o0 o1 hk
    obtain ⟨k, rfl⟩ : ∃ m, k = m + 1 := ⟨k - 1, by omega⟩
    have hn : n = 0 := by simp at nd; omega
    simp only [rillmeterref01_Mul.l0]
    rw [if_neg (by omega), hn]
    exact congrArg some (by simp; omega)
  | succ d ih =>
    intro k x n out x0 x1 n0 n1 nd o0 o1 hk
    obtain ⟨k, rfl⟩ : ∃ m, k = m + 1 := ⟨k - 1, by omega⟩
    simp only [rillmeterref01_Mul.l0]
    by_cases hp : n > 0
    · have hd : n / 2 < 2 ^ d := by rw [Int.pow_succ] at nd; omega
      rw [if_pos hp, Int.tmod_eq_emod_of_nonneg n0, Int.tdiv_eq_ediv_of_nonneg n0, u64_in (x + x) (by omega) (by omega), u64_in (n / 2) (by omega) (by omega),
        u64_in (out + x) (by omega) (by omega), Int.tmod_eq_emod_of_nonneg (by omega), Int.tmod_eq_emod_of_nonneg (by omega)]
      split
      · rw [ih k _ (n / 2) _ (by omega) (by omega) (by omega) (by omega) hd (by omega) (by omega) (by omega)]
        have e : n = 2 * (n / 2) + 1 := by omega
        refine congrArg some ?_
        generalize n / 2 = m at *
        subst e
        rw [Int.add_emod, Int.emod_emod, Int.mul_emod, Int.emod_emod, ← Int.mul_emod, ← Int.add_emod]
        exact congrArg (· % _) (by grind)
      · rw [ih k _ (n / 2) _ (by omega) (by omega) (by omega) (by omega) hd o0 o1 (by omega)]
        have e : n = 2 * (n / 2) := by omega
        refine congrArg some ?_
        generalize n / 2 = m at *
        subst e
        rw [Int.add_emod, Int.mul_emod, Int.emod_emod, ← Int.mul_emod, ← Int.add_emod]
        exact congrArg (· % _) (by grind)
    · have hn : n = 0 := by omega
      rw [if_neg hp, hn]
      exact congrArg some (by simp; omega)

theorem rmul_spec (k : Nat) (a b : Int) (h0 : 0 ≤ a) (g0 : 0 ≤ b) (hk : 65 ≤ k) :
    rillmeterref01_Mul.f k a b = some (a * b % 2305843009213693951) := by
  unfold rillmeterref01_Mul.f
  rw [Int.tmod_eq_emod_of_nonneg h0, Int.tmod_eq_emod_of_nonneg g0]
  rw [rmul_l0 61 k _ _ 0 (by omega) (by omega) (by omega) (by omega) (by omega) (by omega) (by omega) (by omega), Int.zero_add, ← Int.mul_emod]

theorem radd_spec (a b : Int) (h0 : 0 ≤ a) (g0 : 0 ≤ b) : rillmeterref01_Add.f a b = some ((a + b) % 2305843009213693951) := by
  unfold rillmeterref01_Add.f
  rw [Int.tmod_eq_emod_of_nonneg h0, Int.tmod_eq_emod_of_nonneg g0, u64_in _ (by omega) (by omega), Int.tmod_eq_emod_of_nonneg (by omega)]
  exact congrArg some (by omega)

theorem rpow_rec (d : Nat) : ∀ (k : Nat) (a n : Int), 0 ≤ a → a < 18446744073709551616 → 0 ≤ n → n < 18446744073709551616 → n < 2 ^ d → 66 + d ≤ k →
    rillmeterref01_Pow.f k a n = some (a ^ n.toNat % 2305843009213693951) := by
  induction d with
  | zero =>
    intro k a n x0 x1 n0 n1 nd hk
    obtain ⟨k, rfl⟩ : ∃ m, k = m + 1 := ⟨k - 1, by omega⟩
    have hn : n = 0 := by simp at nd; omega
    simp only [rillmeterref01_Pow.f]
    rw [if_pos hn, hn]
    exact congrArg some (by simp)
  | succ d ih =>
    intro k a n x0 x1 n0 n1 nd hk
    obtain ⟨k, rfl⟩ : ∃ m, k = m + 1 := ⟨k - 1, by omega⟩
    simp only [rillmeterref01_Pow.f]
    by_cases hp : n = 0
    · rw [if_pos hp, hp]
      exact congrArg some (by simp)
    · have hd : n / 2 < 2 ^ d := by rw [Int.pow_succ] at nd; omega
      rw [if_neg hp, Int.tmod_eq_emod_of_nonneg n0, Int.tdiv_eq_ediv_of_nonneg n0, u64_in (n / 2) (by omega) (by omega)]
      rw [ih k a (n / 2) x0 x1 (by omega) (by omega) hd (by omega)]
      simp only [Option.bind_some]
      rw [rmul_spec k _ _ (by omega) (by omega) (by omega)]
      simp only [Option.bind_some]
      have e2 : a ^ (n / 2).toNat % 2305843009213693951 * (a ^ (n / 2).toNat % 2305843009213693951) % 2305843009213693951 = a ^ (2 * (n.toNat / 2)) % 2305843009213693951 := by
        rw [← Int.mul_emod, ← Int.pow_add, show (n / 2).toNat + (n / 2).toNat = 2 * (n.toNat / 2) by omega]
      rw [e2]
      split
      · rw [rmul_spec k _ _ (by omega) x0 (by omega)]
        have e : n.toNat = 2 * (n.toNat / 2) + 1 := by omega
        refine congrArg some ?_
        rw [Int.mul_emod, Int.emod_emod, ← Int.mul_emod]
        conv => rhs; rw [e, Int.pow_succ]
      · have e : n.toNat = 2 * (n.toNat / 2) := by omega
        refine congrArg some ?_
        conv => rhs; rw [e]

theorem rpow_spec (k : Nat) (a n : Int) (h0 : 0 ≤ a) (h1 : a < 18446744073709551616) (g0 : 0 ≤ n) (g1 : n < 18446744073709551616) (hk : 130 ≤ k) :
    rillmeterref01_Pow.f k a n = some (a ^ n.toNat % 2305843009213693951) :=
  rpow_rec 64 k a n h0 h1 g0 g1 (by omega) (by omega)

theorem rof_spec (a : Int) (h0 : 0 ≤ a) : rillmeterref01_Of.f a = some (a % 2305843009213693951) := by
  unfold rillmeterref01_Of.f
  rw [Int.tmod_eq_emod_of_nonneg h0]

theorem strOf_nought : strOfNums [0] = (⟨#[0]⟩ : ByteArray) := by rfl

theorem rwords_l1 (s : ByteArray) (hs : s.size ≤ 1000100) (h4 : s.size % 4 = 0) : ∀ (m k j : Nat) (l : List Int), j + m = words s → l.length = j → m < k →
    rillmeterref02_words.l1 k s l (4 * j) = some (l ++ (List.range' j m).map (fun (i : Nat) => wordAt s (4 * (i : Int)))) := by
  intro m
  induction m with
  | zero =>
    intro k j l h0 hl hk
    obtain ⟨k, rfl⟩ : ∃ m, k = m + 1 := ⟨k - 1, by omega⟩
    unfold words at h0
    simp only [rillmeterref02_words.l1]
    rw [if_neg (by omega)]
    simp
  | succ m ih =>
    intro k j l h0 hl hk
    obtain ⟨k, rfl⟩ : ∃ m, k = m + 1 := ⟨k - 1, by omega⟩
    have hw : words s = (s.size + 3) / 4 := rfl
    have b0 := bt_range s (4 * j)
    have b1 := bt_range s (4 * j + 1)
    have b2 := bt_range s (4 * j + 2)
    have b3 := bt_range s (4 * j + 3)
    simp only [rillmeterref02_words.l1]
    rw [i64_in (4 * (j : Int) + 1) (by omega) (by omega), i64_in (4 * (j : Int) + 2) (by omega) (by omega), i64_in (4 * (j : Int) + 3) (by omega) (by omega), i64_in (4 * (j : Int) + 4) (by omega) (by omega)]
    rw [if_pos (by omega), if_pos (by omega), if_pos (by omega), if_pos (by omega), if_pos (by omega), if_pos (by omega), if_pos (by omega), if_pos (by omega), if_pos (by omega)]
    rw [u64_in (bt s (4 * j)) (by omega) (by omega), u64_in (bt s (4 * j + 1)) (by omega) (by omega), u64_in (bt s (4 * j + 2)) (by omega) (by omega), u64_in (bt s (4 * j + 3)) (by omega) (by omega),
      u64_in (bt s (4 * j) * 16777216) (by omega) (by omega), u64_in (bt s (4 * j + 1) * 65536) (by omega) (by omega), u64_in (bt s (4 * j + 2) * 256) (by omega) (by omega),
      u64_in (bt s (4 * j) * 16777216 + bt s (4 * j + 1) * 65536) (by omega) (by omega), u64_in (_ + bt s (4 * j + 2) * 256) (by omega) (by omega), u64_in (_ + bt s (4 * j + 3)) (by omega) (by omega)]
    rw [show 4 * (j : Int) + 4 = 4 * ((j + 1 : Nat) : Int) by omega, ih k (j + 1) _ (by omega) (by simp [hl]) (by omega)]
    rw [List.range'_succ, List.map_cons, List.append_assoc]
    have e : bt s (4 * j) * 16777216 + bt s (4 * j + 1) * 65536 + bt s (4 * j + 2) * 256 + bt s (4 * j + 3) = wordAt s (4 * j) := by unfold wordAt; omega
    rw [e]
    rfl

theorem words_push (s : ByteArray) (h : s.size % 4 ≠ 0) : words (s ++ (⟨#[0]⟩ : ByteArray)) = words s := by
  have hsz : (s ++ (⟨#[0]⟩ : ByteArray)).size = s.size + 1 := by rw [ByteArray.size_append]; rfl
  unfold words
  omega

theorem rwords_l0 : ∀ (d k : Nat) (s : ByteArray), s.size + d ≤ 1000050 → (4 - s.size % 4) % 4 = d → d ≤ 3 → words s + d + 2 ≤ k →
    rillmeterref02_words.l0 k s = some ((List.range' 0 (words s)).map (fun (i : Nat) => wordAt s (4 * (i : Int)))) := by
  intro d
  induction d with
  | zero =>
    intro k s hs hd _ hk
    obtain ⟨k, rfl⟩ : ∃ m, k = m + 1 := ⟨k - 1, by omega⟩
    simp only [rillmeterref02_words.l0]
    rw [if_pos (by omega)]
    have h := rwords_l1 s (by omega) (by omega) (words s) k 0 [] (by omega) rfl (by omega)
    rw [show (4 * ((0 : Nat) : Int)) = 0 from rfl] at h
    rw [h]; simp
  | succ d ih =>
    intro k s hs hd h3 hk
    obtain ⟨k, rfl⟩ : ∃ m, k = m + 1 := ⟨k - 1, by omega⟩
    have hsz : (s ++ (⟨#[0]⟩ : ByteArray)).size = s.size + 1 := by rw [ByteArray.size_append]; rfl
    have h1 : (⟨#[0]⟩ : ByteArray).size = 1 := rfl
    simp only [rillmeterref02_words.l0]
    rw [if_neg (by omega)]
    simp only [Option.bind_some, strOf_nought]
    rw [h1, if_pos (by omega)]
    by_cases hd0 : d = 0
    · subst hd0
      rw [ih k (s ++ (⟨#[0]⟩ : ByteArray)) (by omega) (by omega) (by omega) (by rw [words_push s (by omega)]; omega), words_push s (by omega)]
      simp only [wordAt_push]
    · rw [ih k (s ++ (⟨#[0]⟩ : ByteArray)) (by omega) (by omega) (by omega) (by rw [words_push s (by omega)]; omega), words_push s (by omega)]
      simp only [wordAt_push]

theorem rwords_spec (k : Nat) (s : ByteArray) (hs : s.size ≤ 1000000) (hk : words s + 5 ≤ k) :
    rillmeterref02_words.f k s = some ((List.range' 0 (words s)).map (fun (i : Nat) => wordAt s (4 * (i : Int)))) :=
  rwords_l0 ((4 - s.size % 4) % 4) k s (by omega) rfl (by omega) (by omega)

theorem rsum_l0 (s : ByteArray) (a : Int) (a0 : 0 ≤ a) (a1 : a < 18446744073709551616) (hW : words s ≤ 1000000) : ∀ (m k j : Nat) (n : Int), j + m = words s → 0 ≤ n → n < 2305843009213693951 → m + 131 ≤ k →
    rillmeterref02_Sum.l0 k a n ((List.range' 0 (words s)).map (fun (i : Nat) => wordAt s (4 * (i : Int)))) j = some ((roll s a m n (4 * j) * a) ^ 17 % 2305843009213693951) := by
  intro m
  induction m with
  | zero =>
    intro k j n hj n0 n1 hk
    obtain ⟨k, rfl⟩ : ∃ m, k = m + 1 := ⟨k - 1, by omega⟩
    simp only [rillmeterref02_Sum.l0]
    rw [if_neg (by simp; omega), rmul_spec k a n a0 n0 (by omega)]
    simp only [Option.bind_some]
    rw [rpow_spec k _ 17 (by omega) (by omega) (by omega) (by omega) (by omega), show (17 : Int).toNat = 17 from rfl, pow_emod, Int.mul_comm a n]
    rfl
  | succ m ih =>
    intro k j n hj n0 n1 hk
    obtain ⟨k, rfl⟩ : ∃ m, k = m + 1 := ⟨k - 1, by omega⟩
    have hw := wordAt_range s (4 * j)
    have e : rd ((List.range' 0 (words s)).map (fun (i : Nat) => wordAt s (4 * (i : Int)))) j = wordAt s (4 * j) := by
      simp [rd, show j < words s by omega]
    simp only [rillmeterref02_Sum.l0]
    rw [if_pos (by simp; omega), rmul_spec k a n a0 n0 (by omega), e]
    simp only [Option.bind_some]
    rw [if_pos (by omega), radd_spec _ 1 hw.1 (by omega)]
    simp only [Option.bind_some]
    rw [radd_spec _ _ (by omega) (by omega), i64_in ((j : Int) + 1) (by omega) (by omega)]
    simp only [Option.bind_some]
    rw [show (j : Int) + 1 = ((j + 1 : Nat) : Int) by omega, ih k (j + 1) _ (by omega) (by omega) (by omega) (by omega)]
    simp only [roll]
    rw [show (4 * ((j + 1 : Nat) : Int)) = 4 * (j : Int) + 4 by omega, Int.mul_comm a n]
    have e2 : (n * a % 2305843009213693951 + (wordAt s (4 * j) + 1) % 2305843009213693951) % 2305843009213693951 = (n * a + wordAt s (4 * j) + 1) % 2305843009213693951 := by omega
    rw [e2]

theorem rsum_spec (k : Nat) (seed : Int) (s : ByteArray) (hs : s.size ≤ 1000000) (h0 : 0 ≤ seed) (hk : words s + 135 ≤ k) :
    rillmeterref02_Sum.f k seed s = some (hsum seed s) := by
  unfold rillmeterref02_Sum.f hsum
  have hw : words s = (s.size + 3) / 4 := rfl
  rw [radd_spec seed 2 h0 (by omega), u64_in _ (by omega) (by omega), rof_spec _ (by omega), rwords_spec k s hs (by omega)]
  simp only [Option.bind_some]
  have h := rsum_l0 s ((seed + 2) % 2305843009213693951) (by omega) (by omega) (by omega) (words s) k 0 ((s.size : Int) % 2305843009213693951) (by omega) (by omega) (by omega) (by omega)
  rw [show ((0 : Nat) : Int) = 0 from rfl, show (4 * (0 : Int)) = 0 from rfl, show (s.size : Int) % 2305843009213693951 = s.size by omega] at h
  rw [show (s.size : Int) % 2305843009213693951 = s.size by omega]
  exact h

theorem rlevel_l0 (most : Int) (hm : most ≤ 60) : ∀ (d k f : Nat) (n x : Nat), most - n = d → d ≤ f → x < 18446744073709551616 → d < k →
    rillmeterref02_Level.l0 k most n x = some ((n : Int) + mn (Lib.ctzFrom f x : Int) (d : Int)) := by
  intro d
  induction d with
  | zero =>
    intro k f n x h0 hf hx hk
    obtain ⟨k, rfl⟩ : ∃ m, k = m + 1 := ⟨k - 1, by omega⟩
    simp only [rillmeterref02_Level.l0]
    rw [if_neg (by omega)]
    refine congrArg some ?_
    unfold mn
    split <;> omega
  | succ d ih =>
    intro k f n x h0 hf hx hk
    obtain ⟨k, rfl⟩ : ∃ m, k = m + 1 := ⟨k - 1, by omega⟩
    obtain ⟨f, rfl⟩ : ∃ m, f = m + 1 := ⟨f - 1, by omega⟩
    simp only [rillmeterref02_Level.l0]
    rw [if_pos (by omega), Int.tmod_eq_emod_of_nonneg (by omega), Int.tdiv_eq_ediv_of_nonneg (by omega)]
    by_cases c : x % 2 = 1
    · rw [if_neg (by omega)]
      have e : Lib.ctzFrom (f + 1) x = 0 := by unfold Lib.ctzFrom; rw [if_pos c]
      rw [e]
      refine congrArg some ?_
      unfold mn
      split <;> omega
    · rw [if_pos (by omega)]
      have e : Lib.ctzFrom (f + 1) x = 1 + Lib.ctzFrom f (x / 2) := by
        conv => lhs; unfold Lib.ctzFrom
        rw [if_neg c]
      rw [e, i64_in ((n : Int) + 1) (by omega) (by omega), show (n : Int) + 1 = ((n + 1 : Nat) : Int) by omega, u64_in _ (by omega) (by omega), show (x : Int) / 2 = ((x / 2 : Nat) : Int) by omega, ih k f (n + 1) (x / 2) (by omega) (by omega) (by omega) (by omega)]
      refine congrArg some ?_
      unfold mn
      split <;> split <;> omega

theorem ctz_from0 : ∀ f, Lib.ctzFrom f 0 = f := by
  intro f
  induction f with
  | zero => rfl
  | succ f ih =>
    unfold Lib.ctzFrom
    rw [if_neg (by decide), Nat.zero_div, ih]
    omega

theorem rlevel_spec (k : Nat) (seed : Int) (key : ByteArray) (most : Int) (hs : key.size ≤ 1000000) (h0 : 0 ≤ seed) (hm : 0 ≤ most) (hm2 : most ≤ 60) (hk : words key + 135 ≤ k) : rillmeterref02_Level.f k seed key most = some (lev (hsum seed key) most) := by
  unfold rillmeterref02_Level.f
  rw [rsum_spec k seed key hs h0 hk]
  simp only [Option.bind_some]
  have hr := hsum_range seed key
  have hx := rlevel_l0 most hm2 most.toNat k 64 0 (hsum seed key).toNat (by omega) (by omega) (by omega) (by omega)
  rw [show (((hsum seed key).toNat : Nat) : Int) = hsum seed key by omega, show ((0 : Nat) : Int) = 0 from rfl, show ((most.toNat : Nat) : Int) = most by omega] at hx
  rw [hx]
  refine congrArg some ?_
  unfold lev
  by_cases c : hsum seed key = 0
  · rw [if_pos c, c]
    rw [show (0 : Int).toNat = 0 from rfl, ctz_from0]
    unfold mn mx
    (repeat' split) <;> omega
  · rw [if_neg c]
    have e : Lib.ctz 64 (hsum seed key).toNat = Lib.ctzFrom 64 (hsum seed key).toNat := by unfold Lib.ctz; rw [if_neg (by omega)]
    rw [e]
    have ht : 0 ≤ (Lib.ctzFrom 64 (hsum seed key).toNat : Int) := by omega
    generalize (Lib.ctzFrom 64 (hsum seed key).toNat : Int) = t at ht ⊢
    unfold mn mx
    (repeat' split) <;> omega
theorem rrow_j0 (k : Nat) (seed i : Int) (h0 : 0 ≤ seed) (hi0 : 0 ≤ i) (hi : i < 9223372036854775808) (hk : 132 ≤ k) : rillmeterref02_Row.j0 k seed i = some (hrow seed i) := by
  obtain ⟨k, rfl⟩ : ∃ m, k = m + 1 := ⟨k - 1, by omega⟩
  simp only [rillmeterref02_Row.j0]
  unfold hrow hmid
  rw [if_neg (by omega), u64_in i (by omega) (by omega), radd_spec seed 3 h0 (by omega), radd_spec i 2 hi0 (by omega)]
  simp only [Option.bind_some]
  rw [rmul_spec k _ _ (by omega) (by omega) (by omega)]
  simp only [Option.bind_some]
  rw [radd_spec _ 5 (by omega) (by omega)]
  simp only [Option.bind_some]
  rw [rpow_spec k _ 2 (by omega) (by omega) (by omega) (by omega) (by omega), show (2 : Int).toNat = 2 from rfl]
  simp only [Option.bind_some]
  rw [show ∀ x : Int, x ^ 2 = x * x from fun x => by rw [Int.pow_succ, Int.pow_succ, Int.pow_zero, Int.one_mul]]

theorem rrow_spec (k : Nat) (seed i : Int) (h0 : 0 ≤ seed) (hi : i < 9223372036854775808) (hk : 132 ≤ k) : rillmeterref02_Row.f k seed i = some (hrow seed i) := by
  unfold rillmeterref02_Row.f
  by_cases a : i < 0
  · rw [if_pos a, rrow_j0 k seed 0 h0 (by omega) (by omega) hk]
    unfold hrow hmid
    rw [if_pos a, if_neg (by omega)]
  · rw [if_neg a, rrow_j0 k seed i h0 (by omega) hi hk]

theorem rcell_spec (k : Nat) (seed : Int) (key : ByteArray) (n : Int) (hs : key.size ≤ 1000000) (h0 : 0 ≤ seed) (hn : n < 9223372036854775808) (hk : words key + 135 ≤ k) :
    rillmeterref02_Cell.f k seed key n = some (hcell seed key n) := by
  unfold rillmeterref02_Cell.f hcell
  by_cases a : n < 1
  · rw [if_pos a, if_pos a]
  · rw [if_neg a, if_neg a, rsum_spec k seed key hs h0 hk]
    simp only [Option.bind_some]
    have r := hsum_range seed key
    have r1 := Int.emod_nonneg (hsum seed key) (b := n) (by omega)
    have r2 := Int.emod_lt_of_pos (hsum seed key) (b := n) (by omega)
    rw [u64_in n (by omega) (by omega), if_neg (by omega), Int.tmod_eq_emod_of_nonneg r.1, i64_in _ (by omega) (by omega)]

theorem rplace_spec (k : Nat) (s : Int) (rows : List (List Bool)) (thing : ByteArray) (r : rightB rows) (hs0 : 0 ≤ s) (ht : thing.size ≤ 1000) (hk : 1600 ≤ k) : rillmeterref13_Place.f k s rows thing = some (placeI s rows thing, placeK s rows thing) := by
  have hw := words_le thing 250 (by omega)
  have hr0 := hrow_range s 0
  have hr1 := hrow_range s 1
  have h16 := r.2.1
  have h1 := r.1
  have hc := bright_rows r 0 (by omega)
  have e0 : rd_L1 rows 0 = rows.getD 0 [] := rfl
  unfold rillmeterref13_Place.f
  rw [rrow_spec k s 0 hs0 (by omega) (by omega)]
  simp only [Option.bind_some]
  rw [i64_in ((rows.length : Int) - 1) (by omega) (by omega), rlevel_spec k (hrow s 0) thing _ (by omega) hr0.1 (by omega) (by omega) (by omega)]
  simp only [Option.bind_some]
  rw [rrow_spec k s 1 hs0 (by omega) (by omega)]
  simp only [Option.bind_some]
  rw [if_pos (by omega), e0, hc.2.2, rcell_spec k (hrow s 1) thing _ (by omega) hr1.1 (by omega) (by omega)]
  rfl
theorem radd13_l1 (s : Int) (rows acc : List (List Bool)) (pi pk : Nat) (hacc : acc.length ≤ 1000) (h16 : rows.length ≤ 16) (i : Nat) (g : i < rows.length) (hl : (rows.getD i []).length ≤ 256) (hpi : pi < rows.length) (hpk : pk < (rows.getD pi []).length) (K : Nat) (res : Int × List (List Bool))
    (hnext : ∀ k, K ≤ k → rillmeterref13_Add.l0 k pi pk (acc ++ [(setB rows pi pk).getD i []]) ((i + 1 : Nat) : Int) s rows = some res) : ∀ (d k j : Nat), (rows.getD i []).length - j = d → j ≤ (rows.getD i []).length → K + d + 1 ≤ k →
    rillmeterref13_Add.l1 k pi pk acc i (((setB rows pi pk).getD i []).take j) j s rows = some res := by
  have e : rd_L1 rows (i : Int) = rows.getD i [] := rfl
  have hsl := setB_row rows pi pk i hpi
  intro d
  induction d with
  | zero =>
    intro k j h0 hj hk
    obtain ⟨k, rfl⟩ : ∃ m, k = m + 1 := ⟨k - 1, by omega⟩
    simp only [rillmeterref13_Add.l1]
    rw [if_pos (by omega), if_pos (by omega), e, if_neg (by omega), if_pos (by omega), List.take_of_length_le (by omega), i64_in ((i : Int) + 1) (by omega) (by omega), show (i : Int) + 1 = ((i + 1 : Nat) : Int) by omega, hnext k (by omega)]
  | succ d ih =>
    intro k j h0 hj hk
    obtain ⟨k, rfl⟩ : ∃ m, k = m + 1 := ⟨k - 1, by omega⟩
    have gj : j < (rows.getD i []).length := by omega
    have hn := ih k (j + 1) (by omega) (by omega) (by omega)
    rw [takeB false _ j (by omega)] at hn
    have hb := setB_bit rows pi pk i j hpi hpk
    unfold bit at hb
    have htl : (((setB rows pi pk).getD i []).take j).length < 140737488355328 := by rw [List.length_take]; omega
    have er : rdOf false (rows.getD i []) (j : Int) = (rows.getD i []).getD j false := rfl
    simp only [rillmeterref13_Add.l1]
    rw [if_pos (by omega), if_pos (by omega), e, if_pos (by omega), if_pos (by omega), er, i64_in ((j : Int) + 1) (by omega) (by omega), show (j : Int) + 1 = ((j + 1 : Nat) : Int) by omega]
    by_cases c : (rows.getD i []).getD j false = true
    · rw [c, Bool.true_or] at hb
      rw [if_pos c, if_pos htl, ← hb]
      exact hn
    · have c0 : (rows.getD i []).getD j false = false := by simpa using c
      rw [c0, Bool.false_or] at hb
      rw [if_neg c]
      by_cases c1 : (i : Int) = (pi : Int)
      · have e1 : i = pi := by omega
        have e2 : ((j : Int) == (pk : Int)) = decide (i = pi ∧ j = pk) := by
          by_cases c2 : j = pk
          · rw [decide_eq_true ⟨e1, c2⟩, c2]; exact beq_self_eq_true _
          · rw [decide_eq_false (fun o => c2 o.2)]; exact beq_eq_false_iff_ne.2 (fun x => c2 (by omega))
        rw [if_pos c1, if_pos htl, e2, ← hb]
        exact hn
      · rw [decide_eq_false (fun o => c1 (by omega))] at hb
        rw [if_neg c1, if_pos htl, ← hb]
        exact hn

set_option maxRecDepth 100000 in
theorem radd13_l0 (s : Int) (rows : List (List Bool)) (pi pk : Nat) (h16 : rows.length ≤ 16) (hl : ∀ r ∈ rows, r.length ≤ 256) (hpi : pi < rows.length) (hpk : pk < (rows.getD pi []).length) : ∀ (d k i : Nat), rows.length - i = d → i ≤ rows.length → d * 260 + 1 ≤ k →
    rillmeterref13_Add.l0 k pi pk ((setB rows pi pk).take i) i s rows = some (s, setB rows pi pk) := by
  have hsl := setB_length rows pi pk
  intro d
  induction d with
  | zero =>
    intro k i h0 hi hk
    obtain ⟨k, rfl⟩ : ∃ m, k = m + 1 := ⟨k - 1, by omega⟩
    simp only [rillmeterref13_Add.l0]
    rw [if_neg (by omega), List.take_of_length_le (by omega)]
  | succ d ih =>
    intro k i h0 hi hk
    obtain ⟨k, rfl⟩ : ∃ m, k = m + 1 := ⟨k - 1, by omega⟩
    have g : i < rows.length := by omega
    have hli := hl _ (rowB_mem rows i g)
    simp only [rillmeterref13_Add.l0]
    rw [if_pos (by omega)]
    have hx := radd13_l1 s rows ((setB rows pi pk).take i) pi pk (by rw [List.length_take]; omega) h16 i g hli hpi hpk (d * 260 + 1) (s, setB rows pi pk) (fun k hk => by
      have hq := ih k (i + 1) (by omega) (by omega) hk
      rw [takeB [] _ i (by omega)] at hq
      exact hq) (rows.getD i []).length k 0 (by omega) (by omega) (by omega)
    rw [List.take_zero] at hx
    exact hx

theorem radd13_spec (k : Nat) (s : Int) (rows : List (List Bool)) (thing : ByteArray) (r : rightB rows) (hs0 : 0 ≤ s) (ht : thing.size ≤ 1000) (hk : 5000 ≤ k) : rillmeterref13_Add.f k s rows thing = some (s, addB s thing rows) := by
  have hp := place_range s rows thing r
  have h16 := r.2.1
  have hl := bright_rows r (placeI s rows thing).toNat (by omega)
  unfold rillmeterref13_Add.f
  rw [rplace_spec k s rows thing r hs0 ht (by omega)]
  simp only [Option.bind_some]
  have hx := radd13_l0 s rows (placeI s rows thing).toNat (placeK s rows thing).toNat h16 (fun x hx => (r.2.2 x hx).2.1) (by omega) (by omega) rows.length k 0 (by omega) (by omega) (by omega)
  rw [List.take_zero, show (((placeI s rows thing).toNat : Nat) : Int) = placeI s rows thing by omega, show (((placeK s rows thing).toNat : Nat) : Int) = placeK s rows thing by omega] at hx
  exact hx
theorem rest_l1 (s : Int) (rows : List (List Bool)) (i : Nat) (acc0 : Int) (g : i < rows.length) (hl : (rows.getD i []).length ≤ 256) (h16 : rows.length ≤ 16) (ha : 0 ≤ acc0) (ha2 : acc0 ≤ 576460752303423488) (K : Nat) (res : Int)
    (hnext : ∀ k, K ≤ k → rillmeterref13_Estimate.l0 k (acc0 + estRow (rows.getD i [])) ((i + 1 : Nat) : Int) s rows = some res) : ∀ (d k j : Nat), (rows.getD i []).length - j = d → j ≤ (rows.getD i []).length → K + d + 1 ≤ k →
    rillmeterref13_Estimate.l1 k (acc0 + partB (rows.getD i []).length (cnt ((rows.getD i []).take j))) i (rows.getD i []).length (((rows.getD i []).length - cnt ((rows.getD i []).take j) : Nat) : Int) j s rows = some res := by
  have e : rd_L1 rows (i : Int) = rows.getD i [] := rfl
  intro d
  induction d with
  | zero =>
    intro k j h0 hj hk
    obtain ⟨k, rfl⟩ : ∃ m, k = m + 1 := ⟨k - 1, by omega⟩
    have hn := hnext k (by omega)
    unfold estRow at hn
    simp only [rillmeterref13_Estimate.l1]
    rw [if_neg (by omega), List.take_of_length_le (by omega), i64_in ((i : Int) + 1) (by omega) (by omega), show (i : Int) + 1 = ((i + 1 : Nat) : Int) by omega, hn]
  | succ d ih =>
    intro k j h0 hj hk
    obtain ⟨k, rfl⟩ : ∃ m, k = m + 1 := ⟨k - 1, by omega⟩
    have gj : j < (rows.getD i []).length := by omega
    have hn := ih k (j + 1) (by omega) (by omega) (by omega)
    have hct := cnt_take (rows.getD i []) j gj
    have hc1 := cnt_le ((rows.getD i []).take (j + 1))
    rw [List.length_take] at hc1
    have hc0 := cnt_le ((rows.getD i []).take j)
    rw [List.length_take] at hc0
    have er : rdOf false (rows.getD i []) (j : Int) = (rows.getD i []).getD j false := rfl
    have hpr := partB_range (rows.getD i []).length hl (cnt ((rows.getD i []).take j)) (by omega)
    simp only [rillmeterref13_Estimate.l1]
    rw [if_pos (by omega), if_pos (by omega), if_pos (by omega), if_pos (by omega), e, if_pos (by omega), er, i64_in ((j : Int) + 1) (by omega) (by omega), show (j : Int) + 1 = ((j + 1 : Nat) : Int) by omega]
    by_cases c : (rows.getD i []).getD j false = true
    · rw [if_pos c] at hct ⊢
      have ht := partB_term (rows.getD i []).length (cnt ((rows.getD i []).take j)) hl (by omega)
      rw [if_neg (by omega), i64_in (((rows.getD i []).length : Int) * 65536) (by omega) (by omega), Int.tdiv_eq_ediv_of_nonneg (by omega), i64_in (((rows.getD i []).length : Int) * 65536 / (((rows.getD i []).length - cnt ((rows.getD i []).take j) : Nat) : Int)) (by omega) (by omega), i64_in (acc0 + partB (rows.getD i []).length (cnt ((rows.getD i []).take j)) + ((rows.getD i []).length : Int) * 65536 / (((rows.getD i []).length - cnt ((rows.getD i []).take j) : Nat) : Int)) (by omega) (by omega), i64_in ((((rows.getD i []).length - cnt ((rows.getD i []).take j) : Nat) : Int) - 1) (by omega) (by omega)]
      rw [hct] at hn
      simp only [partB] at hn
      rw [← Int.add_assoc, show (((rows.getD i []).length - (cnt ((rows.getD i []).take j) + 1) : Nat) : Int) = (((rows.getD i []).length - cnt ((rows.getD i []).take j) : Nat) : Int) - 1 by omega] at hn
      exact hn
    · rw [if_neg c] at hct ⊢
      rw [hct, Nat.add_zero] at hn
      exact hn

set_option maxRecDepth 100000 in
theorem rest_l0 (s : Int) (rows : List (List Bool)) (hr : ∀ r ∈ rows, r.length ≤ 256) (h16 : rows.length ≤ 16) : ∀ (d k i : Nat) (acc : Int), rows.length - i = d → i ≤ rows.length → 0 ≤ acc → acc + (d : Int) * 4294967296 ≤ 576460752303423488 → d * 260 + 1 ≤ k →
    rillmeterref13_Estimate.l0 k acc i s rows = some (acc + est (rows.drop i)) := by
  intro d
  induction d with
  | zero =>
    intro k i acc h0 hi ha ha2 hk
    obtain ⟨k, rfl⟩ : ∃ m, k = m + 1 := ⟨k - 1, by omega⟩
    simp only [rillmeterref13_Estimate.l0]
    rw [if_neg (by omega), List.drop_of_length_le (by omega)]
    simp [est]
  | succ d ih =>
    intro k i acc h0 hi ha ha2 hk
    obtain ⟨k, rfl⟩ : ∃ m, k = m + 1 := ⟨k - 1, by omega⟩
    have g : i < rows.length := by omega
    have e : rd_L1 rows (i : Int) = rows.getD i [] := rfl
    have hl := hr _ (rowB_mem rows i g)
    have hrow := estRow_range (rows.getD i []) hl
    have ed : rows.drop i = rows.getD i [] :: rows.drop (i + 1) := by
      rw [List.drop_eq_getElem_cons g, List.getD_eq_getElem?_getD, List.getElem?_eq_getElem g]; rfl
    simp only [rillmeterref13_Estimate.l0]
    rw [if_pos (by omega), if_pos (by omega), e, ed]
    have hx := rest_l1 s rows i acc g hl h16 ha (by omega) (d * 260 + 1) (acc + est (rows.getD i [] :: rows.drop (i + 1))) (fun k' hk' => by
      have hy := ih k' (i + 1) (acc + estRow (rows.getD i [])) (by omega) (by omega) (by omega) (by omega) hk'
      rw [hy]
      simp only [est]
      rw [Int.add_assoc]) (rows.getD i []).length k 0 (by omega) (by omega) (by omega)
    rw [List.take_zero] at hx
    simp only [cnt, partB, Nat.sub_zero, Int.add_zero] at hx
    exact hx

theorem rest_spec (k : Nat) (s : Int) (rows : List (List Bool)) (r : rightB rows) (hk : 10000 ≤ k) : rillmeterref13_Estimate.f k s rows = some (est rows) := by
  have h16 := r.2.1
  have hx := rest_l0 s rows (fun x hx => (r.2.2 x hx).2.1) h16 rows.length k 0 0 (by omega) (by omega) (by omega) (by omega) (by omega)
  rw [Int.zero_add, List.drop_zero] at hx
  exact hx
theorem BitmapTurns : rillmeterlaw13_BitmapTurns.Pure := by
  intro s rows thing hs0 hrows _
  have hs0 := u64_wf hs0
  have hml : rows.length ≤ 9223372036854775807 := by have := hrows.1; unfold maxLen at this; omega
  refine ⟨20000 + rows.length, ?_⟩
  obtain ⟨k, hk, hk2⟩ : ∃ m, 20000 + rows.length = m + 1 ∧ 19999 + rows.length = m := ⟨20000 + rows.length - 1, by omega, by omega⟩
  rw [hk]
  have hsm := small13_spec (k + 1) s rows hml (by omega)
  have haw : rillmeterlaw13_awake.f k = some true := awake13_spec k (by omega)
  have hend : rillmeterlaw13_BitmapTurns.j0 (k + 1) thing true s rows = some true := by
    simp only [rillmeterlaw13_BitmapTurns.j0]
    rw [if_pos trivial, haw]; rfl
  unfold rillmeterlaw13_BitmapTurns.f
  simp only [rillmeterlaw13_ref.f, Option.bind_some]
  rw [hsm]
  simp only [Option.bind_some]
  by_cases sm : (∀ r ∈ rows, r.length ≤ 300) ∧ rows.length < 20
  · rw [if_pos (decide_eq_true sm)]
    by_cases c1 : (thing.size : Int) > 100
    · rw [decide_eq_true c1]; exact hend
    · rw [decide_eq_false c1]
      simp only [rillmeterlaw13_BitmapTurns.j0, rillmeterlaw13_ref.f, Option.bind_some]
      rw [if_neg (by decide), badd_spec k s rows thing hs0.1 hs0.2 (by omega) (by omega), bplace_spec k s rows thing hs0.1 hs0.2 (by omega) (by omega), r13_spec k s rows hml (by omega), bright_spec]
      simp only [Option.bind_some]
      by_cases r : rightB rows
      · have r2 := addB_right s thing rows r
        have hl2 : ∀ x ∈ addB s thing rows, x.length ≤ 300 := fun x hx => by have := (r2.2.2 x hx).2.1; omega
        rw [decide_eq_true r, if_pos rfl, if_pos r, if_pos r, rplace_spec k s rows thing r hs0.1 (by omega) (by omega)]
        simp only [Option.bind_some]
        rw [if_pos trivial, radd13_spec k s rows thing r hs0.1 (by omega) (by omega)]
        simp only [Option.bind_some]
        rw [same13_spec k s _ (by have := r2.2.1; omega) hl2 (by omega)]
        simp only [Option.bind_some]
        rw [if_pos trivial, if_pos trivial, if_pos trivial, best_spec k s rows (by omega), if_pos r, rest_spec k s rows r (by omega)]
        simp only [Option.bind_some]
        rw [if_pos trivial, haw]; rfl
      · rw [decide_eq_false r, if_neg (by decide), if_neg (by decide), if_neg r, if_neg r]
        rw [same13_spec k s rows (by omega) sm.1 (by omega)]
        simp only [Option.bind_some]
        rw [if_pos trivial, if_pos trivial, if_pos trivial, best_spec k s rows (by omega), if_neg r]
        simp only [Option.bind_some]
        rw [if_pos trivial, haw]; rfl
  · rw [decide_eq_false sm, if_neg (by decide)]; exact hend

end Go.Proofs.YteakbghjhckoeaaDoor.Pure
