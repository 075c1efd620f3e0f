/- Whatever a filter is, its places of any key, what it is with it, and whether it has it, are what the reference says. No condition beyond the kinds of the arguments. -/
import Derived.Test.YtmlcafnnhpfpaaaPBloomTurnsy
import Derived.Test.YtmlcafnnhpfpaaaBits
import Derived.Test.YtmlcafnnhpfpaaaNum
import Derived.Test.YtmlcafnnhpfpaaaHash
import Derived.Test.YtmlcafnnhpfpaaaBloom
namespace Go.Proofs.Ytmlcafnnhpfpaaa.Pure
open Go.RowKit Go.Proofs.Ytmlcafnnhpfpaaa.PBloomTurns Go.Proofs.YtmlcafnnhpfpaaaW.PrintWords Go.Proofs.YtmlcafnnhpfpaaaW.PrintLast Go.Proofs.Ytmlcafnnhpfpaaa.Bits Go.Proofs.Ytmlcafnnhpfpaaa.Num Go.Proofs.Ytmlcafnnhpfpaaa.Hash Go.Proofs.Ytmlcafnnhpfpaaa.Bloom
set_option linter.unusedSimpArgs false
set_option linter.unusedVariables false

theorem equal_l0 (a b : Int) (l : List Bool) (a' b' : Int) (l' : List Bool) (hl : l.length = l'.length) (hb : l.length ≤ 140737488351232) : ∀ (d k i : Nat), l.length - i = d → i ≤ l.length → d < k →
    rillmeterref10_Equal.l0 k i a b l a' b' l' = some (decide (l.drop i = l'.drop i)) := by
  intro d
  induction d with
  | zero =>
    intro k i h0 h1 h2
    obtain ⟨k, rfl⟩ : ∃ m, k = m + 1 := ⟨k - 1, by omega⟩
    simp only [rillmeterref10_Equal.l0]
    rw [if_neg (by omega), List.drop_of_length_le (by omega), List.drop_of_length_le (by omega), decide_eq_true rfl]
  | succ d ih =>
    intro k i h0 h1 h2
    obtain ⟨k, rfl⟩ : ∃ m, k = m + 1 := ⟨k - 1, by omega⟩
    simp only [rillmeterref10_Equal.l0]
    have g : i < l.length := by omega
    have g' : i < l'.length := by omega
    rw [if_pos (by omega), if_pos (by omega), if_pos (by omega), rdOf_eq false l i g, rdOf_eq false l' i g']
    have e1 := List.drop_eq_getElem_cons g
    have e2 := List.drop_eq_getElem_cons g'
    by_cases e : l[i] = l'[i]
    · rw [if_neg (by simp [e]), i64_in _ (by omega) (by omega), show ((i : Int) + 1) = ((i + 1 : Nat) : Int) by omega, ih k (i + 1) (by omega) (by omega) (by omega), e1, e2, e]
      exact congrArg some (decide_eq_decide.2 ⟨fun h => by rw [h], fun h => (List.cons.inj h).2⟩)
    · rw [if_pos (by simpa using e), e1, e2]
      exact congrArg some (decide_eq_false (fun h => e (List.cons.inj h).1)).symm

theorem equal_spec (k : Nat) (a b : Int) (l : List Bool) (a' b' : Int) (l' : List Bool) (hb : l.length ≤ 140737488351232) (hk : l.length + 2 ≤ k) :
    rillmeterref10_Equal.f k a b l a' b' l' = some (decide (a = a' ∧ b = b' ∧ l = l')) := by
  obtain ⟨k, rfl⟩ : ∃ m, k = m + 1 := ⟨k - 1, by omega⟩
  unfold rillmeterref10_Equal.f
  simp only [rillmeterref10_Equal.j0]
  by_cases e1 : a = a'
  · by_cases e2 : b = b'
    · by_cases e3 : l.length = l'.length
      · have h := equal_l0 a b l a' b' l' e3 hb l.length k 0 (by omega) (by omega) (by omega)
        rw [if_pos e1, if_pos e2, if_neg (by simp [e3])]
        rw [show ((0 : Nat) : Int) = 0 from rfl] at h
        rw [h]
        simp [e1, e2]
      · have : ¬ l = l' := fun h => e3 (by rw [h])
        have e3' : ¬ (l.length : Int) = (l'.length : Int) := by omega
        rw [if_pos e1, if_pos e2, if_pos (by simpa using e3')]
        simp [this]
    · simp [e1, e2]
  · simp [e1]

def rightB (hs : Int) (n : Nat) : Bool := decide (1 ≤ hs ∧ hs ≤ 7 ∧ 1 ≤ n ∧ n ≤ 256)

theorem right_spec (s hs : Int) (l : List Bool) : bloom_Right.f s hs l = some (rightB hs l.length) := by
  unfold bloom_Right.f rightB
  by_cases a : hs ≥ 1
  · rw [if_pos a]
    by_cases b : hs ≤ 7
    · rw [if_pos b]
      by_cases c : (l.length : Int) ≥ 1
      · rw [if_pos c]; exact congrArg some (decide_eq_decide.2 (by omega))
      · rw [if_neg c]; exact congrArg some (decide_eq_false (by omega)).symm
    · rw [if_neg b]; exact congrArg some (decide_eq_false (by omega)).symm
  · rw [if_neg a]; exact congrArg some (decide_eq_false (by omega)).symm

theorem new_spec (k : Nat) (s b hs : Int) (hk : 1 ≤ k) : bloom_New.f k s b hs = some (if 1 ≤ b ∧ b ≤ 256 ∧ 1 ≤ hs ∧ hs ≤ 7 then (s, hs, List.replicate b.toNat false, 0) else (0, 0, [], 1)) := by
  obtain ⟨k, rfl⟩ : ∃ m, k = m + 1 := ⟨k - 1, by omega⟩
  unfold bloom_New.f
  simp only [bloom_New.j0, right_spec, Option.bind_some, List.length_replicate]
  by_cases v : 1 ≤ b ∧ b ≤ 256 ∧ 1 ≤ hs ∧ hs ≤ 7
  · have r : rightB hs b.toNat = true := by unfold rightB; exact decide_eq_true (by omega)
    have c : ¬ b > 256 := by omega
    rw [if_pos v, if_neg (by omega), decide_eq_false c, if_neg (by decide), if_pos (by omega), if_pos (by omega), r]; rfl
  · rw [if_neg v]
    by_cases a : b < 1
    · rw [if_pos a]; rfl
    · rw [if_neg a]
      by_cases c : b > 256
      · rw [decide_eq_true c]; rfl
      · have r : rightB hs b.toNat = false := by unfold rightB; exact decide_eq_false (by omega)
        rw [decide_eq_false c, if_neg (by decide), if_pos (by omega), if_pos (by omega), r]; rfl

theorem set_l0 (s hs : Int) (l : List Bool) (hb : l.length ≤ 140737488351232) : ∀ (d k i : Nat) (n : Nat), l.length - i = d → i ≤ l.length → n ≤ i → d < k →
    bloom_Set.l0 k n l l.length i s hs l = some ((n + (if rightB hs l.length then (l.drop i).count true else 0) : Nat) : Int) := by
  intro d
  induction d with
  | zero =>
    intro k i n h0 h1 hn h2
    obtain ⟨k, rfl⟩ : ∃ m, k = m + 1 := ⟨k - 1, by omega⟩
    simp only [bloom_Set.l0]
    rw [if_neg (by omega), List.drop_of_length_le (by omega)]
    simp
  | succ d ih =>
    intro k i n h0 h1 hn h2
    obtain ⟨k, rfl⟩ : ∃ m, k = m + 1 := ⟨k - 1, by omega⟩
    simp only [bloom_Set.l0, right_spec]
    have g : i < l.length := by omega
    rw [if_pos (by omega), if_pos (by omega), if_pos (by omega), rdOf_eq false l i g, List.drop_eq_getElem_cons g, i64_in ((i : Int) + 1) (by omega) (by omega), i64_in ((n : Int) + 1) (by omega) (by omega),
      show ((i : Int) + 1) = ((i + 1 : Nat) : Int) by omega, show ((n : Int) + 1) = ((n + 1 : Nat) : Int) by omega]
    rw [ih k (i + 1) (n + 1) (by omega) (by omega) (by omega) (by omega), ih k (i + 1) n (by omega) (by omega) (by omega) (by omega)]
    simp only [Option.bind_some]
    by_cases e : l[i] = true
    · rw [if_pos e, e, List.count_cons_self]
      by_cases r : rightB hs l.length = true
      · rw [if_pos r, if_pos r, if_pos r]; congr 2; omega
      · rw [if_neg r, if_neg r, if_neg r]
    · rw [if_neg e, List.count_cons_of_ne (by simpa using e)]

theorem set_spec (k : Nat) (s hs : Int) (l : List Bool) (hb : l.length ≤ 140737488351232) (hk : l.length + 1 ≤ k) :
    bloom_Set.f k s hs l = some ((if rightB hs l.length then l.count true else 0 : Nat) : Int) := by
  have h := set_l0 s hs l hb l.length k 0 0 (by omega) (by omega) (by omega) (by omega)
  rw [show ((0 : Nat) : Int) = 0 from rfl, Nat.zero_add, List.drop_zero] at h
  exact h

theorem of_spec (a : Int) (h0 : 0 ≤ a) (h1 : a < 18446744073709551616) : field_Of.f a = some (a % 2305843009213693951) := by
  unfold field_Of.f
  rw [and_p a h0 h1, u64_in _ (by omega) (by omega)]
  split
  · rw [u64_in _ (by omega) (by omega)]
    exact congrArg some (by omega)
  · exact congrArg some (by omega)

theorem add_spec (a b : Int) (h0 : 0 ≤ a) (h1 : a < 18446744073709551616) (g0 : 0 ≤ b) (g1 : b < 18446744073709551616) :
    field_Add.f a b = some ((a + b) % 2305843009213693951) := by
  unfold field_Add.f
  rw [of_spec a h0 h1, of_spec b g0 g1]
  simp only [Option.bind_some]
  rw [u64_in _ (by omega) (by omega), of_spec _ (by omega) (by omega)]
  simp only [Option.bind_some]
  exact congrArg some (by omega)

theorem mul64_spec (a b : Int) (h0 : 0 ≤ a) (h1 : a < 18446744073709551616) (g0 : 0 ≤ b) (g1 : b < 18446744073709551616) :
    bits_Mul64.f a b = some (a * b / 18446744073709551616, a * b % 18446744073709551616) := by
  unfold bits_Mul64.f
  have hh := halves a b
  obtain ⟨p0, p1⟩ := mul_bd (a := a / 4294967296) (b := b / 4294967296) (by omega) (by omega) (by omega) (by omega)
  obtain ⟨q0, q1⟩ := mul_bd (a := a / 4294967296) (b := b % 4294967296) (by omega) (by omega) (by omega) (by omega)
  obtain ⟨r0, r1⟩ := mul_bd (a := a % 4294967296) (b := b / 4294967296) (by omega) (by omega) (by omega) (by omega)
  obtain ⟨s0, s1⟩ := mul_bd (a := a % 4294967296) (b := b % 4294967296) (by omega) (by omega) (by omega) (by omega)
  rw [and_32 a h0 h1, and_32 b g0 g1]
  generalize a / 4294967296 * (b / 4294967296) = p at *
  generalize a / 4294967296 * (b % 4294967296) = q at *
  generalize a % 4294967296 * (b / 4294967296) = r at *
  generalize a % 4294967296 * (b % 4294967296) = s at *
  generalize a * b = m at *
  clear h0 h1 g0 g1
  rw [u64_in p (by omega) (by omega), u64_in q (by omega) (by omega), u64_in r (by omega) (by omega), u64_in s (by omega) (by omega)]
  rw [u64_in (q + s / 4294967296) (by omega) (by omega)]
  rw [and_32 _ (by omega) (by omega)]
  rw [u64_in (p + _) (by omega) (by omega), u64_in (_ + r) (by omega) (by omega), wrap_u64 m]
  rw [u64_in _ (by omega) (by omega)]
  exact congrArg some (Prod.ext (by show _ = _; omega) rfl)

theorem mul_spec (a b : Int) (h0 : 0 ≤ a) (h1 : a < 18446744073709551616) (g0 : 0 ≤ b) (g1 : b < 18446744073709551616) :
    field_Mul.f a b = some (a * b % 2305843009213693951) := by
  unfold field_Mul.f
  rw [of_spec a h0 h1, of_spec b g0 g1, Int.mul_emod]
  simp only [Option.bind_some]
  have x0 : 0 ≤ a % 2305843009213693951 := by omega
  have x1 : a % 2305843009213693951 ≤ 2305843009213693950 := by omega
  have y0 : 0 ≤ b % 2305843009213693951 := by omega
  have y1 : b % 2305843009213693951 ≤ 2305843009213693950 := by omega
  generalize a % 2305843009213693951 = x at *
  generalize b % 2305843009213693951 = y at *
  rw [mul64_spec x y x0 (by omega) y0 (by omega)]
  simp only [Option.bind_some]
  have hm : 0 ≤ x * y ∧ x * y ≤ 2305843009213693950 * 2305843009213693950 := ⟨Int.mul_nonneg x0 y0, Int.mul_le_mul x1 y1 y0 (by omega)⟩
  generalize x * y = m at *
  obtain ⟨m0, m1⟩ := hm
  rw [and_p _ (by omega) (by omega)]
  rw [u64_in (_ * 8) (by omega) (by omega)]
  rw [or_3 _ _ (by omega) (by omega) (by omega) (by omega) (by omega)]
  rw [u64_in _ (by omega) (by omega), of_spec _ (by omega) (by omega)]
  simp only [Option.bind_some]
  exact congrArg some (by omega)

theorem sq_half (x n : Int) (h0 : 0 ≤ n) : (x * x % 2305843009213693951) ^ (n / 2).toNat % 2305843009213693951 = x ^ (2 * (n.toNat / 2)) % 2305843009213693951 := by
  rw [pow_emod, Int.pow_mul, show (n / 2).toNat = n.toNat / 2 by omega, show x ^ 2 = x * x by grind]

theorem pow_l0 (d : Nat) : ∀ (k : Nat) (x n out : Int), 0 ≤ x → x < 2305843009213693951 → 0 ≤ n → n < 18446744073709551616 → n < 2 ^ d → 0 ≤ out → out < 2305843009213693951 → d < k →
    field_Pow.l0 k x n out = some (out * x ^ n.toNat % 2305843009213693951) := by
  induction d with
  | zero =>
    intro k x n out x0 x1 n0 n1 nd o0 o1 hk
    obtain ⟨k, rfl⟩ : ∃ m, k = m + 1 := ⟨k - 1, by omega⟩
    have hn : n = 0 := by simp at nd; omega
    simp only [field_Pow.l0]
    rw [if_neg (by omega), hn]
    exact congrArg some (by simp; omega)
  | succ d ih =>
    intro k x n out x0 x1 n0 n1 nd o0 o1 hk
    obtain ⟨k, rfl⟩ : ∃ m, k = m + 1 := ⟨k - 1, by omega⟩
    simp only [field_Pow.l0]
    by_cases hp : n > 0
    · rw [if_pos hp, and_1 n n0 n1, mul_spec x x x0 (by omega) x0 (by omega), mul_spec out x o0 (by omega) x0 (by omega)]
      simp only [Option.bind_some]
      have hd : n / 2 < 2 ^ d := by rw [Int.pow_succ] at nd; omega
      split
      · rw [ih k _ (n / 2) _ (by omega) (by omega) (by omega) (by omega) hd (by omega) (by omega) (by omega)]
        have e : n.toNat = 2 * (n.toNat / 2) + 1 := by omega
        refine congrArg some ?_
        rw [Int.mul_emod, sq_half x n n0, ← Int.mul_emod]
        rw [Int.mul_emod, Int.emod_emod, ← Int.mul_emod]
        conv => rhs; rw [e, Int.pow_succ, Int.mul_comm _ x, ← Int.mul_assoc]
      · rw [ih k _ (n / 2) _ (by omega) (by omega) (by omega) (by omega) hd o0 o1 (by omega)]
        have e : n.toNat = 2 * (n.toNat / 2) := by omega
        refine congrArg some ?_
        rw [Int.mul_emod, sq_half x n n0, ← Int.mul_emod]
        conv => rhs; rw [e]
    · have hn : n = 0 := by omega
      rw [if_neg hp, hn]
      exact congrArg some (by simp; omega)

theorem pow_spec (k : Nat) (a n : Int) (h0 : 0 ≤ a) (h1 : a < 18446744073709551616) (g0 : 0 ≤ n) (g1 : n < 18446744073709551616) (hk : 65 ≤ k) :
    field_Pow.f k a n = some (a ^ n.toNat % 2305843009213693951) := by
  unfold field_Pow.f
  rw [of_spec a h0 h1]
  simp only [Option.bind_some]
  rw [pow_l0 64 k _ n 1 (by omega) (by omega) g0 g1 (by omega) (by omega) (by omega) (by omega), Int.one_mul, pow_emod]

theorem sum_step (s : ByteArray) (a n i x j j' : Int) (k : Nat) (hj : j' = j + 1) (hs : s.size ≤ 140737488351232) (i0 : 0 ≤ i) (i1 : i ≤ s.size) (j0 : 0 ≤ j) (j1 : j < 4) (x0 : 0 ≤ x) (x1 : x < 72057594037927936) :
    hash_Sum.l1 (k + 1) s a n i x j = hash_Sum.l1 k s a n i (x * 256 + bt s (i + j)) j' := by
  subst hj
  have hb := bt_range s (i + j)
  conv => lhs; unfold hash_Sum.l1
  rw [if_pos j1, i64_in (i + j) (by omega) (by omega), i64_in (j + 1) (by omega) (by omega), u64_in (x * 256) (by omega) (by omega), u64_in (bt s (i + j)) (by omega) (by omega)]
  by_cases h : i + j < (s.size : Int)
  · rw [if_pos h, if_pos (by omega), or_8 (x * 256) _ (by omega) (by omega) (by omega) (by omega) (by omega)]
  · rw [if_neg h, bt_out s (i + j) (by omega), Int.add_zero]

theorem sum_word (s : ByteArray) (a n i : Int) (k : Nat) (hs : s.size ≤ 140737488351232) (i0 : 0 ≤ i) (i1 : i ≤ s.size) :
    hash_Sum.l1 (k + 4) s a n i 0 0 = hash_Sum.l1 k s a n i (wordAt s i) 4 := by
  have h0 := bt_range s i
  have h1 := bt_range s (i + 1)
  have h2 := bt_range s (i + 2)
  rw [sum_step s a n i 0 0 1 (k + 3) (by omega) hs i0 i1 (by omega) (by omega) (by omega) (by omega), Int.add_zero, Int.zero_mul, Int.zero_add,
    sum_step s a n i _ 1 2 (k + 2) (by omega) hs i0 i1 (by omega) (by omega) (by omega) (by omega),
    sum_step s a n i _ 2 3 (k + 1) (by omega) hs i0 i1 (by omega) (by omega) (by omega) (by omega),
    sum_step s a n i _ 3 4 k (by omega) hs i0 i1 (by omega) (by omega) (by omega) (by omega)]
  rfl

theorem sum_l0 (s : ByteArray) (a : Int) (hs : s.size ≤ 140737488351232) (a0 : 0 ≤ a) (a1 : a < 18446744073709551616) : ∀ (m k : Nat) (n i : Int), 0 ≤ i → (s.size : Int) ≤ i + 4 * m → i < (s.size : Int) + 4 → (0 < m → i + 4 * m < (s.size : Int) + 4) →
    0 ≤ n → n < 18446744073709551616 → 6 * m + 66 ≤ k →
    hash_Sum.l0 k s a n i = some ((roll s a m n i * a) ^ 17 % 2305843009213693951) := by
  intro m
  induction m with
  | zero =>
    intro k n i i0 i1 i2 i3 n0 n1 hk
    obtain ⟨k, rfl⟩ : ∃ m, k = m + 1 := ⟨k - 1, by omega⟩
    unfold hash_Sum.l0
    rw [if_neg (by omega), mul_spec n a n0 n1 a0 a1]
    simp only [Option.bind_some]
    rw [pow_spec k _ 17 (by omega) (by omega) (by omega) (by omega) (by omega), show (17 : Int).toNat = 17 from rfl, pow_emod]
    rfl
  | succ m ih =>
    intro k n i i0 i1 i2 i3 n0 n1 hk
    obtain ⟨k, rfl⟩ : ∃ m, k = m + 1 := ⟨k - 1, by omega⟩
    obtain ⟨k, rfl⟩ : ∃ m, k = m + 4 := ⟨k - 4, by omega⟩
    have hw := wordAt_range s i
    have i4 : i < (s.size : Int) := by omega
    unfold hash_Sum.l0
    rw [if_pos i4, sum_word s a n i k hs i0 (by omega)]
    obtain ⟨k, rfl⟩ : ∃ m, k = m + 1 := ⟨k - 1, by omega⟩
    unfold hash_Sum.l1
    rw [if_neg (by omega), mul_spec n a n0 n1 a0 a1, u64_in _ (by omega) (by omega)]
    simp only [Option.bind_some]
    rw [add_spec _ _ (by omega) (by omega) (by omega) (by omega), i64_in (i + 4) (by omega) (by omega)]
    simp only [Option.bind_some]
    rw [ih k _ (i + 4) (by omega) (by omega) (by omega) (by omega) (by omega) (by omega) (by omega)]
    simp only [roll]
    have e : (n * a % 2305843009213693951 + (wordAt s i + 1)) % 2305843009213693951 = (n * a + wordAt s i + 1) % 2305843009213693951 := by omega
    rw [e]

theorem sum_spec (k : Nat) (seed : Int) (s : ByteArray) (hs : s.size ≤ 140737488351232) (h0 : 0 ≤ seed) (h1 : seed < 18446744073709551616) (hk : 6 * words s + 66 ≤ k) :
    hash_Sum.f k seed s = some (hsum seed s) := by
  unfold hash_Sum.f
  rw [add_spec seed 2 h0 h1 (by omega) (by omega), u64_in _ (by omega) (by omega)]
  simp only [Option.bind_some]
  have hw : words s = (s.size + 3) / 4 := rfl
  exact sum_l0 s _ hs (by omega) (by omega) (words s) k s.size 0 (by omega) (by omega) (by omega) (by omega) (by omega) (by omega) hk

theorem cell_spec (k : Nat) (seed : Int) (key : ByteArray) (n : Int) (hs : key.size ≤ 140737488351232) (h0 : 0 ≤ seed) (h1 : seed < 18446744073709551616) (hn : n < 9223372036854775808) (hk : 6 * words key + 66 ≤ k) :
    hash_Cell.f k seed key n = some (hcell seed key n) := by
  unfold hash_Cell.f hcell
  by_cases a : n < 1
  · rw [if_pos a, if_pos a]
  · rw [if_neg a, if_neg a, sum_spec k seed key hs h0 h1 hk]
    simp only [Option.bind_some]
    have r := hsum_range seed key
    have r1 := Int.emod_nonneg (hsum seed key) (b := n) (by omega)
    have r2 := Int.emod_lt_of_pos (hsum seed key) (b := n) (by omega)
    rw [u64_in n (by omega) (by omega), if_neg (by omega), Int.tmod_eq_emod_of_nonneg r.1, i64_in _ (by omega) (by omega)]

theorem row_spec (seed i : Int) (h0 : 0 ≤ seed) (h1 : seed < 18446744073709551616) (hi : i < 9223372036854775808) : hash_Row.f seed i = some (hrow seed i) := by
  unfold hash_Row.f hrow hmid
  have e : mx i 0 = if i < 0 then 0 else i := rfl
  rw [e, add_spec seed 3 h0 h1 (by omega) (by omega)]
  generalize hj : (if i < 0 then (0 : Int) else i) = j
  have hj0 : 0 ≤ j ∧ j < 9223372036854775808 := by rw [← hj]; split <;> omega
  simp only [Option.bind_some]
  rw [u64_in j (by omega) (by omega), add_spec j 2 (by omega) (by omega) (by omega) (by omega)]
  simp only [Option.bind_some]
  rw [mul_spec _ _ (by omega) (by omega) (by omega) (by omega)]
  simp only [Option.bind_some]
  rw [add_spec _ 5 (by omega) (by omega) (by omega) (by omega)]
  simp only [Option.bind_some]
  rw [mul_spec _ _ (by omega) (by omega) (by omega) (by omega)]
  rfl

theorem places_l0 (seed hs : Int) (bits : List Bool) (key : ByteArray) (h0 : 0 ≤ seed) (h1 : seed < 18446744073709551616) (hh : hs ≤ 7) (hb : bits.length ≤ 1000000) (hkey : key.size ≤ 1000000) : ∀ (m k j : Nat) (l : List Int), (j : Int) + m = hs → l.length = j → m + 6 * words key + 68 ≤ k →
    bloom_Places.l0 k key l hs j seed hs bits = some (l ++ (List.range' j m).map (fun (i : Nat) => hcell (hrow seed (i : Int)) key bits.length)) := by
  intro m
  induction m with
  | zero =>
    intro k j l hj hl hk
    obtain ⟨k, rfl⟩ : ∃ m, k = m + 1 := ⟨k - 1, by omega⟩
    simp only [bloom_Places.l0]
    rw [if_neg (by omega)]
    simp
  | succ m ih =>
    intro k j l hj hl hk
    obtain ⟨k, rfl⟩ : ∃ m, k = m + 1 := ⟨k - 1, by omega⟩
    have hr := hrow_range seed j
    simp only [bloom_Places.l0]
    rw [if_pos (by omega), row_spec seed j h0 h1 (by omega)]
    simp only [Option.bind_some]
    rw [cell_spec k _ key _ (by omega) hr.1 (by omega) (by omega) (by omega), i64_in ((j : Int) + 1) (by omega) (by omega)]
    simp only [Option.bind_some]
    rw [if_pos (by omega), show (j : Int) + 1 = ((j + 1 : Nat) : Int) by omega, ih k (j + 1) _ (by omega) (by simp [hl]) (by omega)]
    rw [List.range'_succ, List.map_cons, List.append_assoc]
    rfl

theorem places_spec (k : Nat) (seed hs : Int) (bits : List Bool) (key : ByteArray) (h0 : 0 ≤ seed) (h1 : seed < 18446744073709551616) (hb : bits.length ≤ 1000000) (hkey : key.size ≤ 1000000) (hk : 6 * words key + 75 ≤ k) :
    bloom_Places.f k seed hs bits key = some (if rightB hs bits.length then placesOf seed hs bits.length key else []) := by
  unfold bloom_Places.f
  rw [right_spec]
  simp only [Option.bind_some]
  by_cases r : rightB hs bits.length = true
  · rw [if_pos r, if_pos r]
    have r2 := of_decide_eq_true r
    have h := places_l0 seed hs bits key h0 h1 (by omega) hb hkey hs.toNat k 0 [] (by omega) rfl (by omega)
    rw [show ((0 : Nat) : Int) = 0 from rfl] at h
    rw [h]; rfl
  · rw [if_neg r, if_neg r]

theorem clone_spec (l : List Bool) (h : l.length < 140737488355328) : slices_Clone_bool_bool.f l = some l := by
  unfold slices_Clone_bool_bool.f
  simp only [Option.bind_some, List.length_nil, Nat.zero_add, List.nil_append]
  rw [if_pos h]

theorem add_l0 (s hs : Int) (ps : List Int) (hl : ps.length ≤ 1000000) : ∀ (d k i : Nat) (bits : List Bool), ps.length - i = d → i ≤ ps.length → d < k → (∀ p ∈ ps, 0 ≤ p ∧ p < bits.length) →
    bloom_Add.l0 k ps ps.length i s hs bits = some (s, hs, setAll bits (ps.drop i)) := by
  intro d
  induction d with
  | zero =>
    intro k i bits h0 h1 h2 hp
    obtain ⟨k, rfl⟩ : ∃ m, k = m + 1 := ⟨k - 1, by omega⟩
    simp only [bloom_Add.l0]
    rw [if_neg (by omega), List.drop_of_length_le (by omega)]
    rfl
  | succ d ih =>
    intro k i bits h0 h1 h2 hp
    obtain ⟨k, rfl⟩ : ∃ m, k = m + 1 := ⟨k - 1, by omega⟩
    have g : i < ps.length := by omega
    have e : rd ps i = ps[i] := by simp [rd, g]
    have hq := hp ps[i] (List.getElem_mem g)
    simp only [bloom_Add.l0]
    rw [if_pos (by omega), if_pos (by omega), if_pos (by omega), e, if_pos hq.1, if_pos hq.2, i64_in ((i : Int) + 1) (by omega) (by omega), show (i : Int) + 1 = ((i + 1 : Nat) : Int) by omega,
      ih k (i + 1) _ (by omega) (by omega) (by omega) (by simpa using hp), List.drop_eq_getElem_cons g]
    rfl

theorem addf_spec (k : Nat) (seed hs : Int) (bits : List Bool) (key : ByteArray) (h0 : 0 ≤ seed) (h1 : seed < 18446744073709551616) (hb : bits.length ≤ 1000000) (hkey : key.size ≤ 1000000) (hk : 6 * words key + 75 ≤ k) :
    bloom_Add.f k seed hs bits key = some (seed, hs, if rightB hs bits.length then setAll bits (placesOf seed hs bits.length key) else bits) := by
  unfold bloom_Add.f
  rw [clone_spec bits (by omega)]
  simp only [Option.bind_some]
  rw [places_spec k seed hs bits key h0 h1 hb hkey hk]
  simp only [Option.bind_some]
  by_cases r : rightB hs bits.length = true
  · rw [if_pos r, if_pos r]
    have r2 := of_decide_eq_true r
    have hpl := placesOf_length seed hs bits.length key
    have h := add_l0 seed hs (placesOf seed hs bits.length key) (by omega) (placesOf seed hs bits.length key).length k 0 bits (by omega) (by omega) (by omega) (placesOf_range seed hs bits.length key (by omega))
    rw [show ((0 : Nat) : Int) = 0 from rfl, List.drop_zero] at h
    exact h
  · rw [if_neg r, if_neg r]
    obtain ⟨k, rfl⟩ : ∃ m, k = m + 1 := ⟨k - 1, by omega⟩
    simp only [bloom_Add.l0]
    rfl

theorem all_spec (bits : List Bool) (ps : List Int) (hp : ∀ p ∈ ps, 0 ≤ p ∧ p < bits.length) : bloom_Has.all bits ps = some (decide (∀ p ∈ ps, bits.getD p.toNat false = true)) := by
  induction ps with
  | nil => simp [bloom_Has.all]
  | cons p ps ih =>
    have hq := hp p (by simp)
    simp only [bloom_Has.all]
    rw [if_pos hq.1, if_pos hq.2, ih (fun q h => hp q (by simp [h]))]
    have e : rdOf false bits p = bits.getD p.toNat false := rfl
    rw [e]
    by_cases b : bits.getD p.toNat false = true
    · rw [if_pos b]
      exact congrArg some (decide_eq_decide.2 ⟨fun h q hq => by rcases List.mem_cons.1 hq with rfl | hq; exact b; exact h q hq, fun h q hq => h q (by simp [hq])⟩)
    · rw [if_neg b]
      exact congrArg some (decide_eq_false (fun h => b (h p (by simp)))).symm

theorem has_spec (k : Nat) (seed hs : Int) (bits : List Bool) (key : ByteArray) (h0 : 0 ≤ seed) (h1 : seed < 18446744073709551616) (hb : bits.length ≤ 1000000) (hkey : key.size ≤ 1000000) (hk : 6 * words key + 75 ≤ k) :
    bloom_Has.f k seed hs bits key = some (rightB hs bits.length && decide (∀ p ∈ placesOf seed hs bits.length key, bits.getD p.toNat false = true)) := by
  unfold bloom_Has.f
  rw [right_spec]
  simp only [Option.bind_some]
  by_cases r : rightB hs bits.length = true
  · have r2 := of_decide_eq_true r
    rw [if_pos r, places_spec k seed hs bits key h0 h1 hb hkey hk, if_pos r, r]
    simp only [Option.bind_some, Bool.true_and]
    exact all_spec bits _ (placesOf_range seed hs bits.length key (by omega))
  · rw [if_neg r, Bool.eq_false_iff.2 r]; rfl

theorem awake_spec (k : Nat) (hk : 100 ≤ k) : rillmeterlaw10_awake.f k = some true :=
  at_rounds (g := fun k => rillmeterlaw10_awake.f k) rillmeterlaw10_awake.mono hk (by decide +kernel)

theorem rright_spec (s hs : Int) (l : List Bool) : rillmeterref10_Right.f s hs l = some (rightB hs l.length) := by
  unfold rillmeterref10_Right.f rightB
  by_cases a : hs > 0
  · rw [if_pos a]
    by_cases b : hs < 8
    · rw [if_pos b]
      by_cases c : (l.length : Int) > 0
      · rw [if_pos c]; exact congrArg some (decide_eq_decide.2 (by omega))
      · rw [if_neg c]; exact congrArg some (decide_eq_false (by omega)).symm
    · rw [if_neg b]; exact congrArg some (decide_eq_false (by omega)).symm
  · rw [if_neg a]; exact congrArg some (decide_eq_false (by omega)).symm

theorem rmul_l0 (d : Nat) : ∀ (k : Nat) (x n out : Int), 0 ≤ x → x < 2305843009213693951 → 0 ≤ n → n < 2305843009213693951 → n < 2 ^ d → 0 ≤ out → out < 2305843009213693951 → d < k →
    rillmeterref01_Mul.l0 k x n out = some ((out + x * n) % 2305843009213693951) := by
  induction d with
  | zero =>
    intro k x n out x0 x1 n0 n1 nd o0 o1 hk
    obtain ⟨k, rfl⟩ : ∃ m, k = m + 1 := ⟨k - 1, by omega⟩
    have hn : n = 0 := by simp at nd; omega
    simp only [rillmeterref01_Mul.l0]
    rw [if_neg (by omega), hn]
    exact congrArg some (by simp; omega)
  | succ d ih =>
    intro k x n out x0 x1 n0 n1 nd o0 o1 hk
    obtain ⟨k, rfl⟩ : ∃ m, k = m + 1 := ⟨k - 1, by omega⟩
    simp only [rillmeterref01_Mul.l0]
    by_cases hp : n > 0
    · have hd : n / 2 < 2 ^ d := by rw [Int.pow_succ] at nd; omega
      rw [if_pos hp, Int.tmod_eq_emod_of_nonneg n0, Int.tdiv_eq_ediv_of_nonneg n0, u64_in (x + x) (by omega) (by omega), u64_in (n / 2) (by omega) (by omega),
        u64_in (out + x) (by omega) (by omega), Int.tmod_eq_emod_of_nonneg (by omega), Int.tmod_eq_emod_of_nonneg (by omega)]
      split
      · rw [ih k _ (n / 2) _ (by omega) (by omega) (by omega) (by omega) hd (by omega) (by omega) (by omega)]
        have e : n = 2 * (n / 2) + 1 := by omega
        refine congrArg some ?_
        generalize n / 2 = m at *
        subst e
        rw [Int.add_emod, Int.emod_emod, Int.mul_emod, Int.emod_emod, ← Int.mul_emod, ← Int.add_emod]
        exact congrArg (· % _) (by grind)
      · rw [ih k _ (n / 2) _ (by omega) (by omega) (by omega) (by omega) hd o0 o1 (by omega)]
        have e : n = 2 * (n / 2) := by omega
        refine congrArg some ?_
        generalize n / 2 = m at *
        subst e
        rw [Int.add_emod, Int.mul_emod, Int.emod_emod, ← Int.mul_emod, ← Int.add_emod]
        exact congrArg (· % _) (by grind)
    · have hn : n = 0 := by omega
      rw [if_neg hp, hn]
      exact congrArg some (by simp; omega)

theorem rmul_spec (k : Nat) (a b : Int) (h0 : 0 ≤ a) (g0 : 0 ≤ b) (hk : 65 ≤ k) :
    rillmeterref01_Mul.f k a b = some (a * b % 2305843009213693951) := by
  unfold rillmeterref01_Mul.f
  rw [Int.tmod_eq_emod_of_nonneg h0, Int.tmod_eq_emod_of_nonneg g0]
  rw [rmul_l0 61 k _ _ 0 (by omega) (by omega) (by omega) (by omega) (by omega) (by omega) (by omega) (by omega), Int.zero_add, ← Int.mul_emod]

theorem radd_spec (a b : Int) (h0 : 0 ≤ a) (g0 : 0 ≤ b) : rillmeterref01_Add.f a b = some ((a + b) % 2305843009213693951) := by
  unfold rillmeterref01_Add.f
  rw [Int.tmod_eq_emod_of_nonneg h0, Int.tmod_eq_emod_of_nonneg g0, u64_in _ (by omega) (by omega), Int.tmod_eq_emod_of_nonneg (by omega)]
  exact congrArg some (by omega)

theorem rpow_rec (d : Nat) : ∀ (k : Nat) (a n : Int), 0 ≤ a → a < 18446744073709551616 → 0 ≤ n → n < 18446744073709551616 → n < 2 ^ d → 66 + d ≤ k →
    rillmeterref01_Pow.f k a n = some (a ^ n.toNat % 2305843009213693951) := by
  induction d with
  | zero =>
    intro k a n x0 x1 n0 n1 nd hk
    obtain ⟨k, rfl⟩ : ∃ m, k = m + 1 := ⟨k - 1, by omega⟩
    have hn : n = 0 := by simp at nd; omega
    simp only [rillmeterref01_Pow.f]
    rw [if_pos hn, hn]
    exact congrArg some (by simp)
  | succ d ih =>
    intro k a n x0 x1 n0 n1 nd hk
    obtain ⟨k, rfl⟩ : ∃ m, k = m + 1 := ⟨k - 1, by omega⟩
    simp only [rillmeterref01_Pow.f]
    by_cases hp : n = 0
    · rw [if_pos hp, hp]
      exact congrArg some (by simp)
    · have hd : n / 2 < 2 ^ d := by rw [Int.pow_succ] at nd; omega
      rw [if_neg hp, Int.tmod_eq_emod_of_nonneg n0, Int.tdiv_eq_ediv_of_nonneg n0, u64_in (n / 2) (by omega) (by omega)]
      rw [ih k a (n / 2) x0 x1 (by omega) (by omega) hd (by omega)]
      simp only [Option.bind_some]
      rw [rmul_spec k _ _ (by omega) (by omega) (by omega)]
      simp only [Option.bind_some]
      have e2 : a ^ (n / 2).toNat % 2305843009213693951 * (a ^ (n / 2).toNat % 2305843009213693951) % 2305843009213693951 = a ^ (2 * (n.toNat / 2)) % 2305843009213693951 := by
        rw [← Int.mul_emod, ← Int.pow_add, show (n / 2).toNat + (n / 2).toNat = 2 * (n.toNat / 2) by omega]
      rw [e2]
      split
      · rw [rmul_spec k _ _ (by omega) x0 (by omega)]
        have e : n.toNat = 2 * (n.toNat / 2) + 1 := by omega
        refine congrArg some ?_
        rw [Int.mul_emod, Int.emod_emod, ← Int.mul_emod]
        conv => rhs; rw [e, Int.pow_succ]
      · have e : n.toNat = 2 * (n.toNat / 2) := by omega
        refine congrArg some ?_
        conv => rhs; rw [e]

theorem rpow_spec (k : Nat) (a n : Int) (h0 : 0 ≤ a) (h1 : a < 18446744073709551616) (g0 : 0 ≤ n) (g1 : n < 18446744073709551616) (hk : 130 ≤ k) :
    rillmeterref01_Pow.f k a n = some (a ^ n.toNat % 2305843009213693951) :=
  rpow_rec 64 k a n h0 h1 g0 g1 (by omega) (by omega)

theorem rof_spec (a : Int) (h0 : 0 ≤ a) : rillmeterref01_Of.f a = some (a % 2305843009213693951) := by
  unfold rillmeterref01_Of.f
  rw [Int.tmod_eq_emod_of_nonneg h0]

theorem strOf_nought : strOfNums [0] = (⟨#[0]⟩ : ByteArray) := by rfl

theorem rwords_l1 (s : ByteArray) (hs : s.size ≤ 1000100) (h4 : s.size % 4 = 0) : ∀ (m k j : Nat) (l : List Int), j + m = words s → l.length = j → m < k →
    rillmeterref02_words.l1 k s l (4 * j) = some (l ++ (List.range' j m).map (fun (i : Nat) => wordAt s (4 * (i : Int)))) := by
  intro m
  induction m with
  | zero =>
    intro k j l h0 hl hk
    obtain ⟨k, rfl⟩ : ∃ m, k = m + 1 := ⟨k - 1, by omega⟩
    unfold words at h0
    simp only [rillmeterref02_words.l1]
    rw [if_neg (by omega)]
    simp
  | succ m ih =>
    intro k j l h0 hl hk
    obtain ⟨k, rfl⟩ : ∃ m, k = m + 1 := ⟨k - 1, by omega⟩
    have hw : words s = (s.size + 3) / 4 := rfl
    have b0 := bt_range s (4 * j)
    have b1 := bt_range s (4 * j + 1)
    have b2 := bt_range s (4 * j + 2)
    have b3 := bt_range s (4 * j + 3)
    simp only [rillmeterref02_words.l1]
    rw [i64_in (4 * (j : Int) + 1) (by omega) (by omega), i64_in (4 * (j : Int) + 2) (by omega) (by omega), i64_in (4 * (j : Int) + 3) (by omega) (by omega), i64_in (4 * (j : Int) + 4) (by omega) (by omega)]
    rw [if_pos (by omega), if_pos (by omega), if_pos (by omega), if_pos (by omega), if_pos (by omega), if_pos (by omega), if_pos (by omega), if_pos (by omega), if_pos (by omega)]
    rw [u64_in (bt s (4 * j)) (by omega) (by omega), u64_in (bt s (4 * j + 1)) (by omega) (by omega), u64_in (bt s (4 * j + 2)) (by omega) (by omega), u64_in (bt s (4 * j + 3)) (by omega) (by omega),
      u64_in (bt s (4 * j) * 16777216) (by omega) (by omega), u64_in (bt s (4 * j + 1) * 65536) (by omega) (by omega), u64_in (bt s (4 * j + 2) * 256) (by omega) (by omega),
      u64_in (bt s (4 * j) * 16777216 + bt s (4 * j + 1) * 65536) (by omega) (by omega), u64_in (_ + bt s (4 * j + 2) * 256) (by omega) (by omega), u64_in (_ + bt s (4 * j + 3)) (by omega) (by omega)]
    rw [show 4 * (j : Int) + 4 = 4 * ((j + 1 : Nat) : Int) by omega, ih k (j + 1) _ (by omega) (by simp [hl]) (by omega)]
    rw [List.range'_succ, List.map_cons, List.append_assoc]
    have e : bt s (4 * j) * 16777216 + bt s (4 * j + 1) * 65536 + bt s (4 * j + 2) * 256 + bt s (4 * j + 3) = wordAt s (4 * j) := by unfold wordAt; omega
    rw [e]
    rfl

theorem words_push (s : ByteArray) (h : s.size % 4 ≠ 0) : words (s ++ (⟨#[0]⟩ : ByteArray)) = words s := by
  have hsz : (s ++ (⟨#[0]⟩ : ByteArray)).size = s.size + 1 := by rw [ByteArray.size_append]; rfl
  unfold words
  omega

theorem rwords_l0 : ∀ (d k : Nat) (s : ByteArray), s.size + d ≤ 1000050 → (4 - s.size % 4) % 4 = d → d ≤ 3 → words s + d + 2 ≤ k →
    rillmeterref02_words.l0 k s = some ((List.range' 0 (words s)).map (fun (i : Nat) => wordAt s (4 * (i : Int)))) := by
  intro d
  induction d with
  | zero =>
    intro k s hs hd _ hk
    obtain ⟨k, rfl⟩ : ∃ m, k = m + 1 := ⟨k - 1, by omega⟩
    simp only [rillmeterref02_words.l0]
    rw [if_pos (by omega)]
    have h := rwords_l1 s (by omega) (by omega) (words s) k 0 [] (by omega) rfl (by omega)
    rw [show (4 * ((0 : Nat) : Int)) = 0 from rfl] at h
    rw [h]; simp
  | succ d ih =>
    intro k s hs hd h3 hk
    obtain ⟨k, rfl⟩ : ∃ m, k = m + 1 := ⟨k - 1, by omega⟩
    have hsz : (s ++ (⟨#[0]⟩ : ByteArray)).size = s.size + 1 := by rw [ByteArray.size_append]; rfl
    have h1 : (⟨#[0]⟩ : ByteArray).size = 1 := rfl
    simp only [rillmeterref02_words.l0]
    rw [if_neg (by omega)]
    simp only [Option.bind_some, strOf_nought]
    rw [h1, if_pos (by omega)]
    by_cases hd0 : d = 0
    · subst hd0
      rw [ih k (s ++ (⟨#[0]⟩ : ByteArray)) (by omega) (by omega) (by omega) (by rw [words_push s (by omega)]; omega), words_push s (by omega)]
      simp only [wordAt_push]
    · rw [ih k (s ++ (⟨#[0]⟩ : ByteArray)) (by omega) (by omega) (by omega) (by rw [words_push s (by omega)]; omega), words_push s (by omega)]
      simp only [wordAt_push]

theorem rwords_spec (k : Nat) (s : ByteArray) (hs : s.size ≤ 1000000) (hk : words s + 5 ≤ k) :
    rillmeterref02_words.f k s = some ((List.range' 0 (words s)).map (fun (i : Nat) => wordAt s (4 * (i : Int)))) :=
  rwords_l0 ((4 - s.size % 4) % 4) k s (by omega) rfl (by omega) (by omega)

theorem rsum_l0 (s : ByteArray) (a : Int) (a0 : 0 ≤ a) (a1 : a < 18446744073709551616) (hW : words s ≤ 1000000) : ∀ (m k j : Nat) (n : Int), j + m = words s → 0 ≤ n → n < 2305843009213693951 → m + 131 ≤ k →
    rillmeterref02_Sum.l0 k a n ((List.range' 0 (words s)).map (fun (i : Nat) => wordAt s (4 * (i : Int)))) j = some ((roll s a m n (4 * j) * a) ^ 17 % 2305843009213693951) := by
  intro m
  induction m with
  | zero =>
    intro k j n hj n0 n1 hk
    obtain ⟨k, rfl⟩ : ∃ m, k = m + 1 := ⟨k - 1, by omega⟩
    simp only [rillmeterref02_Sum.l0]
    rw [if_neg (by simp; omega), rmul_spec k a n a0 n0 (by omega)]
    simp only [Option.bind_some]
    rw [rpow_spec k _ 17 (by omega) (by omega) (by omega) (by omega) (by omega), show (17 : Int).toNat = 17 from rfl, pow_emod, Int.mul_comm a n]
    rfl
  | succ m ih =>
    intro k j n hj n0 n1 hk
    obtain ⟨k, rfl⟩ : ∃ m, k = m + 1 := ⟨k - 1, by omega⟩
    have hw := wordAt_range s (4 * j)
    have e : rd ((List.range' 0 (words s)).map (fun (i : Nat) => wordAt s (4 * (i : Int)))) j = wordAt s (4 * j) := by
      simp [rd, show j < words s by omega]
    simp only [rillmeterref02_Sum.l0]
    rw [if_pos (by simp; omega), rmul_spec k a n a0 n0 (by omega), e]
    simp only [Option.bind_some]
    rw [if_pos (by omega), radd_spec _ 1 hw.1 (by omega)]
    simp only [Option.bind_some]
    rw [radd_spec _ _ (by omega) (by omega), i64_in ((j : Int) + 1) (by omega) (by omega)]
    simp only [Option.bind_some]
    rw [show (j : Int) + 1 = ((j + 1 : Nat) : Int) by omega, ih k (j + 1) _ (by omega) (by omega) (by omega) (by omega)]
    simp only [roll]
    rw [show (4 * ((j + 1 : Nat) : Int)) = 4 * (j : Int) + 4 by omega, Int.mul_comm a n]
    have e2 : (n * a % 2305843009213693951 + (wordAt s (4 * j) + 1) % 2305843009213693951) % 2305843009213693951 = (n * a + wordAt s (4 * j) + 1) % 2305843009213693951 := by omega
    rw [e2]

theorem rsum_spec (k : Nat) (seed : Int) (s : ByteArray) (hs : s.size ≤ 1000000) (h0 : 0 ≤ seed) (hk : words s + 135 ≤ k) :
    rillmeterref02_Sum.f k seed s = some (hsum seed s) := by
  unfold rillmeterref02_Sum.f hsum
  have hw : words s = (s.size + 3) / 4 := rfl
  rw [radd_spec seed 2 h0 (by omega), u64_in _ (by omega) (by omega), rof_spec _ (by omega), rwords_spec k s hs (by omega)]
  simp only [Option.bind_some]
  have h := rsum_l0 s ((seed + 2) % 2305843009213693951) (by omega) (by omega) (by omega) (words s) k 0 ((s.size : Int) % 2305843009213693951) (by omega) (by omega) (by omega) (by omega)
  rw [show ((0 : Nat) : Int) = 0 from rfl, show (4 * (0 : Int)) = 0 from rfl, show (s.size : Int) % 2305843009213693951 = s.size by omega] at h
  rw [show (s.size : Int) % 2305843009213693951 = s.size by omega]
  exact h

theorem rcell_spec (k : Nat) (seed : Int) (key : ByteArray) (n : Int) (hs : key.size ≤ 1000000) (h0 : 0 ≤ seed) (hn : n < 9223372036854775808) (hk : words key + 135 ≤ k) :
    rillmeterref02_Cell.f k seed key n = some (hcell seed key n) := by
  unfold rillmeterref02_Cell.f hcell
  by_cases a : n < 1
  · rw [if_pos a, if_pos a]
  · rw [if_neg a, if_neg a, rsum_spec k seed key hs h0 hk]
    simp only [Option.bind_some]
    have r := hsum_range seed key
    have r1 := Int.emod_nonneg (hsum seed key) (b := n) (by omega)
    have r2 := Int.emod_lt_of_pos (hsum seed key) (b := n) (by omega)
    rw [u64_in n (by omega) (by omega), if_neg (by omega), Int.tmod_eq_emod_of_nonneg r.1, i64_in _ (by omega) (by omega)]

theorem rrow_j0 (k : Nat) (seed i : Int) (h0 : 0 ≤ seed) (hi0 : 0 ≤ i) (hi : i < 9223372036854775808) (hk : 132 ≤ k) : rillmeterref02_Row.j0 k seed i = some (hrow seed i) := by
  obtain ⟨k, rfl⟩ : ∃ m, k = m + 1 := ⟨k - 1, by omega⟩
  simp only [rillmeterref02_Row.j0]
  unfold hrow hmid
  rw [if_neg (by omega), u64_in i (by omega) (by omega), radd_spec seed 3 h0 (by omega), radd_spec i 2 hi0 (by omega)]
  simp only [Option.bind_some]
  rw [rmul_spec k _ _ (by omega) (by omega) (by omega)]
  simp only [Option.bind_some]
  rw [radd_spec _ 5 (by omega) (by omega)]
  simp only [Option.bind_some]
  rw [rpow_spec k _ 2 (by omega) (by omega) (by omega) (by omega) (by omega), show (2 : Int).toNat = 2 from rfl]
  simp only [Option.bind_some]
  rw [show ∀ x : Int, x ^ 2 = x * x from fun x => by rw [Int.pow_succ, Int.pow_succ, Int.pow_zero, Int.one_mul]]

theorem rrow_spec (k : Nat) (seed i : Int) (h0 : 0 ≤ seed) (hi : i < 9223372036854775808) (hk : 132 ≤ k) : rillmeterref02_Row.f k seed i = some (hrow seed i) := by
  unfold rillmeterref02_Row.f
  by_cases a : i < 0
  · rw [if_pos a, rrow_j0 k seed 0 h0 (by omega) (by omega) hk]
    unfold hrow hmid
    rw [if_pos a, if_neg (by omega)]
  · rw [if_neg a, rrow_j0 k seed i h0 (by omega) hi hk]

theorem at_l0 (seed hs : Int) (bits : List Bool) (key : ByteArray) (h0 : 0 ≤ seed) (h1 : seed < 18446744073709551616) (hh : hs ≤ 1000) (hb : bits.length ≤ 1000000) (hb1 : 1 ≤ bits.length) (hkey : key.size ≤ 1000000) : ∀ (m k j : Nat) (on : List Bool), (j : Int) + m = hs → on.length = bits.length → m + words key + 140 ≤ k →
    rillmeterref10_at.l0 k key on j seed hs bits = some (setAll on ((List.range' j m).map (fun (i : Nat) => hcell (hrow seed (i : Int)) key bits.length))) := by
  intro m
  induction m with
  | zero =>
    intro k j on hj hl hk
    obtain ⟨k, rfl⟩ : ∃ m, k = m + 1 := ⟨k - 1, by omega⟩
    simp only [rillmeterref10_at.l0]
    rw [if_neg (by omega)]
    rfl
  | succ m ih =>
    intro k j on hj hl hk
    obtain ⟨k, rfl⟩ : ∃ m, k = m + 1 := ⟨k - 1, by omega⟩
    have hr := hrow_range seed j
    have hc := hcell_range (hrow seed j) key bits.length (by omega)
    simp only [rillmeterref10_at.l0]
    rw [if_pos (by omega), rrow_spec k seed j h0 (by omega) (by omega)]
    simp only [Option.bind_some]
    rw [rcell_spec k _ key _ (by omega) hr.1 (by omega) (by omega), i64_in ((j : Int) + 1) (by omega) (by omega)]
    simp only [Option.bind_some]
    rw [if_pos hc.1, if_pos (by omega), show (j : Int) + 1 = ((j + 1 : Nat) : Int) by omega, ih k (j + 1) _ (by omega) (by simpa using hl) (by omega)]
    rw [List.range'_succ, List.map_cons]
    rfl

theorem at_spec (k : Nat) (seed hs : Int) (bits : List Bool) (key : ByteArray) (h0 : 0 ≤ seed) (h1 : seed < 18446744073709551616) (hh : hs ≤ 1000) (hh0 : 0 ≤ hs) (hb : bits.length ≤ 1000000) (hb1 : 1 ≤ bits.length) (hkey : key.size ≤ 1000000) (hk : words key + 1200 ≤ k) :
    rillmeterref10_at.f k seed hs bits key = some (setAll (List.replicate bits.length false) (placesOf seed hs bits.length key)) := by
  unfold rillmeterref10_at.f
  rw [if_pos (by omega), if_pos (by omega)]
  have h := at_l0 seed hs bits key h0 h1 hh hb hb1 hkey hs.toNat k 0 (List.replicate bits.length false) (by omega) (by simp) (by omega)
  rw [show (((bits.length : Int)).toNat) = bits.length by omega]
  exact h

theorem raddf_l0 (s hs : Int) (bits on : List Bool) (hl : on.length = bits.length) (hb : bits.length ≤ 1000000) : ∀ (d k i : Nat) (acc : List Bool), bits.length - i = d → i ≤ bits.length → acc.length = i → d < k →
    rillmeterref10_Add.l0 k acc on i s hs bits = some (s, hs, acc ++ List.zipWith (fun a b => a || b) (bits.drop i) (on.drop i)) := by
  intro d
  induction d with
  | zero =>
    intro k i acc h0 h1 ha h2
    obtain ⟨k, rfl⟩ : ∃ m, k = m + 1 := ⟨k - 1, by omega⟩
    simp only [rillmeterref10_Add.l0]
    rw [if_neg (by omega), List.drop_of_length_le (by omega : bits.length ≤ i)]
    simp
  | succ d ih =>
    intro k i acc h0 h1 ha h2
    obtain ⟨k, rfl⟩ : ∃ m, k = m + 1 := ⟨k - 1, by omega⟩
    have g : i < bits.length := by omega
    have g' : i < on.length := by omega
    simp only [rillmeterref10_Add.l0]
    rw [if_pos (by omega), if_pos (by omega), rdOf_eq false bits i g, rdOf_eq false on i g', i64_in ((i : Int) + 1) (by omega) (by omega), show (i : Int) + 1 = ((i + 1 : Nat) : Int) by omega]
    have e1 := List.drop_eq_getElem_cons g
    have e2 := List.drop_eq_getElem_cons g'
    by_cases c : bits[i] = true
    · rw [if_pos c, if_pos (by omega), ih k (i + 1) _ (by omega) (by omega) (by simp [ha]) (by omega), e1, e2, List.zipWith_cons_cons, c, List.append_assoc]
      rfl
    · rw [if_neg c, if_pos (by omega), if_pos (by omega), ih k (i + 1) _ (by omega) (by omega) (by simp [ha]) (by omega), e1, e2, List.zipWith_cons_cons, Bool.eq_false_iff.2 c, List.append_assoc]
      rfl

theorem raddf_spec (k : Nat) (seed hs : Int) (bits : List Bool) (key : ByteArray) (h0 : 0 ≤ seed) (h1 : seed < 18446744073709551616) (hh : hs ≤ 1000) (hh0 : 0 ≤ hs) (hb : bits.length ≤ 1000000) (hb1 : 1 ≤ bits.length) (hkey : key.size ≤ 1000000) (hk : words key + 1200 ≤ k) (hk2 : bits.length + 1 ≤ k) :
    rillmeterref10_Add.f k seed hs bits key = some (seed, hs, setAll bits (placesOf seed hs bits.length key)) := by
  unfold rillmeterref10_Add.f
  rw [at_spec k seed hs bits key h0 h1 hh hh0 hb hb1 hkey hk]
  simp only [Option.bind_some]
  have h := raddf_l0 seed hs bits (setAll (List.replicate bits.length false) (placesOf seed hs bits.length key)) (by simp [setAll_length]) hb bits.length k 0 [] (by omega) (by omega) rfl (by omega)
  rw [show ((0 : Nat) : Int) = 0 from rfl, List.drop_zero, List.drop_zero, List.nil_append, zip_setAll bits _ (fun p hp => (placesOf_range seed hs bits.length key hb1 p hp).1)] at h
  exact h

theorem rhas_l0 (s hs : Int) (bits on : List Bool) (hl : on.length = bits.length) (hb : bits.length ≤ 1000000) : ∀ (d k i : Nat), bits.length - i = d → i ≤ bits.length → d < k →
    rillmeterref10_Has.l0 k on i s hs bits = some (decide (∀ j, j < bits.length → i ≤ j → (bits.getD j false || !on.getD j false) = true)) := by
  intro d
  induction d with
  | zero =>
    intro k i h0 h1 h2
    obtain ⟨k, rfl⟩ : ∃ m, k = m + 1 := ⟨k - 1, by omega⟩
    simp only [rillmeterref10_Has.l0]
    rw [if_neg (by omega)]
    exact congrArg some (decide_eq_true (fun j h h' => by omega)).symm
  | succ d ih =>
    intro k i h0 h1 h2
    obtain ⟨k, rfl⟩ : ∃ m, k = m + 1 := ⟨k - 1, by omega⟩
    have g : i < bits.length := by omega
    have g' : i < on.length := by omega
    have eb : bits.getD i false = bits[i] := by simp [List.getD_eq_getElem?_getD, g]
    have eo : on.getD i false = on[i] := by simp [List.getD_eq_getElem?_getD, g']
    have step : (bits[i] || !on[i]) = true → rillmeterref10_Has.l0 k on ((i + 1 : Nat) : Int) s hs bits = some (decide (∀ j, j < bits.length → i ≤ j → (bits.getD j false || !on.getD j false) = true)) := by
      intro hc
      rw [ih k (i + 1) (by omega) (by omega) (by omega)]
      refine congrArg some (decide_eq_decide.2 ⟨fun h j hj hij => ?_, fun h j hj hij => h j hj (by omega)⟩)
      by_cases e : j = i
      · subst e; rw [eb, eo]; exact hc
      · exact h j hj (by omega)
    simp only [rillmeterref10_Has.l0]
    rw [if_pos (by omega), if_pos (by omega), rdOf_eq false bits i g, rdOf_eq false on i g', i64_in ((i : Int) + 1) (by omega) (by omega), show (i : Int) + 1 = ((i + 1 : Nat) : Int) by omega]
    by_cases c : bits[i] = true
    · rw [if_pos c]; exact step (by rw [c]; rfl)
    · rw [if_neg c, if_pos (by omega)]
      by_cases o : on[i] = true
      · rw [if_pos o]
        refine congrArg some (decide_eq_false (fun h => ?_)).symm
        have h3 := h i g (Nat.le_refl _)
        rw [eb, eo, o, Bool.eq_false_iff.2 c] at h3
        exact absurd h3 (by decide)
      · rw [if_neg o]; exact step (by rw [Bool.eq_false_iff.2 o]; simp)

theorem rhas_spec (k : Nat) (seed hs : Int) (bits : List Bool) (key : ByteArray) (h0 : 0 ≤ seed) (h1 : seed < 18446744073709551616) (hh : hs ≤ 1000) (hh0 : 0 ≤ hs) (hb : bits.length ≤ 1000000) (hb1 : 1 ≤ bits.length) (hkey : key.size ≤ 1000000) (hk : words key + 1200 ≤ k) (hk2 : bits.length + 1 ≤ k) :
    rillmeterref10_Has.f k seed hs bits key = some (decide (∀ p ∈ placesOf seed hs bits.length key, bits.getD p.toNat false = true)) := by
  unfold rillmeterref10_Has.f
  rw [at_spec k seed hs bits key h0 h1 hh hh0 hb hb1 hkey hk]
  simp only [Option.bind_some]
  have h := rhas_l0 seed hs bits (setAll (List.replicate bits.length false) (placesOf seed hs bits.length key)) (by simp [setAll_length]) hb bits.length k 0 (by omega) (by omega) (by omega)
  rw [show ((0 : Nat) : Int) = 0 from rfl] at h
  rw [h]
  have z := zip_has bits (placesOf seed hs bits.length key) (placesOf_range seed hs bits.length key hb1)
  exact congrArg some (decide_eq_decide.2 ⟨fun h => z.1 (fun i hi => h i hi (Nat.zero_le _)), fun h j hj _ => z.2 h j hj⟩)

theorem turns_l1 (key : ByteArray) (s hs : Int) (bits : List Bool) (hs0 : 0 ≤ s) (hs1 : s < 18446744073709551616) (r : rightB hs bits.length = true) (hkey : key.size ≤ 100) : ∀ (d k i : Nat), (placesOf s hs bits.length key).length - i = d → i ≤ (placesOf s hs bits.length key).length → d + 2000 ≤ k →
    rillmeterlaw10_BloomTurns.l1 k key (bits.count true : Nat) (placesOf s hs bits.length key) (placesOf s hs bits.length key).length i s hs bits s hs bits s hs (setAll bits (placesOf s hs bits.length key)) = some true := by
  have r2 := of_decide_eq_true r
  have hpl := placesOf_length s hs bits.length key
  have hw := words_le key 25 (by omega)
  intro d
  induction d with
  | zero =>
    intro k i h0 h1 h2
    obtain ⟨k, rfl⟩ : ∃ m, k = m + 1 := ⟨k - 1, by omega⟩
    simp only [rillmeterlaw10_BloomTurns.l1]
    rw [if_neg (by omega), right_spec, r]
    simp only [Option.bind_some, if_true, rillmeterlaw10_ref.f]
    rw [raddf_spec k s hs bits key hs0 hs1 (by omega) (by omega) (by omega) (by omega) (by omega) (by omega) (by omega)]
    simp only [Option.bind_some]
    rw [equal_spec _ _ _ _ _ _ _ (by rw [setAll_length]; omega) (by rw [setAll_length]; omega), decide_eq_true ⟨rfl, rfl, rfl⟩]
    simp only [Option.bind_some, if_true]
    rw [has_spec k s hs bits key hs0 hs1 (by omega) (by omega) (by omega), rhas_spec k s hs bits key hs0 hs1 (by omega) (by omega) (by omega) (by omega) (by omega) (by omega) (by omega), r, set_spec k s hs bits (by omega) (by omega), awake_spec k (by omega), r]
    simp
  | succ d ih =>
    intro k i h0 h1 h2
    obtain ⟨k, rfl⟩ : ∃ m, k = m + 1 := ⟨k - 1, by omega⟩
    have g : i < (placesOf s hs bits.length key).length := by omega
    have e : rd (placesOf s hs bits.length key) i = hcell (hrow s i) key bits.length := by
      rw [rd_eq _ i g]
      simp [placesOf]
    have hr := hrow_range s i
    simp only [rillmeterlaw10_BloomTurns.l1]
    rw [if_pos (by omega), if_pos (by omega), if_pos (by omega), rrow_spec k s i hs0 (by omega) (by omega)]
    simp only [Option.bind_some]
    rw [rcell_spec k _ key _ (by omega) hr.1 (by omega) (by omega), e, i64_in ((i : Int) + 1) (by omega) (by omega)]
    simp only [Option.bind_some]
    rw [if_pos trivial, show (i : Int) + 1 = ((i + 1 : Nat) : Int) by omega]
    exact ih k (i + 1) (by omega) (by omega) (by omega)

theorem turns_l0 (key : ByteArray) (s hs : Int) (bits : List Bool) (hs0 : 0 ≤ s) (hs1 : s < 18446744073709551616) (hb : bits.length ≤ 300) (hkey : key.size ≤ 100) (ps : List Int) (bits2 : List Bool)
    (hps : ps = if rightB hs bits.length then placesOf s hs bits.length key else []) (hb2 : bits2 = if rightB hs bits.length then setAll bits (placesOf s hs bits.length key) else bits) : ∀ (d k i n : Nat), bits.length - i = d → i ≤ bits.length → n + (bits.drop i).count true = bits.count true → d + 2200 ≤ k →
    rillmeterlaw10_BloomTurns.l0 k key ps n bits bits.length i s hs bits s hs bits s hs bits2 = some true := by
  have hw := words_le key 25 (by omega)
  have hcb : bits.count true ≤ bits.length := List.count_le_length
  intro d
  induction d with
  | zero =>
    intro k i n h0 h1 hn h2
    obtain ⟨k, rfl⟩ : ∃ m, k = m + 1 := ⟨k - 1, by omega⟩
    rw [List.drop_of_length_le (by omega)] at hn
    have hn2 : n = bits.count true := by simpa using hn
    simp only [rillmeterlaw10_BloomTurns.l0]
    rw [if_neg (by omega), rright_spec]
    simp only [Option.bind_some]
    by_cases r : rightB hs bits.length = true
    · have r2 := of_decide_eq_true r
      have hpl := placesOf_length s hs bits.length key
      rw [if_pos r] at hps hb2
      subst hps hb2 hn2
      rw [if_pos r, if_pos (by omega)]
      have h := turns_l1 key s hs bits hs0 hs1 r hkey (placesOf s hs bits.length key).length k 0 (by omega) (by omega) (by omega)
      exact h
    · rw [if_neg r] at hps hb2
      subst hps hb2
      rw [if_neg r, right_spec]
      simp only [Option.bind_some, rillmeterlaw10_ref.f]
      rw [if_neg r, equal_spec _ _ _ _ _ _ _ (by omega) (by omega), decide_eq_true ⟨rfl, rfl, rfl⟩]
      simp only [Option.bind_some, if_true]
      rw [has_spec k s hs bits2 key hs0 hs1 (by omega) (by omega) (by omega), set_spec k s hs bits2 (by omega) (by omega), awake_spec k (by omega), Bool.eq_false_iff.2 r]
      simp
  | succ d ih =>
    intro k i n h0 h1 hn h2
    obtain ⟨k, rfl⟩ : ∃ m, k = m + 1 := ⟨k - 1, by omega⟩
    have g : i < bits.length := by omega
    rw [List.drop_eq_getElem_cons g] at hn
    have hc := List.count_le_length (a := true) (l := bits.drop (i + 1))
    simp only [rillmeterlaw10_BloomTurns.l0]
    rw [if_pos (by omega), if_pos (by omega), if_pos (by omega), rdOf_eq false bits i g, i64_in ((i : Int) + 1) (by omega) (by omega), show (i : Int) + 1 = ((i + 1 : Nat) : Int) by omega]
    by_cases c : bits[i] = true
    · rw [c, List.count_cons_self] at hn
      rw [if_pos c, i64_in ((n : Int) + 1) (by omega) (by omega), show (n : Int) + 1 = ((n + 1 : Nat) : Int) by omega]
      exact ih k (i + 1) (n + 1) (by omega) (by omega) (by omega) (by omega)
    · rw [List.count_cons_of_ne (by simpa using c)] at hn
      rw [if_neg c]
      exact ih k (i + 1) n (by omega) (by omega) (by omega) (by omega)

theorem BloomTurns : rillmeterlaw10_BloomTurns.Pure := by
  intro s hs bits key hs0 _ _ _
  have hs0 := u64_wf hs0
  refine ⟨4000, ?_⟩
  generalize hK : 4000 = K
  obtain ⟨k, rfl⟩ : ∃ m, K = m + 1 := ⟨K - 1, by omega⟩
  unfold rillmeterlaw10_BloomTurns.f
  have hend : rillmeterlaw10_BloomTurns.j0 (k + 1) key true s hs bits = some true := by
    simp only [rillmeterlaw10_BloomTurns.j0, if_true]
    rw [awake_spec k (by omega)]; rfl
  by_cases a : (bits.length : Int) > 300
  · rw [if_pos a]; exact hend
  · rw [if_neg a]
    by_cases b : (key.size : Int) > 100
    · rw [if_pos b]; exact hend
    · rw [if_neg b]
      by_cases c : hs > 100
      · rw [decide_eq_true c]; exact hend
      · rw [decide_eq_false c]
        have hw := words_le key 25 (by omega)
        simp only [rillmeterlaw10_BloomTurns.j0, rillmeterlaw10_ref.f]
        rw [if_neg (by decide), addf_spec k s hs bits key hs0.1 hs0.2 (by omega) (by omega) (by omega), places_spec k s hs bits key hs0.1 hs0.2 (by omega) (by omega) (by omega)]
        simp only [Option.bind_some]
        have h := turns_l0 key s hs bits hs0.1 hs0.2 (by omega) (by omega) _ _ rfl rfl bits.length k 0 0 (by omega) (by omega) (by simp) (by omega)
        exact h

end Go.Proofs.Ytmlcafnnhpfpaaa.Pure
