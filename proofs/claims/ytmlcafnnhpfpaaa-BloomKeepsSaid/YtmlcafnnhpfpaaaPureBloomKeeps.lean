/- A filter has each key that was added, whatever came behind; the order does not matter; two filters merged are one to which all was added. No condition beyond the kinds of the arguments. -/
import Derived.Test.YtmlcafnnhpfpaaaPBloomKeepsy
import Derived.Test.YtmlcafnnhpfpaaaBits
import Derived.Test.YtmlcafnnhpfpaaaNum
import Derived.Test.YtmlcafnnhpfpaaaHash
import Derived.Test.YtmlcafnnhpfpaaaBloom
import Derived.Test.YtmlcafnnhpfpaaaEvs
namespace Go.Proofs.Ytmlcafnnhpfpaaa.Pure
open Go.RowKit Go.Proofs.Ytmlcafnnhpfpaaa.PBloomKeeps Go.Proofs.YtmlcafnnhpfpaaaW.PrintWords Go.Proofs.YtmlcafnnhpfpaaaW.PrintLast Go.Proofs.Ytmlcafnnhpfpaaa.Bits Go.Proofs.Ytmlcafnnhpfpaaa.Num Go.Proofs.Ytmlcafnnhpfpaaa.Hash Go.Proofs.Ytmlcafnnhpfpaaa.Bloom Go.Proofs.Ytmlcafnnhpfpaaa.Evs
set_option linter.unusedSimpArgs false
set_option linter.unusedVariables false

def rightB (hs : Int) (n : Nat) : Bool := decide (1 ≤ hs ∧ hs ≤ 7 ∧ 1 ≤ n ∧ n ≤ 256)

theorem right_spec (s hs : Int) (l : List Bool) : bloom_Right.f s hs l = some (rightB hs l.length) := by
  unfold bloom_Right.f rightB
  by_cases a : hs ≥ 1
  · rw [if_pos a]
    by_cases b : hs ≤ 7
    · rw [if_pos b]
      by_cases c : (l.length : Int) ≥ 1
      · rw [if_pos c]; exact congrArg some (decide_eq_decide.2 (by omega))
      · rw [if_neg c]; exact congrArg some (decide_eq_false (by omega)).symm
    · rw [if_neg b]; exact congrArg some (decide_eq_false (by omega)).symm
  · rw [if_neg a]; exact congrArg some (decide_eq_false (by omega)).symm

theorem new_spec (k : Nat) (s b hs : Int) (hk : 1 ≤ k) : bloom_New.f k s b hs = some (if 1 ≤ b ∧ b ≤ 256 ∧ 1 ≤ hs ∧ hs ≤ 7 then (s, hs, List.replicate b.toNat false, 0) else (0, 0, [], 1)) := by
  obtain ⟨k, rfl⟩ : ∃ m, k = m + 1 := ⟨k - 1, by omega⟩
  unfold bloom_New.f
  simp only [bloom_New.j0, right_spec, Option.bind_some, List.length_replicate]
  by_cases v : 1 ≤ b ∧ b ≤ 256 ∧ 1 ≤ hs ∧ hs ≤ 7
  · have r : rightB hs b.toNat = true := by unfold rightB; exact decide_eq_true (by omega)
    have c : ¬ b > 256 := by omega
    rw [if_pos v, if_neg (by omega), decide_eq_false c, if_neg (by decide), if_pos (by omega), if_pos (by omega), r]; rfl
  · rw [if_neg v]
    by_cases a : b < 1
    · rw [if_pos a]; rfl
    · rw [if_neg a]
      by_cases c : b > 256
      · rw [decide_eq_true c]; rfl
      · have r : rightB hs b.toNat = false := by unfold rightB; exact decide_eq_false (by omega)
        rw [decide_eq_false c, if_neg (by decide), if_pos (by omega), if_pos (by omega), r]; rfl

theorem equal_l0 (a b : Int) (l : List Bool) (a' b' : Int) (l' : List Bool) (hl : l.length = l'.length) (hb : l.length ≤ 140737488351232) : ∀ (d k i : Nat), l.length - i = d → i ≤ l.length → d < k →
    rillmeterref10_Equal.l0 k i a b l a' b' l' = some (decide (l.drop i = l'.drop i)) := by
  intro d
  induction d with
  | zero =>
    intro k i h0 h1 h2
    obtain ⟨k, rfl⟩ : ∃ m, k = m + 1 := ⟨k - 1, by omega⟩
    simp only [rillmeterref10_Equal.l0]
    rw [if_neg (by omega), List.drop_of_length_le (by omega), List.drop_of_length_le (by omega), decide_eq_true rfl]
  | succ d ih =>
    intro k i h0 h1 h2
    obtain ⟨k, rfl⟩ : ∃ m, k = m + 1 := ⟨k - 1, by omega⟩
    simp only [rillmeterref10_Equal.l0]
    have g : i < l.length := by omega
    have g' : i < l'.length := by omega
    rw [if_pos (by omega), if_pos (by omega), if_pos (by omega), rdOf_eq false l i g, rdOf_eq false l' i g']
    have e1 := List.drop_eq_getElem_cons g
    have e2 := List.drop_eq_getElem_cons g'
    by_cases e : l[i] = l'[i]
    · rw [if_neg (by simp [e]), i64_in _ (by omega) (by omega), show ((i : Int) + 1) = ((i + 1 : Nat) : Int) by omega, ih k (i + 1) (by omega) (by omega) (by omega), e1, e2, e]
      exact congrArg some (decide_eq_decide.2 ⟨fun h => by rw [h], fun h => (List.cons.inj h).2⟩)
    · rw [if_pos (by simpa using e), e1, e2]
      exact congrArg some (decide_eq_false (fun h => e (List.cons.inj h).1)).symm

theorem equal_spec (k : Nat) (a b : Int) (l : List Bool) (a' b' : Int) (l' : List Bool) (hb : l.length ≤ 140737488351232) (hk : l.length + 2 ≤ k) :
    rillmeterref10_Equal.f k a b l a' b' l' = some (decide (a = a' ∧ b = b' ∧ l = l')) := by
  obtain ⟨k, rfl⟩ : ∃ m, k = m + 1 := ⟨k - 1, by omega⟩
  unfold rillmeterref10_Equal.f
  simp only [rillmeterref10_Equal.j0]
  by_cases e1 : a = a'
  · by_cases e2 : b = b'
    · by_cases e3 : l.length = l'.length
      · have h := equal_l0 a b l a' b' l' e3 hb l.length k 0 (by omega) (by omega) (by omega)
        rw [if_pos e1, if_pos e2, if_neg (by simp [e3])]
        rw [show ((0 : Nat) : Int) = 0 from rfl] at h
        rw [h]
        simp [e1, e2]
      · have : ¬ l = l' := fun h => e3 (by rw [h])
        have e3' : ¬ (l.length : Int) = (l'.length : Int) := by omega
        rw [if_pos e1, if_pos e2, if_pos (by simpa using e3')]
        simp [this]
    · simp [e1, e2]
  · simp [e1]

theorem set_l0 (s hs : Int) (l : List Bool) (hb : l.length ≤ 140737488351232) : ∀ (d k i : Nat) (n : Nat), l.length - i = d → i ≤ l.length → n ≤ i → d < k →
    bloom_Set.l0 k n l l.length i s hs l = some ((n + (if rightB hs l.length then (l.drop i).count true else 0) : Nat) : Int) := by
  intro d
  induction d with
  | zero =>
    intro k i n h0 h1 hn h2
    obtain ⟨k, rfl⟩ : ∃ m, k = m + 1 := ⟨k - 1, by omega⟩
    simp only [bloom_Set.l0]
    rw [if_neg (by omega), List.drop_of_length_le (by omega)]
    simp
  | succ d ih =>
    intro k i n h0 h1 hn h2
    obtain ⟨k, rfl⟩ : ∃ m, k = m + 1 := ⟨k - 1, by omega⟩
    simp only [bloom_Set.l0, right_spec]
    have g : i < l.length := by omega
    rw [if_pos (by omega), if_pos (by omega), if_pos (by omega), rdOf_eq false l i g, List.drop_eq_getElem_cons g, i64_in ((i : Int) + 1) (by omega) (by omega), i64_in ((n : Int) + 1) (by omega) (by omega),
      show ((i : Int) + 1) = ((i + 1 : Nat) : Int) by omega, show ((n : Int) + 1) = ((n + 1 : Nat) : Int) by omega]
    rw [ih k (i + 1) (n + 1) (by omega) (by omega) (by omega) (by omega), ih k (i + 1) n (by omega) (by omega) (by omega) (by omega)]
    simp only [Option.bind_some]
    by_cases e : l[i] = true
    · rw [if_pos e, e, List.count_cons_self]
      by_cases r : rightB hs l.length = true
      · rw [if_pos r, if_pos r, if_pos r]; congr 2; omega
      · rw [if_neg r, if_neg r, if_neg r]
    · rw [if_neg e, List.count_cons_of_ne (by simpa using e)]

theorem set_spec (k : Nat) (s hs : Int) (l : List Bool) (hb : l.length ≤ 140737488351232) (hk : l.length + 1 ≤ k) :
    bloom_Set.f k s hs l = some ((if rightB hs l.length then l.count true else 0 : Nat) : Int) := by
  have h := set_l0 s hs l hb l.length k 0 0 (by omega) (by omega) (by omega) (by omega)
  rw [show ((0 : Nat) : Int) = 0 from rfl, Nat.zero_add, List.drop_zero] at h
  exact h

theorem of_spec (a : Int) (h0 : 0 ≤ a) (h1 : a < 18446744073709551616) : field_Of.f a = some (a % 2305843009213693951) := by
  unfold field_Of.f
  rw [and_p a h0 h1, u64_in _ (by omega) (by omega)]
  split
  · rw [u64_in _ (by omega) (by omega)]
    exact congrArg some (by omega)
  · exact congrArg some (by omega)

theorem add_spec (a b : Int) (h0 : 0 ≤ a) (h1 : a < 18446744073709551616) (g0 : 0 ≤ b) (g1 : b < 18446744073709551616) :
    field_Add.f a b = some ((a + b) % 2305843009213693951) := by
  unfold field_Add.f
  rw [of_spec a h0 h1, of_spec b g0 g1]
  simp only [Option.bind_some]
  rw [u64_in _ (by omega) (by omega), of_spec _ (by omega) (by omega)]
  simp only [Option.bind_some]
  exact congrArg some (by omega)

theorem mul64_spec (a b : Int) (h0 : 0 ≤ a) (h1 : a < 18446744073709551616) (g0 : 0 ≤ b) (g1 : b < 18446744073709551616) :
    bits_Mul64.f a b = some (a * b / 18446744073709551616, a * b % 18446744073709551616) := by
  unfold bits_Mul64.f
  have hh := halves a b
  obtain ⟨p0, p1⟩ := mul_bd (a := a / 4294967296) (b := b / 4294967296) (by omega) (by omega) (by omega) (by omega)
  obtain ⟨q0, q1⟩ := mul_bd (a := a / 4294967296) (b := b % 4294967296) (by omega) (by omega) (by omega) (by omega)
  obtain ⟨r0, r1⟩ := mul_bd (a := a % 4294967296) (b := b / 4294967296) (by omega) (by omega) (by omega) (by omega)
  obtain ⟨s0, s1⟩ := mul_bd (a := a % 4294967296) (b := b % 4294967296) (by omega) (by omega) (by omega) (by omega)
  rw [and_32 a h0 h1, and_32 b g0 g1]
  generalize a / 4294967296 * (b / 4294967296) = p at *
  generalize a / 4294967296 * (b % 4294967296) = q at *
  generalize a % 4294967296 * (b / 4294967296) = r at *
  generalize a % 4294967296 * (b % 4294967296) = s at *
  generalize a * b = m at *
  clear h0 h1 g0 g1
  rw [u64_in p (by omega) (by omega), u64_in q (by omega) (by omega), u64_in r (by omega) (by omega), u64_in s (by omega) (by omega)]
  rw [u64_in (q + s / 4294967296) (by omega) (by omega)]
  rw [and_32 _ (by omega) (by omega)]
  rw [u64_in (p + _) (by omega) (by omega), u64_in (_ + r) (by omega) (by omega), wrap_u64 m]
  rw [u64_in _ (by omega) (by omega)]
  exact congrArg some (Prod.ext (by show _ = _; omega) rfl)

theorem mul_spec (a b : Int) (h0 : 0 ≤ a) (h1 : a < 18446744073709551616) (g0 : 0 ≤ b) (g1 : b < 18446744073709551616) :
    field_Mul.f a b = some (a * b % 2305843009213693951) := by
  unfold field_Mul.f
  rw [of_spec a h0 h1, of_spec b g0 g1, Int.mul_emod]
  simp only [Option.bind_some]
  have x0 : 0 ≤ a % 2305843009213693951 := by omega
  have x1 : a % 2305843009213693951 ≤ 2305843009213693950 := by omega
  have y0 : 0 ≤ b % 2305843009213693951 := by omega
  have y1 : b % 2305843009213693951 ≤ 2305843009213693950 := by omega
  generalize a % 2305843009213693951 = x at *
  generalize b % 2305843009213693951 = y at *
  rw [mul64_spec x y x0 (by omega) y0 (by omega)]
  simp only [Option.bind_some]
  have hm : 0 ≤ x * y ∧ x * y ≤ 2305843009213693950 * 2305843009213693950 := ⟨Int.mul_nonneg x0 y0, Int.mul_le_mul x1 y1 y0 (by omega)⟩
  generalize x * y = m at *
  obtain ⟨m0, m1⟩ := hm
  rw [and_p _ (by omega) (by omega)]
  rw [u64_in (_ * 8) (by omega) (by omega)]
  rw [or_3 _ _ (by omega) (by omega) (by omega) (by omega) (by omega)]
  rw [u64_in _ (by omega) (by omega), of_spec _ (by omega) (by omega)]
  simp only [Option.bind_some]
  exact congrArg some (by omega)

theorem sq_half (x n : Int) (h0 : 0 ≤ n) : (x * x % 2305843009213693951) ^ (n / 2).toNat % 2305843009213693951 = x ^ (2 * (n.toNat / 2)) % 2305843009213693951 := by
  rw [pow_emod, Int.pow_mul, show (n / 2).toNat = n.toNat / 2 by omega, show x ^ 2 = x * x by grind]

theorem pow_l0 (d : Nat) : ∀ (k : Nat) (x n out : Int), 0 ≤ x → x < 2305843009213693951 → 0 ≤ n → n < 18446744073709551616 → n < 2 ^ d → 0 ≤ out → out < 2305843009213693951 → d < k →
    field_Pow.l0 k x n out = some (out * x ^ n.toNat % 2305843009213693951) := by
  induction d with
  | zero =>
    intro k x n out x0 x1 n0 n1 nd o0 o1 hk
    obtain ⟨k, rfl⟩ : ∃ m, k = m + 1 := ⟨k - 1, by omega⟩
    have hn : n = 0 := by simp at nd; omega
    simp only [field_Pow.l0]
    rw [if_neg (by omega), hn]
    exact congrArg some (by simp; omega)
  | succ d ih =>
    intro k x n out x0 x1 n0 n1 nd o0 o1 hk
    obtain ⟨k, rfl⟩ : ∃ m, k = m + 1 := ⟨k - 1, by omega⟩
    simp only [field_Pow.l0]
    by_cases hp : n > 0
    · rw [if_pos hp, and_1 n n0 n1, mul_spec x x x0 (by omega) x0 (by omega), mul_spec out x o0 (by omega) x0 (by omega)]
      simp only [Option.bind_some]
      have hd : n / 2 < 2 ^ d := by rw [Int.pow_succ] at nd; omega
      split
      · rw [ih k _ (n / 2) _ (by omega) (by omega) (by omega) (by omega) hd (by omega) (by omega) (by omega)]
        have e : n.toNat = 2 * (n.toNat / 2) + 1 := by omega
        refine congrArg some ?_
        rw [Int.mul_emod, sq_half x n n0, ← Int.mul_emod]
        rw [Int.mul_emod, Int.emod_emod, ← Int.mul_emod]
        conv => rhs; rw [e, Int.pow_succ, Int.mul_comm _ x, ← Int.mul_assoc]
      · rw [ih k _ (n / 2) _ (by omega) (by omega) (by omega) (by omega) hd o0 o1 (by omega)]
        have e : n.toNat = 2 * (n.toNat / 2) := by omega
        refine congrArg some ?_
        rw [Int.mul_emod, sq_half x n n0, ← Int.mul_emod]
        conv => rhs; rw [e]
    · have hn : n = 0 := by omega
      rw [if_neg hp, hn]
      exact congrArg some (by simp; omega)

theorem pow_spec (k : Nat) (a n : Int) (h0 : 0 ≤ a) (h1 : a < 18446744073709551616) (g0 : 0 ≤ n) (g1 : n < 18446744073709551616) (hk : 65 ≤ k) :
    field_Pow.f k a n = some (a ^ n.toNat % 2305843009213693951) := by
  unfold field_Pow.f
  rw [of_spec a h0 h1]
  simp only [Option.bind_some]
  rw [pow_l0 64 k _ n 1 (by omega) (by omega) g0 g1 (by omega) (by omega) (by omega) (by omega), Int.one_mul, pow_emod]

theorem sum_step (s : ByteArray) (a n i x j j' : Int) (k : Nat) (hj : j' = j + 1) (hs : s.size ≤ 140737488351232) (i0 : 0 ≤ i) (i1 : i ≤ s.size) (j0 : 0 ≤ j) (j1 : j < 4) (x0 : 0 ≤ x) (x1 : x < 72057594037927936) :
    hash_Sum.l1 (k + 1) s a n i x j = hash_Sum.l1 k s a n i (x * 256 + bt s (i + j)) j' := by
  subst hj
  have hb := bt_range s (i + j)
  conv => lhs; unfold hash_Sum.l1
  rw [if_pos j1, i64_in (i + j) (by omega) (by omega), i64_in (j + 1) (by omega) (by omega), u64_in (x * 256) (by omega) (by omega), u64_in (bt s (i + j)) (by omega) (by omega)]
  by_cases h : i + j < (s.size : Int)
  · rw [if_pos h, if_pos (by omega), or_8 (x * 256) _ (by omega) (by omega) (by omega) (by omega) (by omega)]
  · rw [if_neg h, bt_out s (i + j) (by omega), Int.add_zero]

theorem sum_word (s : ByteArray) (a n i : Int) (k : Nat) (hs : s.size ≤ 140737488351232) (i0 : 0 ≤ i) (i1 : i ≤ s.size) :
    hash_Sum.l1 (k + 4) s a n i 0 0 = hash_Sum.l1 k s a n i (wordAt s i) 4 := by
  have h0 := bt_range s i
  have h1 := bt_range s (i + 1)
  have h2 := bt_range s (i + 2)
  rw [sum_step s a n i 0 0 1 (k + 3) (by omega) hs i0 i1 (by omega) (by omega) (by omega) (by omega), Int.add_zero, Int.zero_mul, Int.zero_add,
    sum_step s a n i _ 1 2 (k + 2) (by omega) hs i0 i1 (by omega) (by omega) (by omega) (by omega),
    sum_step s a n i _ 2 3 (k + 1) (by omega) hs i0 i1 (by omega) (by omega) (by omega) (by omega),
    sum_step s a n i _ 3 4 k (by omega) hs i0 i1 (by omega) (by omega) (by omega) (by omega)]
  rfl

theorem sum_l0 (s : ByteArray) (a : Int) (hs : s.size ≤ 140737488351232) (a0 : 0 ≤ a) (a1 : a < 18446744073709551616) : ∀ (m k : Nat) (n i : Int), 0 ≤ i → (s.size : Int) ≤ i + 4 * m → i < (s.size : Int) + 4 → (0 < m → i + 4 * m < (s.size : Int) + 4) →
    0 ≤ n → n < 18446744073709551616 → 6 * m + 66 ≤ k →
    hash_Sum.l0 k s a n i = some ((roll s a m n i * a) ^ 17 % 2305843009213693951) := by
  intro m
  induction m with
  | zero =>
    intro k n i i0 i1 i2 i3 n0 n1 hk
    obtain ⟨k, rfl⟩ : ∃ m, k = m + 1 := ⟨k - 1, by omega⟩
    unfold hash_Sum.l0
    rw [if_neg (by omega), mul_spec n a n0 n1 a0 a1]
    simp only [Option.bind_some]
    rw [pow_spec k _ 17 (by omega) (by omega) (by omega) (by omega) (by omega), show (17 : Int).toNat = 17 from rfl, pow_emod]
    rfl
  | succ m ih =>
    intro k n i i0 i1 i2 i3 n0 n1 hk
    obtain ⟨k, rfl⟩ : ∃ m, k = m + 1 := ⟨k - 1, by omega⟩
    obtain ⟨k, rfl⟩ : ∃ m, k = m + 4 := ⟨k - 4, by omega⟩
    have hw := wordAt_range s i
    have i4 : i < (s.size : Int) := by omega
    unfold hash_Sum.l0
    rw [if_pos i4, sum_word s a n i k hs i0 (by omega)]
    obtain ⟨k, rfl⟩ : ∃ m, k = m + 1 := ⟨k - 1, by omega⟩
    unfold hash_Sum.l1
    rw [if_neg (by omega), mul_spec n a n0 n1 a0 a1, u64_in _ (by omega) (by omega)]
    simp only [Option.bind_some]
    rw [add_spec _ _ (by omega) (by omega) (by omega) (by omega), i64_in (i + 4) (by omega) (by omega)]
    simp only [Option.bind_some]
    rw [ih k _ (i + 4) (by omega) (by omega) (by omega) (by omega) (by omega) (by omega) (by omega)]
    simp only [roll]
    have e : (n * a % 2305843009213693951 + (wordAt s i + 1)) % 2305843009213693951 = (n * a + wordAt s i + 1) % 2305843009213693951 := by omega
    rw [e]

theorem sum_spec (k : Nat) (seed : Int) (s : ByteArray) (hs : s.size ≤ 140737488351232) (h0 : 0 ≤ seed) (h1 : seed < 18446744073709551616) (hk : 6 * words s + 66 ≤ k) :
    hash_Sum.f k seed s = some (hsum seed s) := by
  unfold hash_Sum.f
  rw [add_spec seed 2 h0 h1 (by omega) (by omega), u64_in _ (by omega) (by omega)]
  simp only [Option.bind_some]
  have hw : words s = (s.size + 3) / 4 := rfl
  exact sum_l0 s _ hs (by omega) (by omega) (words s) k s.size 0 (by omega) (by omega) (by omega) (by omega) (by omega) (by omega) hk

theorem cell_spec (k : Nat) (seed : Int) (key : ByteArray) (n : Int) (hs : key.size ≤ 140737488351232) (h0 : 0 ≤ seed) (h1 : seed < 18446744073709551616) (hn : n < 9223372036854775808) (hk : 6 * words key + 66 ≤ k) :
    hash_Cell.f k seed key n = some (hcell seed key n) := by
  unfold hash_Cell.f hcell
  by_cases a : n < 1
  · rw [if_pos a, if_pos a]
  · rw [if_neg a, if_neg a, sum_spec k seed key hs h0 h1 hk]
    simp only [Option.bind_some]
    have r := hsum_range seed key
    have r1 := Int.emod_nonneg (hsum seed key) (b := n) (by omega)
    have r2 := Int.emod_lt_of_pos (hsum seed key) (b := n) (by omega)
    rw [u64_in n (by omega) (by omega), if_neg (by omega), Int.tmod_eq_emod_of_nonneg r.1, i64_in _ (by omega) (by omega)]

theorem row_spec (seed i : Int) (h0 : 0 ≤ seed) (h1 : seed < 18446744073709551616) (hi : i < 9223372036854775808) : hash_Row.f seed i = some (hrow seed i) := by
  unfold hash_Row.f hrow hmid
  have e : mx i 0 = if i < 0 then 0 else i := rfl
  rw [e, add_spec seed 3 h0 h1 (by omega) (by omega)]
  generalize hj : (if i < 0 then (0 : Int) else i) = j
  have hj0 : 0 ≤ j ∧ j < 9223372036854775808 := by rw [← hj]; split <;> omega
  simp only [Option.bind_some]
  rw [u64_in j (by omega) (by omega), add_spec j 2 (by omega) (by omega) (by omega) (by omega)]
  simp only [Option.bind_some]
  rw [mul_spec _ _ (by omega) (by omega) (by omega) (by omega)]
  simp only [Option.bind_some]
  rw [add_spec _ 5 (by omega) (by omega) (by omega) (by omega)]
  simp only [Option.bind_some]
  rw [mul_spec _ _ (by omega) (by omega) (by omega) (by omega)]
  rfl

theorem places_l0 (seed hs : Int) (bits : List Bool) (key : ByteArray) (h0 : 0 ≤ seed) (h1 : seed < 18446744073709551616) (hh : hs ≤ 7) (hb : bits.length ≤ 1000000) (hkey : key.size ≤ 1000000) : ∀ (m k j : Nat) (l : List Int), (j : Int) + m = hs → l.length = j → m + 6 * words key + 68 ≤ k →
    bloom_Places.l0 k key l hs j seed hs bits = some (l ++ (List.range' j m).map (fun (i : Nat) => hcell (hrow seed (i : Int)) key bits.length)) := by
  intro m
  induction m with
  | zero =>
    intro k j l hj hl hk
    obtain ⟨k, rfl⟩ : ∃ m, k = m + 1 := ⟨k - 1, by omega⟩
    simp only [bloom_Places.l0]
    rw [if_neg (by omega)]
    simp
  | succ m ih =>
    intro k j l hj hl hk
    obtain ⟨k, rfl⟩ : ∃ m, k = m + 1 := ⟨k - 1, by omega⟩
    have hr := hrow_range seed j
    simp only [bloom_Places.l0]
    rw [if_pos (by omega), row_spec seed j h0 h1 (by omega)]
    simp only [Option.bind_some]
    rw [cell_spec k _ key _ (by omega) hr.1 (by omega) (by omega) (by omega), i64_in ((j : Int) + 1) (by omega) (by omega)]
    simp only [Option.bind_some]
    rw [if_pos (by omega), show (j : Int) + 1 = ((j + 1 : Nat) : Int) by omega, ih k (j + 1) _ (by omega) (by simp [hl]) (by omega)]
    rw [List.range'_succ, List.map_cons, List.append_assoc]
    rfl

theorem places_spec (k : Nat) (seed hs : Int) (bits : List Bool) (key : ByteArray) (h0 : 0 ≤ seed) (h1 : seed < 18446744073709551616) (hb : bits.length ≤ 1000000) (hkey : key.size ≤ 1000000) (hk : 6 * words key + 75 ≤ k) :
    bloom_Places.f k seed hs bits key = some (if rightB hs bits.length then placesOf seed hs bits.length key else []) := by
  unfold bloom_Places.f
  rw [right_spec]
  simp only [Option.bind_some]
  by_cases r : rightB hs bits.length = true
  · rw [if_pos r, if_pos r]
    have r2 := of_decide_eq_true r
    have h := places_l0 seed hs bits key h0 h1 (by omega) hb hkey hs.toNat k 0 [] (by omega) rfl (by omega)
    rw [show ((0 : Nat) : Int) = 0 from rfl] at h
    rw [h]; rfl
  · rw [if_neg r, if_neg r]

theorem clone_spec (l : List Bool) (h : l.length < 140737488355328) : slices_Clone_bool_bool.f l = some l := by
  unfold slices_Clone_bool_bool.f
  simp only [Option.bind_some, List.length_nil, Nat.zero_add, List.nil_append]
  rw [if_pos h]

theorem add_l0 (s hs : Int) (ps : List Int) (hl : ps.length ≤ 1000000) : ∀ (d k i : Nat) (bits : List Bool), ps.length - i = d → i ≤ ps.length → d < k → (∀ p ∈ ps, 0 ≤ p ∧ p < bits.length) →
    bloom_Add.l0 k ps ps.length i s hs bits = some (s, hs, setAll bits (ps.drop i)) := by
  intro d
  induction d with
  | zero =>
    intro k i bits h0 h1 h2 hp
    obtain ⟨k, rfl⟩ : ∃ m, k = m + 1 := ⟨k - 1, by omega⟩
    simp only [bloom_Add.l0]
    rw [if_neg (by omega), List.drop_of_length_le (by omega)]
    rfl
  | succ d ih =>
    intro k i bits h0 h1 h2 hp
    obtain ⟨k, rfl⟩ : ∃ m, k = m + 1 := ⟨k - 1, by omega⟩
    have g : i < ps.length := by omega
    have e : rd ps i = ps[i] := by simp [rd, g]
    have hq := hp ps[i] (List.getElem_mem g)
    simp only [bloom_Add.l0]
    rw [if_pos (by omega), if_pos (by omega), if_pos (by omega), e, if_pos hq.1, if_pos hq.2, i64_in ((i : Int) + 1) (by omega) (by omega), show (i : Int) + 1 = ((i + 1 : Nat) : Int) by omega,
      ih k (i + 1) _ (by omega) (by omega) (by omega) (by simpa using hp), List.drop_eq_getElem_cons g]
    rfl

theorem addf_spec (k : Nat) (seed hs : Int) (bits : List Bool) (key : ByteArray) (h0 : 0 ≤ seed) (h1 : seed < 18446744073709551616) (hb : bits.length ≤ 1000000) (hkey : key.size ≤ 1000000) (hk : 6 * words key + 75 ≤ k) :
    bloom_Add.f k seed hs bits key = some (seed, hs, if rightB hs bits.length then setAll bits (placesOf seed hs bits.length key) else bits) := by
  unfold bloom_Add.f
  rw [clone_spec bits (by omega)]
  simp only [Option.bind_some]
  rw [places_spec k seed hs bits key h0 h1 hb hkey hk]
  simp only [Option.bind_some]
  by_cases r : rightB hs bits.length = true
  · rw [if_pos r, if_pos r]
    have r2 := of_decide_eq_true r
    have hpl := placesOf_length seed hs bits.length key
    have h := add_l0 seed hs (placesOf seed hs bits.length key) (by omega) (placesOf seed hs bits.length key).length k 0 bits (by omega) (by omega) (by omega) (placesOf_range seed hs bits.length key (by omega))
    rw [show ((0 : Nat) : Int) = 0 from rfl, List.drop_zero] at h
    exact h
  · rw [if_neg r, if_neg r]
    obtain ⟨k, rfl⟩ : ∃ m, k = m + 1 := ⟨k - 1, by omega⟩
    simp only [bloom_Add.l0]
    rfl

theorem all_spec (bits : List Bool) (ps : List Int) (hp : ∀ p ∈ ps, 0 ≤ p ∧ p < bits.length) : bloom_Has.all bits ps = some (decide (∀ p ∈ ps, bits.getD p.toNat false = true)) := by
  induction ps with
  | nil => simp [bloom_Has.all]
  | cons p ps ih =>
    have hq := hp p (by simp)
    simp only [bloom_Has.all]
    rw [if_pos hq.1, if_pos hq.2, ih (fun q h => hp q (by simp [h]))]
    have e : rdOf false bits p = bits.getD p.toNat false := rfl
    rw [e]
    by_cases b : bits.getD p.toNat false = true
    · rw [if_pos b]
      exact congrArg some (decide_eq_decide.2 ⟨fun h q hq => by rcases List.mem_cons.1 hq with rfl | hq; exact b; exact h q hq, fun h q hq => h q (by simp [hq])⟩)
    · rw [if_neg b]
      exact congrArg some (decide_eq_false (fun h => b (h p (by simp)))).symm

theorem has_spec (k : Nat) (seed hs : Int) (bits : List Bool) (key : ByteArray) (h0 : 0 ≤ seed) (h1 : seed < 18446744073709551616) (hb : bits.length ≤ 1000000) (hkey : key.size ≤ 1000000) (hk : 6 * words key + 75 ≤ k) :
    bloom_Has.f k seed hs bits key = some (rightB hs bits.length && decide (∀ p ∈ placesOf seed hs bits.length key, bits.getD p.toNat false = true)) := by
  unfold bloom_Has.f
  rw [right_spec]
  simp only [Option.bind_some]
  by_cases r : rightB hs bits.length = true
  · have r2 := of_decide_eq_true r
    rw [if_pos r, places_spec k seed hs bits key h0 h1 hb hkey hk, if_pos r, r]
    simp only [Option.bind_some, Bool.true_and]
    exact all_spec bits _ (placesOf_range seed hs bits.length key (by omega))
  · rw [if_neg r, Bool.eq_false_iff.2 r]; rfl

theorem awake_spec (k : Nat) (hk : 100 ≤ k) : rillmeterlaw10_awake.f k = some true :=
  at_rounds (g := fun k => rillmeterlaw10_awake.f k) rillmeterlaw10_awake.mono hk (by decide +kernel)

theorem short_l0 (l : List ByteArray) (hl : l.length ≤ 1000000) : ∀ (d k i : Nat), l.length - i = d → i ≤ l.length → d < k →
    rillmeterref10_Short.l0 k l i = some (decide (∀ s ∈ l.drop i, s.size ≤ 100)) := by
  intro d
  induction d with
  | zero =>
    intro k i h0 h1 h2
    obtain ⟨k, rfl⟩ : ∃ m, k = m + 1 := ⟨k - 1, by omega⟩
    simp only [rillmeterref10_Short.l0]
    rw [if_neg (by omega), List.drop_of_length_le (by omega)]
    simp
  | succ d ih =>
    intro k i h0 h1 h2
    obtain ⟨k, rfl⟩ : ∃ m, k = m + 1 := ⟨k - 1, by omega⟩
    have g : i < l.length := by omega
    have e : rdOf ByteArray.empty l i = l[i] := by simp [rdOf, g]
    simp only [rillmeterref10_Short.l0]
    rw [if_pos (by omega), if_pos (by omega), e, i64_in ((i : Int) + 1) (by omega) (by omega), show (i : Int) + 1 = ((i + 1 : Nat) : Int) by omega, ih k (i + 1) (by omega) (by omega) (by omega), List.drop_eq_getElem_cons g]
    by_cases c : (l[i].size : Int) > 100
    · rw [if_pos c]
      exact congrArg some (decide_eq_false (fun h => by have := h l[i] List.mem_cons_self; omega)).symm
    · rw [if_neg c]
      exact congrArg some (decide_eq_decide.2 ⟨fun h s hs => by rcases List.mem_cons.1 hs with rfl | hs; omega; exact h s hs, fun h s hs => h s (List.mem_cons_of_mem _ hs)⟩)

theorem short_spec (k : Nat) (l : List ByteArray) (m : Int) (hm : 0 ≤ m ∧ m ≤ 1000) (hk : 1002 ≤ k) :
    rillmeterref10_Short.f k l m = some (decide ((l.length : Int) ≤ m ∧ ∀ s ∈ l, s.size ≤ 100)) := by
  unfold rillmeterref10_Short.f
  by_cases c : (l.length : Int) > m
  · rw [if_pos c]
    exact congrArg some (decide_eq_false (fun h => by omega)).symm
  · have h := short_l0 l (by omega) l.length k 0 (by omega) (by omega) (by omega)
    rw [show ((0 : Nat) : Int) = 0 from rfl, List.drop_zero] at h
    rw [if_neg c, h]
    exact congrArg some (decide_eq_decide.2 ⟨fun h => ⟨by omega, h⟩, fun h => h.2⟩)

theorem merge_l0 (s hs : Int) (a b : List Bool) (hl : a.length = b.length) (hb : a.length ≤ 1000000) : ∀ (d k i : Nat) (m : List Bool), b.length - i = d → i ≤ b.length → m.length = a.length →
    (∀ j, j < i → m.getD j false = (a.getD j false || b.getD j false)) → (∀ j, i ≤ j → m.getD j false = a.getD j false) → d < k →
    bloom_Merge.l0 k b b.length i s hs m = some (s, hs, orAll a b, 0) := by
  intro d
  induction d with
  | zero =>
    intro k i m h0 h1 hm h2 h3 hk
    obtain ⟨k, rfl⟩ : ∃ m, k = m + 1 := ⟨k - 1, by omega⟩
    simp only [bloom_Merge.l0]
    rw [if_neg (by omega)]
    have e : m = orAll a b := by
      apply ext_getD
      · rw [hm, orAll_length a b hl]
      · intro j hj
        rw [orAll_get a b j (by omega) (by omega)]
        exact h2 j (by omega)
    rw [e]
  | succ d ih =>
    intro k i m h0 h1 hm h2 h3 hk
    obtain ⟨k, rfl⟩ : ∃ m, k = m + 1 := ⟨k - 1, by omega⟩
    have g : i < b.length := by omega
    have gm : i < m.length := by omega
    have ga : i < a.length := by omega
    have ei := h3 i (Nat.le_refl _)
    have e0 : rdOf false m (i : Int) = a.getD i false := ei
    have e1 : rdOf false b (i : Int) = b.getD i false := rfl
    simp only [bloom_Merge.l0]
    rw [if_pos (by omega), if_pos (by omega), if_pos (by omega), if_pos (by omega), e0, e1, i64_in ((i : Int) + 1) (by omega) (by omega), show (i : Int) + 1 = ((i + 1 : Nat) : Int) by omega, Int.toNat_natCast]
    have next : ∀ v, v = (a.getD i false || b.getD i false) → bloom_Merge.l0 k b b.length ((i + 1 : Nat) : Int) s hs (m.set i v) = some (s, hs, orAll a b, 0) := by
      intro v hv
      refine ih k (i + 1) (m.set i v) (by omega) (by omega) (by simpa using hm) (fun j hj => ?_) (fun j hj => ?_) (by omega)
      · by_cases e : j = i
        · subst e
          rw [getD_eq _ j (by simpa using gm), List.getElem_set_self, hv]
        · have := h2 j (by omega)
          simp only [List.getD_eq_getElem?_getD, List.getElem?_set] at this ⊢
          rw [if_neg (by omega)]; exact this
      · have := h3 j (by omega)
        simp only [List.getD_eq_getElem?_getD, List.getElem?_set] at this ⊢
        rw [if_neg (by omega)]; exact this
    by_cases c : a.getD i false = true
    · rw [if_pos c]; exact next true (by rw [c]; rfl)
    · rw [if_neg c]; exact next _ (by rw [Bool.eq_false_iff.2 c]; rfl)

theorem merge_spec (k : Nat) (s hs : Int) (a : List Bool) (s' hs' : Int) (b : List Bool) (ha : a.length ≤ 1000000) (hk : a.length + 3 ≤ k) :
    bloom_Merge.f k s hs a s' hs' b = some (if rightB hs a.length = true ∧ rightB hs' b.length = true ∧ s = s' ∧ hs = hs' ∧ a.length = b.length then (s, hs, orAll a b, 0) else (0, 0, [], 1)) := by
  obtain ⟨k, rfl⟩ : ∃ m, k = m + 1 := ⟨k - 1, by omega⟩
  unfold bloom_Merge.f
  have hno : ∀ c, c = true → bloom_Merge.j0 (k + 1) c s hs a s' hs' b = some (0, 0, [], 1) := by
    intro c hc
    simp only [bloom_Merge.j0]
    rw [if_pos hc]
  rw [right_spec, right_spec]
  simp only [Option.bind_some]
  by_cases r : rightB hs a.length = true
  · rw [if_pos r]
    by_cases r' : rightB hs' b.length = true
    · rw [if_pos r']
      by_cases e1 : s = s'
      · rw [if_pos e1]
        by_cases e2 : hs = hs'
        · rw [if_pos e2]
          by_cases e3 : a.length = b.length
          · rw [if_pos ⟨r, r', e1, e2, e3⟩]
            simp only [bloom_Merge.j0]
            rw [if_neg (by simp [e3]), clone_spec a (by omega)]
            simp only [Option.bind_some]
            have h := merge_l0 s hs a b e3 ha b.length k 0 a (by omega) (by omega) rfl (fun j hj => by omega) (fun j _ => rfl) (by omega)
            exact h
          · rw [if_neg (fun h => e3 h.2.2.2.2)]
            exact hno _ (by simp; omega)
        · rw [if_neg e2, if_neg (fun h => e2 h.2.2.2.1)]; exact hno true rfl
      · rw [if_neg e1, if_neg (fun h => e1 h.2.2.1)]; exact hno true rfl
    · rw [if_neg r', if_neg (fun h => r' h.2.1)]; exact hno true rfl
  · rw [if_neg r, if_neg (fun h => r h.1)]; exact hno true rfl

/-- the bits after many keys -/
def addsB (s hs : Int) (n : Nat) : List ByteArray → List Bool → List Bool
  | [], bits => bits
  | key :: t, bits => addsB s hs n t (setAll bits (placesOf s hs n key))

theorem addsB_length (s hs : Int) (n : Nat) : ∀ (l : List ByteArray) (bits : List Bool), (addsB s hs n l bits).length = bits.length := by
  intro l
  induction l with
  | nil => intro bits; rfl
  | cons key t ih => intro bits; simp only [addsB]; rw [ih, setAll_length]

theorem addsB_get (s hs : Int) (n : Nat) (hn : 1 ≤ n) : ∀ (l : List ByteArray) (bits : List Bool) (i : Nat), bits.length = n → i < n →
    ((addsB s hs n l bits).getD i false = true ↔ (bits.getD i false = true ∨ ∃ key ∈ l, (i : Int) ∈ placesOf s hs n key)) := by
  intro l
  induction l with
  | nil => intro bits i _ _; simp [addsB]
  | cons key t ih =>
    intro bits i hb hi
    simp only [addsB]
    rw [ih _ i (by rw [setAll_length]; exact hb) hi, setAll_get _ (fun p hp => (placesOf_range s hs n key hn p hp).1) bits i (by omega), Bool.or_eq_true, decide_eq_true_iff]
    simp only [List.mem_cons, exists_eq_or_imp, or_assoc]

theorem rdB (l : List ByteArray) (i : Nat) : rdOf ByteArray.empty l (i : Int) = l.getD i ByteArray.empty := by unfold rdOf; rw [Int.toNat_natCast]

theorem getD_memB (l : List ByteArray) (i : Nat) (h : i < l.length) : l.getD i ByteArray.empty ∈ l := by
  rw [List.getD_eq_getElem?_getD, List.getElem?_eq_getElem h]
  exact List.getElem_mem h

theorem drop_getB (l : List ByteArray) (i : Nat) (h : i < l.length) : l.drop i = l.getD i ByteArray.empty :: l.drop (i + 1) := by
  rw [List.drop_eq_getElem_cons h]
  exact congrArg (· :: l.drop (i + 1)) (by rw [List.getD_eq_getElem?_getD, List.getElem?_eq_getElem h]; rfl)

theorem adds_l0 (s hs : Int) (h0 : 0 ≤ s) (h1 : s < 18446744073709551616) (n : Nat) (hr : rightB hs n = true) (hn : n ≤ 256) (l : List ByteArray) (hl : l.length ≤ 1000) (hk : ∀ key ∈ l, key.size ≤ 100) :
    ∀ (d i : Nat) (bits : List Bool), l.length - i = d → i ≤ l.length → bits.length = n →
      Evt (fun k => rillmeterlaw10_adds.l0 k l (l.length : Int) (i : Int) s hs bits) (s, hs, addsB s hs n (l.drop i) bits) := by
  intro d
  induction d with
  | zero =>
    intro i bits g0 hi hb
    rw [List.drop_of_length_le (by omega)]
    refine Evt.step (Evt.now (f := fun _ => some (s, hs, bits)) (fun _ => rfl)) (fun k => ?_)
    simp only [rillmeterlaw10_adds.l0]
    rw [if_neg (by omega)]
  | succ d ih =>
    intro i bits g0 hi hb
    have hkey := hk _ (getD_memB l i (by omega))
    rw [drop_getB l i (by omega)]
    have h2 := ih (i + 1) (setAll bits (placesOf s hs n (l.getD i ByteArray.empty))) (by omega) (by omega) (by rw [setAll_length]; exact hb)
    refine Evt.step (Evt.bind (f := fun k => bloom_Add.f k s hs bits (l.getD i ByteArray.empty)) (g := fun k (bt : Int × Int × List Bool) => rillmeterlaw10_adds.l0 k l (l.length : Int) (wrap64 ((i : Int) + 1)) bt.1 bt.2.1 bt.2.2) (a := (s, hs, setAll bits (placesOf s hs n (l.getD i ByteArray.empty)))) (Evt.ge (6 * words (l.getD i ByteArray.empty) + 75) (fun k hk2 => ?_)) (h2.eq (fun k => ?_))) (fun k => ?_)
    · rw [addf_spec k s hs bits _ h0 h1 (by omega) (by omega) hk2, hb, if_pos hr]
    · rw [i64_in ((i : Int) + 1) (by omega) (by omega), show (i : Int) + 1 = ((i + 1 : Nat) : Int) by omega]
    · simp only [rillmeterlaw10_adds.l0]
      rw [if_pos (by omega), if_pos (by omega), if_pos (by omega), rdB]

theorem adds_spec (s hs : Int) (h0 : 0 ≤ s) (h1 : s < 18446744073709551616) (n : Nat) (hr : rightB hs n = true) (hn : n ≤ 256) (l : List ByteArray) (hl : l.length ≤ 1000) (hk : ∀ key ∈ l, key.size ≤ 100) (bits : List Bool) (hb : bits.length = n) :
    Evt (fun k => rillmeterlaw10_adds.f k s hs bits l) (s, hs, addsB s hs n l bits) := by
  have h := adds_l0 s hs h0 h1 n hr hn l hl hk l.length 0 bits (by omega) (by omega) hb
  rw [List.drop_zero] at h
  exact h

theorem keeps_l1 (s hs : Int) (h0 : 0 ≤ s) (h1 : s < 18446744073709551616) (n : Nat) (hr : rightB hs n = true) (hn : n ≤ 256) (y : List (List ByteArray)) (N : Int) (r : Nat) (hr2 : r ≤ 10) (l : List ByteArray) (hl : l.length ≤ 1000) (hk : ∀ key ∈ l, key.size ≤ 100)
    (all back m : List Bool) (ha : all.length = n) (hall : ∀ key ∈ l, ∀ p ∈ placesOf s hs n key, all.getD p.toNat false = true) {R : Bool} :
    ∀ (d i : Nat), l.length - i = d → i ≤ l.length → Evt (fun k => rillmeterlaw10_BloomKeeps.l0 k 0 y N ((r + 1 : Nat) : Int) s hs all s hs back s hs m) R →
      Evt (fun k => rillmeterlaw10_BloomKeeps.l1 k 0 y N (r : Int) l (l.length : Int) (i : Int) s hs all s hs back s hs m) R := by
  intro d
  induction d with
  | zero =>
    intro i g0 hi h
    refine Evt.step h (fun k => ?_)
    simp only [rillmeterlaw10_BloomKeeps.l1]
    rw [if_neg (by omega), i64_in ((r : Int) + 1) (by omega) (by omega), show (r : Int) + 1 = ((r + 1 : Nat) : Int) by omega]
  | succ d ih =>
    intro i g0 hi h
    have hm := getD_memB l i (by omega)
    have hkey := hk _ hm
    refine Evt.step (Evt.bind (f := fun k => bloom_Has.f k s hs all (l.getD i ByteArray.empty)) (g := fun k t252 => (if t252 = true then (rillmeterlaw10_BloomKeeps.l1 k 0 y N (r : Int) l (l.length : Int) (wrap64 ((i : Int) + 1)) s hs all s hs back s hs m) else (some false))) (a := true) (Evt.ge (6 * words (l.getD i ByteArray.empty) + 75) (fun k hk2 => ?_)) ((ih (i + 1) (by omega) (by omega) h).eq (fun k => ?_))) (fun k => ?_)
    · rw [has_spec k s hs all _ h0 h1 (by omega) (by omega) hk2, ha, hr, Bool.true_and, decide_eq_true (hall _ hm)]
    · rw [if_pos rfl, i64_in ((i : Int) + 1) (by omega) (by omega), show (i : Int) + 1 = ((i + 1 : Nat) : Int) by omega]
    · simp only [rillmeterlaw10_BloomKeeps.l1]
      rw [if_pos (by omega), if_pos (by omega), if_pos (by omega), rdB]

theorem BloomKeeps : rillmeterlaw10_BloomKeeps.Pure := by
  intro s b hs la lb hs0 hb0 hh0 hla hlb
  have hs1 := u64_wf hs0
  have aw : Evt (fun k => (rillmeterlaw10_awake.f k).bind fun t => some t) true := Evt.bind (g := fun _ t => some t) (Evt.ge 100 (fun k hk => awake_spec k hk)) (Evt.now fun _ => rfl)
  have hA : Evt (fun k => rillmeterlaw10_BloomKeeps.j0 k s b hs la lb true) true := by
    refine Evt.step aw (fun k => ?_)
    simp only [rillmeterlaw10_BloomKeeps.j0]
    exact if_pos trivial
  refine Evt.some_ ?_
  refine (Evt.bind (f := fun k => rillmeterref10_Short.f k la 30) (g := fun k t205 => (if t205 = true then ((rillmeterref10_Short.f k lb 30).bind fun t206 => (rillmeterlaw10_BloomKeeps.j0 k s b hs la lb (!t206))) else (rillmeterlaw10_BloomKeeps.j0 k s b hs la lb true))) (Evt.ge 1002 (fun k hk => short_spec k la 30 (by omega) hk)) ?_).eq (fun k => rfl)
  by_cases ca : (la.length : Int) ≤ 30 ∧ ∀ x ∈ la, x.size ≤ 100
  · rw [decide_eq_true ca]
    refine Evt.eq (g := fun k => (rillmeterref10_Short.f k lb 30).bind fun t206 => (rillmeterlaw10_BloomKeeps.j0 k s b hs la lb (!t206))) ?_ (fun k => if_pos rfl)
    refine Evt.bind (f := fun k => rillmeterref10_Short.f k lb 30) (g := fun k t206 => rillmeterlaw10_BloomKeeps.j0 k s b hs la lb (!t206)) (Evt.ge 1002 (fun k hk => short_spec k lb 30 (by omega) hk)) ?_
    by_cases cb : (lb.length : Int) ≤ 30 ∧ ∀ x ∈ lb, x.size ≤ 100
    · rw [decide_eq_true cb]
      have news := Evt.ge (f := fun k => bloom_New.f k s b hs) 1 (fun k hk => new_spec k s b hs hk)
      have glue : ∀ (F : Int × Int × List Bool × Int), Evt (fun k => bloom_New.f k s b hs) F → Evt (fun k => if F.2.2.2 = 0 then ((rillmeterlaw10_adds.f k F.1 F.2.1 F.2.2.1 la).bind fun bt216 => ((rillmeterlaw10_adds.f k F.1 F.2.1 F.2.2.1 lb).bind fun bt221 => ((rillmeterlaw10_adds.f k bt216.1 bt216.2.1 bt216.2.2 lb).bind fun bt228 => ((rillmeterlaw10_adds.f k bt221.1 bt221.2.1 bt221.2.2 la).bind fun bt233 => ((bloom_Merge.f k bt216.1 bt216.2.1 bt216.2.2 bt221.1 bt221.2.1 bt221.2.2).bind fun bt240 => ((some (([la, lb] : List (List ByteArray)) : List (List ByteArray))).bind fun y247 => (rillmeterlaw10_BloomKeeps.l0 k bt240.2.2.2 y247 (y247.length : Int) 0 bt228.1 bt228.2.1 bt228.2.2 bt233.1 bt233.2.1 bt233.2.2 bt240.1 bt240.2.1 bt240.2.2.1))))))) else ((rillmeterlaw10_awake.f k).bind fun t215 => (some t215))) true → Evt (fun k => rillmeterlaw10_BloomKeeps.j0 k s b hs la lb (!true)) true := by
        intro F hF hE
        refine Evt.step (Evt.bind (f := fun k => bloom_New.f k s b hs) (g := fun k (F : Int × Int × List Bool × Int) => if F.2.2.2 = 0 then ((rillmeterlaw10_adds.f k F.1 F.2.1 F.2.2.1 la).bind fun bt216 => ((rillmeterlaw10_adds.f k F.1 F.2.1 F.2.2.1 lb).bind fun bt221 => ((rillmeterlaw10_adds.f k bt216.1 bt216.2.1 bt216.2.2 lb).bind fun bt228 => ((rillmeterlaw10_adds.f k bt221.1 bt221.2.1 bt221.2.2 la).bind fun bt233 => ((bloom_Merge.f k bt216.1 bt216.2.1 bt216.2.2 bt221.1 bt221.2.1 bt221.2.2).bind fun bt240 => ((some (([la, lb] : List (List ByteArray)) : List (List ByteArray))).bind fun y247 => (rillmeterlaw10_BloomKeeps.l0 k bt240.2.2.2 y247 (y247.length : Int) 0 bt228.1 bt228.2.1 bt228.2.2 bt233.1 bt233.2.1 bt233.2.2 bt240.1 bt240.2.1 bt240.2.2.1))))))) else ((rillmeterlaw10_awake.f k).bind fun t215 => (some t215))) hF hE) (fun k => ?_)
        simp only [rillmeterlaw10_BloomKeeps.j0]
        rw [if_neg (by decide)]
      by_cases v : 1 ≤ b ∧ b ≤ 256 ∧ 1 ≤ hs ∧ hs ≤ 7
      · rw [if_pos v] at news
        obtain ⟨n, hn⟩ : ∃ n : Nat, n = b.toNat := ⟨_, rfl⟩
        rw [← hn] at news
        have hn1 : 1 ≤ n := by omega
        have hn2 : n ≤ 256 := by omega
        have hr : rightB hs n = true := by unfold rightB; exact decide_eq_true (by omega)
        obtain ⟨z, ez⟩ : ∃ z, z = List.replicate n false := ⟨_, rfl⟩
        rw [← ez] at news
        have hz : z.length = n := by rw [ez, List.length_replicate]
        have hzg : ∀ i, z.getD i false = false := by
          intro i
          rw [ez, List.getD_eq_getElem?_getD, List.getElem?_replicate]
          split <;> rfl
        obtain ⟨x, ex⟩ : ∃ x, x = addsB s hs n la z := ⟨_, rfl⟩
        obtain ⟨y, ey⟩ : ∃ y, y = addsB s hs n lb z := ⟨_, rfl⟩
        obtain ⟨al, eal⟩ : ∃ al, al = addsB s hs n lb x := ⟨_, rfl⟩
        obtain ⟨bk, ebk⟩ : ∃ bk, bk = addsB s hs n la y := ⟨_, rfl⟩
        have hx : x.length = n := by rw [ex, addsB_length]; exact hz
        have hy : y.length = n := by rw [ey, addsB_length]; exact hz
        have hal : al.length = n := by rw [eal, addsB_length]; exact hx
        have hbk : bk.length = n := by rw [ebk, addsB_length]; exact hy
        have gx : ∀ i, i < n → (x.getD i false = true ↔ ∃ key ∈ la, (i : Int) ∈ placesOf s hs n key) := fun i hi => by
          rw [ex, addsB_get s hs n hn1 la z i hz hi, hzg i]; simp
        have gy : ∀ i, i < n → (y.getD i false = true ↔ ∃ key ∈ lb, (i : Int) ∈ placesOf s hs n key) := fun i hi => by
          rw [ey, addsB_get s hs n hn1 lb z i hz hi, hzg i]; simp
        have gal : ∀ i, i < n → (al.getD i false = true ↔ ((∃ key ∈ la, (i : Int) ∈ placesOf s hs n key) ∨ ∃ key ∈ lb, (i : Int) ∈ placesOf s hs n key)) := fun i hi => by
          rw [eal, addsB_get s hs n hn1 lb x i hx hi, gx i hi]
        have gbk : ∀ i, i < n → (bk.getD i false = true ↔ ((∃ key ∈ la, (i : Int) ∈ placesOf s hs n key) ∨ ∃ key ∈ lb, (i : Int) ∈ placesOf s hs n key)) := fun i hi => by
          rw [ebk, addsB_get s hs n hn1 la y i hy hi, gy i hi]
          exact or_comm
        have e1 : bk = al := ext_getD _ _ (by omega) (fun i hi => by
          rw [Bool.eq_iff_iff, gbk i (by omega), gal i (by omega)])
        have e2 : orAll x y = al := ext_getD _ _ (by rw [orAll_length x y (by omega)]; omega) (fun i hi => by
          rw [orAll_length x y (by omega)] at hi
          rw [orAll_get x y i (by omega) (by omega), Bool.eq_iff_iff, Bool.or_eq_true, gx i (by omega), gy i (by omega), gal i (by omega)])
        have hall : ∀ key, key ∈ la ∨ key ∈ lb → ∀ p ∈ placesOf s hs n key, al.getD p.toNat false = true := by
          intro key hkey p hp
          have hpr := placesOf_range s hs n key hn1 p hp
          refine (gal p.toNat (by omega)).2 ?_
          have ep : ((p.toNat : Nat) : Int) = p := by omega
          rw [ep]
          rcases hkey with h | h
          · exact .inl ⟨key, h, hp⟩
          · exact .inr ⟨key, h, hp⟩
        have eqs : Evt (fun k => rillmeterref10_Equal.f k s hs al s hs al) true := Evt.ge (al.length + 2) (fun k hk => by rw [equal_spec k s hs al s hs al (by omega) hk, decide_eq_true ⟨rfl, rfl, rfl⟩])
        have e0 : ∀ i : Nat, rd_L3 ([la, lb] : List (List ByteArray)) (i : Int) = ([la, lb] : List (List ByteArray)).getD i [] := fun i => by unfold rd_L3; rw [Int.toNat_natCast]
        have f2 : Evt (fun k => rillmeterlaw10_BloomKeeps.l0 k 0 [la, lb] 2 ((1 + 1 : Nat) : Int) s hs al s hs al s hs al) true := by
          refine Evt.step (Evt.bind (f := fun k => rillmeterref10_Equal.f k s hs al s hs al) (g := fun k t263 => (if t263 = true then ((rillmeterlaw10_ref.f s hs al).bind fun bt264 => ((rillmeterlaw10_ref.f s hs al).bind fun bt269 => ((rillmeterref10_Equal.f k bt264.1 bt264.2.1 bt264.2.2 bt269.1 bt269.2.1 bt269.2.2).bind fun t274 => (if t274 = true then ((rillmeterlaw10_awake.f k).bind fun t275 => (some t275)) else (some false))))) else (some false))) eqs (Evt.eq (Evt.bind (f := fun k => rillmeterref10_Equal.f k s hs al s hs al) (g := fun k t274 => (if t274 = true then ((rillmeterlaw10_awake.f k).bind fun t275 => (some t275)) else (some false))) eqs (aw.eq (fun k => if_pos rfl))) (fun k => ?_))) (fun k => ?_)
          · rw [if_pos rfl]; rfl
          · simp only [rillmeterlaw10_BloomKeeps.l0]
            rw [if_neg (by omega), if_pos trivial]
            rfl
        have f1 : Evt (fun k => rillmeterlaw10_BloomKeeps.l0 k 0 [la, lb] 2 ((0 + 1 : Nat) : Int) s hs al s hs al s hs al) true := by
          refine Evt.step (keeps_l1 s hs hs1.1 hs1.2 n hr hn2 [la, lb] 2 1 (by omega) lb (by omega) cb.2 al al al hal (fun key hk => hall key (.inr hk)) lb.length 0 (by omega) (by omega) f2) (fun k => ?_)
          simp only [rillmeterlaw10_BloomKeeps.l0]
          rw [if_pos (by omega), if_pos (by omega), if_pos (by simp)]
          rfl
        have f0 : Evt (fun k => rillmeterlaw10_BloomKeeps.l0 k 0 [la, lb] 2 0 s hs al s hs al s hs al) true := by
          refine Evt.step (keeps_l1 s hs hs1.1 hs1.2 n hr hn2 [la, lb] 2 0 (by omega) la (by omega) ca.2 al al al hal (fun key hk => hall key (.inl hk)) la.length 0 (by omega) (by omega) f1) (fun k => ?_)
          simp only [rillmeterlaw10_BloomKeeps.l0]
          rw [if_pos (by omega), if_pos (by omega), if_pos (by simp)]
          rfl
        have ax := adds_spec s hs hs1.1 hs1.2 n hr hn2 la (by omega) ca.2 z hz
        have ay := adds_spec s hs hs1.1 hs1.2 n hr hn2 lb (by omega) cb.2 z hz
        have aal := adds_spec s hs hs1.1 hs1.2 n hr hn2 lb (by omega) cb.2 x hx
        have abk := adds_spec s hs hs1.1 hs1.2 n hr hn2 la (by omega) ca.2 y hy
        rw [← ex] at ax
        rw [← ey] at ay
        rw [← eal] at aal
        rw [← ebk, e1] at abk
        have mer : Evt (fun k => bloom_Merge.f k s hs x s hs y) (s, hs, al, 0) := Evt.ge (x.length + 3) (fun k hk => by
          rw [merge_spec k s hs x s hs y (by omega) hk, hx, hy, if_pos ⟨hr, hr, rfl, rfl, rfl⟩, e2])
        refine glue _ news (Evt.eq (g := fun k => (rillmeterlaw10_adds.f k s hs z la).bind fun bt216 => ((rillmeterlaw10_adds.f k s hs z lb).bind fun bt221 => ((rillmeterlaw10_adds.f k bt216.1 bt216.2.1 bt216.2.2 lb).bind fun bt228 => ((rillmeterlaw10_adds.f k bt221.1 bt221.2.1 bt221.2.2 la).bind fun bt233 => ((bloom_Merge.f k bt216.1 bt216.2.1 bt216.2.2 bt221.1 bt221.2.1 bt221.2.2).bind fun bt240 => (rillmeterlaw10_BloomKeeps.l0 k bt240.2.2.2 [la, lb] 2 0 bt228.1 bt228.2.1 bt228.2.2 bt233.1 bt233.2.1 bt233.2.2 bt240.1 bt240.2.1 bt240.2.2.1)))))) ?_ (fun k => if_pos rfl))
        refine Evt.bind (f := fun k => rillmeterlaw10_adds.f k s hs z la) (g := fun k bt216 => ((rillmeterlaw10_adds.f k s hs z lb).bind fun bt221 => ((rillmeterlaw10_adds.f k bt216.1 bt216.2.1 bt216.2.2 lb).bind fun bt228 => ((rillmeterlaw10_adds.f k bt221.1 bt221.2.1 bt221.2.2 la).bind fun bt233 => ((bloom_Merge.f k bt216.1 bt216.2.1 bt216.2.2 bt221.1 bt221.2.1 bt221.2.2).bind fun bt240 => (rillmeterlaw10_BloomKeeps.l0 k bt240.2.2.2 [la, lb] 2 0 bt228.1 bt228.2.1 bt228.2.2 bt233.1 bt233.2.1 bt233.2.2 bt240.1 bt240.2.1 bt240.2.2.1)))))) ax ?_
        refine Evt.bind (f := fun k => rillmeterlaw10_adds.f k s hs z lb) (g := fun k bt221 => ((rillmeterlaw10_adds.f k s hs x lb).bind fun bt228 => ((rillmeterlaw10_adds.f k bt221.1 bt221.2.1 bt221.2.2 la).bind fun bt233 => ((bloom_Merge.f k s hs x bt221.1 bt221.2.1 bt221.2.2).bind fun bt240 => (rillmeterlaw10_BloomKeeps.l0 k bt240.2.2.2 [la, lb] 2 0 bt228.1 bt228.2.1 bt228.2.2 bt233.1 bt233.2.1 bt233.2.2 bt240.1 bt240.2.1 bt240.2.2.1))))) ay ?_
        refine Evt.bind (f := fun k => rillmeterlaw10_adds.f k s hs x lb) (g := fun k bt228 => ((rillmeterlaw10_adds.f k s hs y la).bind fun bt233 => ((bloom_Merge.f k s hs x s hs y).bind fun bt240 => (rillmeterlaw10_BloomKeeps.l0 k bt240.2.2.2 [la, lb] 2 0 bt228.1 bt228.2.1 bt228.2.2 bt233.1 bt233.2.1 bt233.2.2 bt240.1 bt240.2.1 bt240.2.2.1)))) aal ?_
        refine Evt.bind (f := fun k => rillmeterlaw10_adds.f k s hs y la) (g := fun k bt233 => ((bloom_Merge.f k s hs x s hs y).bind fun bt240 => (rillmeterlaw10_BloomKeeps.l0 k bt240.2.2.2 [la, lb] 2 0 s hs al bt233.1 bt233.2.1 bt233.2.2 bt240.1 bt240.2.1 bt240.2.2.1))) abk ?_
        exact Evt.bind (f := fun k => bloom_Merge.f k s hs x s hs y) (g := fun k bt240 => (rillmeterlaw10_BloomKeeps.l0 k bt240.2.2.2 [la, lb] 2 0 s hs al s hs al bt240.1 bt240.2.1 bt240.2.2.1)) mer f0
      · rw [if_neg v] at news
        exact glue _ news (aw.eq (fun k => if_neg (by decide)))
    · rw [decide_eq_false cb]
      exact hA
  · rw [decide_eq_false ca]
    exact hA.eq (fun k => if_neg (by decide))

end Go.Proofs.Ytmlcafnnhpfpaaa.Pure
