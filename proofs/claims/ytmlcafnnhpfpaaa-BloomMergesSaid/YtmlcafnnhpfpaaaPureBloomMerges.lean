/- Any two filters are merged as the reference says, or refused. No condition beyond the kinds of the arguments. -/
import Derived.Test.YtmlcafnnhpfpaaaPBloomMergesy
import Derived.Test.YtmlcafnnhpfpaaaBits
import Derived.Test.YtmlcafnnhpfpaaaNum
import Derived.Test.YtmlcafnnhpfpaaaHash
import Derived.Test.YtmlcafnnhpfpaaaBloom
namespace Go.Proofs.Ytmlcafnnhpfpaaa.Pure
open Go.RowKit Go.Proofs.Ytmlcafnnhpfpaaa.PBloomMerges Go.Proofs.YtmlcafnnhpfpaaaW.PrintWords Go.Proofs.YtmlcafnnhpfpaaaW.PrintLast Go.Proofs.Ytmlcafnnhpfpaaa.Bits Go.Proofs.Ytmlcafnnhpfpaaa.Num Go.Proofs.Ytmlcafnnhpfpaaa.Hash Go.Proofs.Ytmlcafnnhpfpaaa.Bloom
set_option linter.unusedSimpArgs false
set_option linter.unusedVariables false

theorem equal_l0 (a b : Int) (l : List Bool) (a' b' : Int) (l' : List Bool) (hl : l.length = l'.length) (hb : l.length ≤ 140737488351232) : ∀ (d k i : Nat), l.length - i = d → i ≤ l.length → d < k →
    rillmeterref10_Equal.l0 k i a b l a' b' l' = some (decide (l.drop i = l'.drop i)) := by
  intro d
  induction d with
  | zero =>
    intro k i h0 h1 h2
    obtain ⟨k, rfl⟩ : ∃ m, k = m + 1 := ⟨k - 1, by omega⟩
    simp only [rillmeterref10_Equal.l0]
    rw [if_neg (by omega), List.drop_of_length_le (by omega), List.drop_of_length_le (by omega), decide_eq_true rfl]
  | succ d ih =>
    intro k i h0 h1 h2
    obtain ⟨k, rfl⟩ : ∃ m, k = m + 1 := ⟨k - 1, by omega⟩
    simp only [rillmeterref10_Equal.l0]
    have g : i < l.length := by omega
    have g' : i < l'.length := by omega
    rw [if_pos (by omega), if_pos (by omega), if_pos (by omega), rdOf_eq false l i g, rdOf_eq false l' i g']
    have e1 := List.drop_eq_getElem_cons g
    have e2 := List.drop_eq_getElem_cons g'
    by_cases e : l[i] = l'[i]
    · rw [if_neg (by simp [e]), i64_in _ (by omega) (by omega), show ((i : Int) + 1) = ((i + 1 : Nat) : Int) by omega, ih k (i + 1) (by omega) (by omega) (by omega), e1, e2, e]
      exact congrArg some (decide_eq_decide.2 ⟨fun h => by rw [h], fun h => (List.cons.inj h).2⟩)
    · rw [if_pos (by simpa using e), e1, e2]
      exact congrArg some (decide_eq_false (fun h => e (List.cons.inj h).1)).symm

theorem equal_spec (k : Nat) (a b : Int) (l : List Bool) (a' b' : Int) (l' : List Bool) (hb : l.length ≤ 140737488351232) (hk : l.length + 2 ≤ k) :
    rillmeterref10_Equal.f k a b l a' b' l' = some (decide (a = a' ∧ b = b' ∧ l = l')) := by
  obtain ⟨k, rfl⟩ : ∃ m, k = m + 1 := ⟨k - 1, by omega⟩
  unfold rillmeterref10_Equal.f
  simp only [rillmeterref10_Equal.j0]
  by_cases e1 : a = a'
  · by_cases e2 : b = b'
    · by_cases e3 : l.length = l'.length
      · have h := equal_l0 a b l a' b' l' e3 hb l.length k 0 (by omega) (by omega) (by omega)
        rw [if_pos e1, if_pos e2, if_neg (by simp [e3])]
        rw [show ((0 : Nat) : Int) = 0 from rfl] at h
        rw [h]
        simp [e1, e2]
      · have : ¬ l = l' := fun h => e3 (by rw [h])
        have e3' : ¬ (l.length : Int) = (l'.length : Int) := by omega
        rw [if_pos e1, if_pos e2, if_pos (by simpa using e3')]
        simp [this]
    · simp [e1, e2]
  · simp [e1]

def rightB (hs : Int) (n : Nat) : Bool := decide (1 ≤ hs ∧ hs ≤ 7 ∧ 1 ≤ n ∧ n ≤ 256)

theorem right_spec (s hs : Int) (l : List Bool) : bloom_Right.f s hs l = some (rightB hs l.length) := by
  unfold bloom_Right.f rightB
  by_cases a : hs ≥ 1
  · rw [if_pos a]
    by_cases b : hs ≤ 7
    · rw [if_pos b]
      by_cases c : (l.length : Int) ≥ 1
      · rw [if_pos c]; exact congrArg some (decide_eq_decide.2 (by omega))
      · rw [if_neg c]; exact congrArg some (decide_eq_false (by omega)).symm
    · rw [if_neg b]; exact congrArg some (decide_eq_false (by omega)).symm
  · rw [if_neg a]; exact congrArg some (decide_eq_false (by omega)).symm

theorem new_spec (k : Nat) (s b hs : Int) (hk : 1 ≤ k) : bloom_New.f k s b hs = some (if 1 ≤ b ∧ b ≤ 256 ∧ 1 ≤ hs ∧ hs ≤ 7 then (s, hs, List.replicate b.toNat false, 0) else (0, 0, [], 1)) := by
  obtain ⟨k, rfl⟩ : ∃ m, k = m + 1 := ⟨k - 1, by omega⟩
  unfold bloom_New.f
  simp only [bloom_New.j0, right_spec, Option.bind_some, List.length_replicate]
  by_cases v : 1 ≤ b ∧ b ≤ 256 ∧ 1 ≤ hs ∧ hs ≤ 7
  · have r : rightB hs b.toNat = true := by unfold rightB; exact decide_eq_true (by omega)
    have c : ¬ b > 256 := by omega
    rw [if_pos v, if_neg (by omega), decide_eq_false c, if_neg (by decide), if_pos (by omega), if_pos (by omega), r]; rfl
  · rw [if_neg v]
    by_cases a : b < 1
    · rw [if_pos a]; rfl
    · rw [if_neg a]
      by_cases c : b > 256
      · rw [decide_eq_true c]; rfl
      · have r : rightB hs b.toNat = false := by unfold rightB; exact decide_eq_false (by omega)
        rw [decide_eq_false c, if_neg (by decide), if_pos (by omega), if_pos (by omega), r]; rfl

theorem set_l0 (s hs : Int) (l : List Bool) (hb : l.length ≤ 140737488351232) : ∀ (d k i : Nat) (n : Nat), l.length - i = d → i ≤ l.length → n ≤ i → d < k →
    bloom_Set.l0 k n l l.length i s hs l = some ((n + (if rightB hs l.length then (l.drop i).count true else 0) : Nat) : Int) := by
  intro d
  induction d with
  | zero =>
    intro k i n h0 h1 hn h2
    obtain ⟨k, rfl⟩ : ∃ m, k = m + 1 := ⟨k - 1, by omega⟩
    simp only [bloom_Set.l0]
    rw [if_neg (by omega), List.drop_of_length_le (by omega)]
    simp
  | succ d ih =>
    intro k i n h0 h1 hn h2
    obtain ⟨k, rfl⟩ : ∃ m, k = m + 1 := ⟨k - 1, by omega⟩
    simp only [bloom_Set.l0, right_spec]
    have g : i < l.length := by omega
    rw [if_pos (by omega), if_pos (by omega), if_pos (by omega), rdOf_eq false l i g, List.drop_eq_getElem_cons g, i64_in ((i : Int) + 1) (by omega) (by omega), i64_in ((n : Int) + 1) (by omega) (by omega),
      show ((i : Int) + 1) = ((i + 1 : Nat) : Int) by omega, show ((n : Int) + 1) = ((n + 1 : Nat) : Int) by omega]
    rw [ih k (i + 1) (n + 1) (by omega) (by omega) (by omega) (by omega), ih k (i + 1) n (by omega) (by omega) (by omega) (by omega)]
    simp only [Option.bind_some]
    by_cases e : l[i] = true
    · rw [if_pos e, e, List.count_cons_self]
      by_cases r : rightB hs l.length = true
      · rw [if_pos r, if_pos r, if_pos r]; congr 2; omega
      · rw [if_neg r, if_neg r, if_neg r]
    · rw [if_neg e, List.count_cons_of_ne (by simpa using e)]

theorem set_spec (k : Nat) (s hs : Int) (l : List Bool) (hb : l.length ≤ 140737488351232) (hk : l.length + 1 ≤ k) :
    bloom_Set.f k s hs l = some ((if rightB hs l.length then l.count true else 0 : Nat) : Int) := by
  have h := set_l0 s hs l hb l.length k 0 0 (by omega) (by omega) (by omega) (by omega)
  rw [show ((0 : Nat) : Int) = 0 from rfl, Nat.zero_add, List.drop_zero] at h
  exact h

theorem of_spec (a : Int) (h0 : 0 ≤ a) (h1 : a < 18446744073709551616) : field_Of.f a = some (a % 2305843009213693951) := by
  unfold field_Of.f
  rw [and_p a h0 h1, u64_in _ (by omega) (by omega)]
  split
  · rw [u64_in _ (by omega) (by omega)]
    exact congrArg some (by omega)
  · exact congrArg some (by omega)

theorem add_spec (a b : Int) (h0 : 0 ≤ a) (h1 : a < 18446744073709551616) (g0 : 0 ≤ b) (g1 : b < 18446744073709551616) :
    field_Add.f a b = some ((a + b) % 2305843009213693951) := by
  unfold field_Add.f
  rw [of_spec a h0 h1, of_spec b g0 g1]
  simp only [Option.bind_some]
  rw [u64_in _ (by omega) (by omega), of_spec _ (by omega) (by omega)]
  simp only [Option.bind_some]
  exact congrArg some (by omega)

theorem mul64_spec (a b : Int) (h0 : 0 ≤ a) (h1 : a < 18446744073709551616) (g0 : 0 ≤ b) (g1 : b < 18446744073709551616) :
    bits_Mul64.f a b = some (a * b / 18446744073709551616, a * b % 18446744073709551616) := by
  unfold bits_Mul64.f
  have hh := halves a b
  obtain ⟨p0, p1⟩ := mul_bd (a := a / 4294967296) (b := b / 4294967296) (by omega) (by omega) (by omega) (by omega)
  obtain ⟨q0, q1⟩ := mul_bd (a := a / 4294967296) (b := b % 4294967296) (by omega) (by omega) (by omega) (by omega)
  obtain ⟨r0, r1⟩ := mul_bd (a := a % 4294967296) (b := b / 4294967296) (by omega) (by omega) (by omega) (by omega)
  obtain ⟨s0, s1⟩ := mul_bd (a := a % 4294967296) (b := b % 4294967296) (by omega) (by omega) (by omega) (by omega)
  rw [and_32 a h0 h1, and_32 b g0 g1]
  generalize a / 4294967296 * (b / 4294967296) = p at *
  generalize a / 4294967296 * (b % 4294967296) = q at *
  generalize a % 4294967296 * (b / 4294967296) = r at *
  generalize a % 4294967296 * (b % 4294967296) = s at *
  generalize a * b = m at *
  clear h0 h1 g0 g1
  rw [u64_in p (by omega) (by omega), u64_in q (by omega) (by omega), u64_in r (by omega) (by omega), u64_in s (by omega) (by omega)]
  rw [u64_in (q + s / 4294967296) (by omega) (by omega)]
  rw [and_32 _ (by omega) (by omega)]
  rw [u64_in (p + _) (by omega) (by omega), u64_in (_ + r) (by omega) (by omega), wrap_u64 m]
  rw [u64_in _ (by omega) (by omega)]
  exact congrArg some (Prod.ext (by show _ = _; omega) rfl)

theorem mul_spec (a b : Int) (h0 : 0 ≤ a) (h1 : a < 18446744073709551616) (g0 : 0 ≤ b) (g1 : b < 18446744073709551616) :
    field_Mul.f a b = some (a * b % 2305843009213693951) := by
  unfold field_Mul.f
  rw [of_spec a h0 h1, of_spec b g0 g1, Int.mul_emod]
  simp only [Option.bind_some]
  have x0 : 0 ≤ a % 2305843009213693951 := by omega
  have x1 : a % 2305843009213693951 ≤ 2305843009213693950 := by omega
  have y0 : 0 ≤ b % 2305843009213693951 := by omega
  have y1 : b % 2305843009213693951 ≤ 2305843009213693950 := by omega
  generalize a % 2305843009213693951 = x at *
  generalize b % 2305843009213693951 = y at *
  rw [mul64_spec x y x0 (by omega) y0 (by omega)]
  simp only [Option.bind_some]
  have hm : 0 ≤ x * y ∧ x * y ≤ 2305843009213693950 * 2305843009213693950 := ⟨Int.mul_nonneg x0 y0, Int.mul_le_mul x1 y1 y0 (by omega)⟩
  generalize x * y = m at *
  obtain ⟨m0, m1⟩ := hm
  rw [and_p _ (by omega) (by omega)]
  rw [u64_in (_ * 8) (by omega) (by omega)]
  rw [or_3 _ _ (by omega) (by omega) (by omega) (by omega) (by omega)]
  rw [u64_in _ (by omega) (by omega), of_spec _ (by omega) (by omega)]
  simp only [Option.bind_some]
  exact congrArg some (by omega)

theorem sq_half (x n : Int) (h0 : 0 ≤ n) : (x * x % 2305843009213693951) ^ (n / 2).toNat % 2305843009213693951 = x ^ (2 * (n.toNat / 2)) % 2305843009213693951 := by
  rw [pow_emod, Int.pow_mul, show (n / 2).toNat = n.toNat / 2 by omega, show x ^ 2 = x * x by grind]

theorem pow_l0 (d : Nat) : ∀ (k : Nat) (x n out : Int), 0 ≤ x → x < 2305843009213693951 → 0 ≤ n → n < 18446744073709551616 → n < 2 ^ d → 0 ≤ out → out < 2305843009213693951 → d < k →
    field_Pow.l0 k x n out = some (out * x ^ n.toNat % 2305843009213693951) := by
  induction d with
  | zero =>
    intro k x n out x0 x1 n0 n1 nd o0 o1 hk
    obtain ⟨k, rfl⟩ : ∃ m, k = m + 1 := ⟨k - 1, by omega⟩
    have hn : n = 0 := by simp at nd; omega
    simp only [field_Pow.l0]
    rw [if_neg (by omega), hn]
    exact congrArg some (by simp; omega)
  | succ d ih =>
    intro k x n out x0 x1 n0 n1 nd o0 o1 hk
    obtain ⟨k, rfl⟩ : ∃ m, k = m + 1 := ⟨k - 1, by omega⟩
    simp only [field_Pow.l0]
    by_cases hp : n > 0
    · rw [if_pos hp, and_1 n n0 n1, mul_spec x x x0 (by omega) x0 (by omega), mul_spec out x o0 (by omega) x0 (by omega)]
      simp only [Option.bind_some]
      have hd : n / 2 < 2 ^ d := by rw [Int.pow_succ] at nd; omega
      split
      · rw [ih k _ (n / 2) _ (by omega) (by omega) (by omega) (by omega) hd (by omega) (by omega) (by omega)]
        have e : n.toNat = 2 * (n.toNat / 2) + 1 := by omega
        refine congrArg some ?_
        rw [Int.mul_emod, sq_half x n n0, ← Int.mul_emod]
        rw [Int.mul_emod, Int.emod_emod, ← Int.mul_emod]
        conv => rhs; rw [e, Int.pow_succ, Int.mul_comm _ x, ← Int.mul_assoc]
      · rw [ih k _ (n / 2) _ (by omega) (by omega) (by omega) (by omega) hd o0 o1 (by omega)]
        have e : n.toNat = 2 * (n.toNat / 2) := by omega
        refine congrArg some ?_
        rw [Int.mul_emod, sq_half x n n0, ← Int.mul_emod]
        conv => rhs; rw [e]
    · have hn : n = 0 := by omega
      rw [if_neg hp, hn]
      exact congrArg some (by simp; omega)

theorem pow_spec (k : Nat) (a n : Int) (h0 : 0 ≤ a) (h1 : a < 18446744073709551616) (g0 : 0 ≤ n) (g1 : n < 18446744073709551616) (hk : 65 ≤ k) :
    field_Pow.f k a n = some (a ^ n.toNat % 2305843009213693951) := by
  unfold field_Pow.f
  rw [of_spec a h0 h1]
  simp only [Option.bind_some]
  rw [pow_l0 64 k _ n 1 (by omega) (by omega) g0 g1 (by omega) (by omega) (by omega) (by omega), Int.one_mul, pow_emod]

theorem sum_step (s : ByteArray) (a n i x j j' : Int) (k : Nat) (hj : j' = j + 1) (hs : s.size ≤ 140737488351232) (i0 : 0 ≤ i) (i1 : i ≤ s.size) (j0 : 0 ≤ j) (j1 : j < 4) (x0 : 0 ≤ x) (x1 : x < 72057594037927936) :
    hash_Sum.l1 (k + 1) s a n i x j = hash_Sum.l1 k s a n i (x * 256 + bt s (i + j)) j' := by
  subst hj
  have hb := bt_range s (i + j)
  conv => lhs; unfold hash_Sum.l1
  rw [if_pos j1, i64_in (i + j) (by omega) (by omega), i64_in (j + 1) (by omega) (by omega), u64_in (x * 256) (by omega) (by omega), u64_in (bt s (i + j)) (by omega) (by omega)]
  by_cases h : i + j < (s.size : Int)
  · rw [if_pos h, if_pos (by omega), or_8 (x * 256) _ (by omega) (by omega) (by omega) (by omega) (by omega)]
  · rw [if_neg h, bt_out s (i + j) (by omega), Int.add_zero]

theorem sum_word (s : ByteArray) (a n i : Int) (k : Nat) (hs : s.size ≤ 140737488351232) (i0 : 0 ≤ i) (i1 : i ≤ s.size) :
    hash_Sum.l1 (k + 4) s a n i 0 0 = hash_Sum.l1 k s a n i (wordAt s i) 4 := by
  have h0 := bt_range s i
  have h1 := bt_range s (i + 1)
  have h2 := bt_range s (i + 2)
  rw [sum_step s a n i 0 0 1 (k + 3) (by omega) hs i0 i1 (by omega) (by omega) (by omega) (by omega), Int.add_zero, Int.zero_mul, Int.zero_add,
    sum_step s a n i _ 1 2 (k + 2) (by omega) hs i0 i1 (by omega) (by omega) (by omega) (by omega),
    sum_step s a n i _ 2 3 (k + 1) (by omega) hs i0 i1 (by omega) (by omega) (by omega) (by omega),
    sum_step s a n i _ 3 4 k (by omega) hs i0 i1 (by omega) (by omega) (by omega) (by omega)]
  rfl

theorem sum_l0 (s : ByteArray) (a : Int) (hs : s.size ≤ 140737488351232) (a0 : 0 ≤ a) (a1 : a < 18446744073709551616) : ∀ (m k : Nat) (n i : Int), 0 ≤ i → (s.size : Int) ≤ i + 4 * m → i < (s.size : Int) + 4 → (0 < m → i + 4 * m < (s.size : Int) + 4) →
    0 ≤ n → n < 18446744073709551616 → 6 * m + 66 ≤ k →
    hash_Sum.l0 k s a n i = some ((roll s a m n i * a) ^ 17 % 2305843009213693951) := by
  intro m
  induction m with
  | zero =>
    intro k n i i0 i1 i2 i3 n0 n1 hk
    obtain ⟨k, rfl⟩ : ∃ m, k = m + 1 := ⟨k - 1, by omega⟩
    unfold hash_Sum.l0
    rw [if_neg (by omega), mul_spec n a n0 n1 a0 a1]
    simp only [Option.bind_some]
    rw [pow_spec k _ 17 (by omega) (by omega) (by omega) (by omega) (by omega), show (17 : Int).toNat = 17 from rfl, pow_emod]
    rfl
  | succ m ih =>
    intro k n i i0 i1 i2 i3 n0 n1 hk
    obtain ⟨k, rfl⟩ : ∃ m, k = m + 1 := ⟨k - 1, by omega⟩
    obtain ⟨k, rfl⟩ : ∃ m, k = m + 4 := ⟨k - 4, by omega⟩
    have hw := wordAt_range s i
    have i4 : i < (s.size : Int) := by omega
    unfold hash_Sum.l0
    rw [if_pos i4, sum_word s a n i k hs i0 (by omega)]
    obtain ⟨k, rfl⟩ : ∃ m, k = m + 1 := ⟨k - 1, by omega⟩
    unfold hash_Sum.l1
    rw [if_neg (by omega), mul_spec n a n0 n1 a0 a1, u64_in _ (by omega) (by omega)]
    simp only [Option.bind_some]
    rw [add_spec _ _ (by omega) (by omega) (by omega) (by omega), i64_in (i + 4) (by omega) (by omega)]
    simp only [Option.bind_some]
    rw [ih k _ (i + 4) (by omega) (by omega) (by omega) (by omega) (by omega) (by omega) (by omega)]
    simp only [roll]
    have e : (n * a % 2305843009213693951 + (wordAt s i + 1)) % 2305843009213693951 = (n * a + wordAt s i + 1) % 2305843009213693951 := by omega
    rw [e]

theorem sum_spec (k : Nat) (seed : Int) (s : ByteArray) (hs : s.size ≤ 140737488351232) (h0 : 0 ≤ seed) (h1 : seed < 18446744073709551616) (hk : 6 * words s + 66 ≤ k) :
    hash_Sum.f k seed s = some (hsum seed s) := by
  unfold hash_Sum.f
  rw [add_spec seed 2 h0 h1 (by omega) (by omega), u64_in _ (by omega) (by omega)]
  simp only [Option.bind_some]
  have hw : words s = (s.size + 3) / 4 := rfl
  exact sum_l0 s _ hs (by omega) (by omega) (words s) k s.size 0 (by omega) (by omega) (by omega) (by omega) (by omega) (by omega) hk

theorem cell_spec (k : Nat) (seed : Int) (key : ByteArray) (n : Int) (hs : key.size ≤ 140737488351232) (h0 : 0 ≤ seed) (h1 : seed < 18446744073709551616) (hn : n < 9223372036854775808) (hk : 6 * words key + 66 ≤ k) :
    hash_Cell.f k seed key n = some (hcell seed key n) := by
  unfold hash_Cell.f hcell
  by_cases a : n < 1
  · rw [if_pos a, if_pos a]
  · rw [if_neg a, if_neg a, sum_spec k seed key hs h0 h1 hk]
    simp only [Option.bind_some]
    have r := hsum_range seed key
    have r1 := Int.emod_nonneg (hsum seed key) (b := n) (by omega)
    have r2 := Int.emod_lt_of_pos (hsum seed key) (b := n) (by omega)
    rw [u64_in n (by omega) (by omega), if_neg (by omega), Int.tmod_eq_emod_of_nonneg r.1, i64_in _ (by omega) (by omega)]

theorem row_spec (seed i : Int) (h0 : 0 ≤ seed) (h1 : seed < 18446744073709551616) (hi : i < 9223372036854775808) : hash_Row.f seed i = some (hrow seed i) := by
  unfold hash_Row.f hrow hmid
  have e : mx i 0 = if i < 0 then 0 else i := rfl
  rw [e, add_spec seed 3 h0 h1 (by omega) (by omega)]
  generalize hj : (if i < 0 then (0 : Int) else i) = j
  have hj0 : 0 ≤ j ∧ j < 9223372036854775808 := by rw [← hj]; split <;> omega
  simp only [Option.bind_some]
  rw [u64_in j (by omega) (by omega), add_spec j 2 (by omega) (by omega) (by omega) (by omega)]
  simp only [Option.bind_some]
  rw [mul_spec _ _ (by omega) (by omega) (by omega) (by omega)]
  simp only [Option.bind_some]
  rw [add_spec _ 5 (by omega) (by omega) (by omega) (by omega)]
  simp only [Option.bind_some]
  rw [mul_spec _ _ (by omega) (by omega) (by omega) (by omega)]
  rfl

theorem places_l0 (seed hs : Int) (bits : List Bool) (key : ByteArray) (h0 : 0 ≤ seed) (h1 : seed < 18446744073709551616) (hh : hs ≤ 7) (hb : bits.length ≤ 1000000) (hkey : key.size ≤ 1000000) : ∀ (m k j : Nat) (l : List Int), (j : Int) + m = hs → l.length = j → m + 6 * words key + 68 ≤ k →
    bloom_Places.l0 k key l hs j seed hs bits = some (l ++ (List.range' j m).map (fun (i : Nat) => hcell (hrow seed (i : Int)) key bits.length)) := by
  intro m
  induction m with
  | zero =>
    intro k j l hj hl hk
    obtain ⟨k, rfl⟩ : ∃ m, k = m + 1 := ⟨k - 1, by omega⟩
    simp only [bloom_Places.l0]
    rw [if_neg (by omega)]
    simp
  | succ m ih =>
    intro k j l hj hl hk
    obtain ⟨k, rfl⟩ : ∃ m, k = m + 1 := ⟨k - 1, by omega⟩
    have hr := hrow_range seed j
    simp only [bloom_Places.l0]
    rw [if_pos (by omega), row_spec seed j h0 h1 (by omega)]
    simp only [Option.bind_some]
    rw [cell_spec k _ key _ (by omega) hr.1 (by omega) (by omega) (by omega), i64_in ((j : Int) + 1) (by omega) (by omega)]
    simp only [Option.bind_some]
    rw [if_pos (by omega), show (j : Int) + 1 = ((j + 1 : Nat) : Int) by omega, ih k (j + 1) _ (by omega) (by simp [hl]) (by omega)]
    rw [List.range'_succ, List.map_cons, List.append_assoc]
    rfl

theorem places_spec (k : Nat) (seed hs : Int) (bits : List Bool) (key : ByteArray) (h0 : 0 ≤ seed) (h1 : seed < 18446744073709551616) (hb : bits.length ≤ 1000000) (hkey : key.size ≤ 1000000) (hk : 6 * words key + 75 ≤ k) :
    bloom_Places.f k seed hs bits key = some (if rightB hs bits.length then placesOf seed hs bits.length key else []) := by
  unfold bloom_Places.f
  rw [right_spec]
  simp only [Option.bind_some]
  by_cases r : rightB hs bits.length = true
  · rw [if_pos r, if_pos r]
    have r2 := of_decide_eq_true r
    have h := places_l0 seed hs bits key h0 h1 (by omega) hb hkey hs.toNat k 0 [] (by omega) rfl (by omega)
    rw [show ((0 : Nat) : Int) = 0 from rfl] at h
    rw [h]; rfl
  · rw [if_neg r, if_neg r]

theorem clone_spec (l : List Bool) (h : l.length < 140737488355328) : slices_Clone_bool_bool.f l = some l := by
  unfold slices_Clone_bool_bool.f
  simp only [Option.bind_some, List.length_nil, Nat.zero_add, List.nil_append]
  rw [if_pos h]

theorem add_l0 (s hs : Int) (ps : List Int) (hl : ps.length ≤ 1000000) : ∀ (d k i : Nat) (bits : List Bool), ps.length - i = d → i ≤ ps.length → d < k → (∀ p ∈ ps, 0 ≤ p ∧ p < bits.length) →
    bloom_Add.l0 k ps ps.length i s hs bits = some (s, hs, setAll bits (ps.drop i)) := by
  intro d
  induction d with
  | zero =>
    intro k i bits h0 h1 h2 hp
    obtain ⟨k, rfl⟩ : ∃ m, k = m + 1 := ⟨k - 1, by omega⟩
    simp only [bloom_Add.l0]
    rw [if_neg (by omega), List.drop_of_length_le (by omega)]
    rfl
  | succ d ih =>
    intro k i bits h0 h1 h2 hp
    obtain ⟨k, rfl⟩ : ∃ m, k = m + 1 := ⟨k - 1, by omega⟩
    have g : i < ps.length := by omega
    have e : rd ps i = ps[i] := by simp [rd, g]
    have hq := hp ps[i] (List.getElem_mem g)
    simp only [bloom_Add.l0]
    rw [if_pos (by omega), if_pos (by omega), if_pos (by omega), e, if_pos hq.1, if_pos hq.2, i64_in ((i : Int) + 1) (by omega) (by omega), show (i : Int) + 1 = ((i + 1 : Nat) : Int) by omega,
      ih k (i + 1) _ (by omega) (by omega) (by omega) (by simpa using hp), List.drop_eq_getElem_cons g]
    rfl

theorem addf_spec (k : Nat) (seed hs : Int) (bits : List Bool) (key : ByteArray) (h0 : 0 ≤ seed) (h1 : seed < 18446744073709551616) (hb : bits.length ≤ 1000000) (hkey : key.size ≤ 1000000) (hk : 6 * words key + 75 ≤ k) :
    bloom_Add.f k seed hs bits key = some (seed, hs, if rightB hs bits.length then setAll bits (placesOf seed hs bits.length key) else bits) := by
  unfold bloom_Add.f
  rw [clone_spec bits (by omega)]
  simp only [Option.bind_some]
  rw [places_spec k seed hs bits key h0 h1 hb hkey hk]
  simp only [Option.bind_some]
  by_cases r : rightB hs bits.length = true
  · rw [if_pos r, if_pos r]
    have r2 := of_decide_eq_true r
    have hpl := placesOf_length seed hs bits.length key
    have h := add_l0 seed hs (placesOf seed hs bits.length key) (by omega) (placesOf seed hs bits.length key).length k 0 bits (by omega) (by omega) (by omega) (placesOf_range seed hs bits.length key (by omega))
    rw [show ((0 : Nat) : Int) = 0 from rfl, List.drop_zero] at h
    exact h
  · rw [if_neg r, if_neg r]
    obtain ⟨k, rfl⟩ : ∃ m, k = m + 1 := ⟨k - 1, by omega⟩
    simp only [bloom_Add.l0]
    rfl

theorem all_spec (bits : List Bool) (ps : List Int) (hp : ∀ p ∈ ps, 0 ≤ p ∧ p < bits.length) : bloom_Has.all bits ps = some (decide (∀ p ∈ ps, bits.getD p.toNat false = true)) := by
  induction ps with
  | nil => simp [bloom_Has.all]
  | cons p ps ih =>
    have hq := hp p (by simp)
    simp only [bloom_Has.all]
    rw [if_pos hq.1, if_pos hq.2, ih (fun q h => hp q (by simp [h]))]
    have e : rdOf false bits p = bits.getD p.toNat false := rfl
    rw [e]
    by_cases b : bits.getD p.toNat false = true
    · rw [if_pos b]
      exact congrArg some (decide_eq_decide.2 ⟨fun h q hq => by rcases List.mem_cons.1 hq with rfl | hq; exact b; exact h q hq, fun h q hq => h q (by simp [hq])⟩)
    · rw [if_neg b]
      exact congrArg some (decide_eq_false (fun h => b (h p (by simp)))).symm

theorem has_spec (k : Nat) (seed hs : Int) (bits : List Bool) (key : ByteArray) (h0 : 0 ≤ seed) (h1 : seed < 18446744073709551616) (hb : bits.length ≤ 1000000) (hkey : key.size ≤ 1000000) (hk : 6 * words key + 75 ≤ k) :
    bloom_Has.f k seed hs bits key = some (rightB hs bits.length && decide (∀ p ∈ placesOf seed hs bits.length key, bits.getD p.toNat false = true)) := by
  unfold bloom_Has.f
  rw [right_spec]
  simp only [Option.bind_some]
  by_cases r : rightB hs bits.length = true
  · have r2 := of_decide_eq_true r
    rw [if_pos r, places_spec k seed hs bits key h0 h1 hb hkey hk, if_pos r, r]
    simp only [Option.bind_some, Bool.true_and]
    exact all_spec bits _ (placesOf_range seed hs bits.length key (by omega))
  · rw [if_neg r, Bool.eq_false_iff.2 r]; rfl

theorem awake_spec (k : Nat) (hk : 100 ≤ k) : rillmeterlaw10_awake.f k = some true :=
  at_rounds (g := fun k => rillmeterlaw10_awake.f k) rillmeterlaw10_awake.mono hk (by decide +kernel)

theorem rright_spec (s hs : Int) (l : List Bool) : rillmeterref10_Right.f s hs l = some (rightB hs l.length) := by
  unfold rillmeterref10_Right.f rightB
  by_cases a : hs > 0
  · rw [if_pos a]
    by_cases b : hs < 8
    · rw [if_pos b]
      by_cases c : (l.length : Int) > 0
      · rw [if_pos c]; exact congrArg some (decide_eq_decide.2 (by omega))
      · rw [if_neg c]; exact congrArg some (decide_eq_false (by omega)).symm
    · rw [if_neg b]; exact congrArg some (decide_eq_false (by omega)).symm
  · rw [if_neg a]; exact congrArg some (decide_eq_false (by omega)).symm

theorem merge_l0 (s hs : Int) (a b : List Bool) (hl : a.length = b.length) (hb : a.length ≤ 1000000) : ∀ (d k i : Nat) (m : List Bool), b.length - i = d → i ≤ b.length → m.length = a.length →
    (∀ j, j < i → m.getD j false = (a.getD j false || b.getD j false)) → (∀ j, i ≤ j → m.getD j false = a.getD j false) → d < k →
    bloom_Merge.l0 k b b.length i s hs m = some (s, hs, orAll a b, 0) := by
  intro d
  induction d with
  | zero =>
    intro k i m h0 h1 hm h2 h3 hk
    obtain ⟨k, rfl⟩ : ∃ m, k = m + 1 := ⟨k - 1, by omega⟩
    simp only [bloom_Merge.l0]
    rw [if_neg (by omega)]
    have e : m = orAll a b := by
      apply ext_getD
      · rw [hm, orAll_length a b hl]
      · intro j hj
        rw [orAll_get a b j (by omega) (by omega)]
        exact h2 j (by omega)
    rw [e]
  | succ d ih =>
    intro k i m h0 h1 hm h2 h3 hk
    obtain ⟨k, rfl⟩ : ∃ m, k = m + 1 := ⟨k - 1, by omega⟩
    have g : i < b.length := by omega
    have gm : i < m.length := by omega
    have ga : i < a.length := by omega
    have ei := h3 i (Nat.le_refl _)
    have e0 : rdOf false m (i : Int) = a.getD i false := ei
    have e1 : rdOf false b (i : Int) = b.getD i false := rfl
    simp only [bloom_Merge.l0]
    rw [if_pos (by omega), if_pos (by omega), if_pos (by omega), if_pos (by omega), e0, e1, i64_in ((i : Int) + 1) (by omega) (by omega), show (i : Int) + 1 = ((i + 1 : Nat) : Int) by omega, Int.toNat_natCast]
    have next : ∀ v, v = (a.getD i false || b.getD i false) → bloom_Merge.l0 k b b.length ((i + 1 : Nat) : Int) s hs (m.set i v) = some (s, hs, orAll a b, 0) := by
      intro v hv
      refine ih k (i + 1) (m.set i v) (by omega) (by omega) (by simpa using hm) (fun j hj => ?_) (fun j hj => ?_) (by omega)
      · by_cases e : j = i
        · subst e
          rw [getD_eq _ j (by simpa using gm), List.getElem_set_self, hv]
        · have := h2 j (by omega)
          simp only [List.getD_eq_getElem?_getD, List.getElem?_set] at this ⊢
          rw [if_neg (by omega)]; exact this
      · have := h3 j (by omega)
        simp only [List.getD_eq_getElem?_getD, List.getElem?_set] at this ⊢
        rw [if_neg (by omega)]; exact this
    by_cases c : a.getD i false = true
    · rw [if_pos c]; exact next true (by rw [c]; rfl)
    · rw [if_neg c]; exact next _ (by rw [Bool.eq_false_iff.2 c]; rfl)

theorem merge_spec (k : Nat) (s hs : Int) (a : List Bool) (s' hs' : Int) (b : List Bool) (ha : a.length ≤ 1000000) (hk : a.length + 3 ≤ k) :
    bloom_Merge.f k s hs a s' hs' b = some (if rightB hs a.length = true ∧ rightB hs' b.length = true ∧ s = s' ∧ hs = hs' ∧ a.length = b.length then (s, hs, orAll a b, 0) else (0, 0, [], 1)) := by
  obtain ⟨k, rfl⟩ : ∃ m, k = m + 1 := ⟨k - 1, by omega⟩
  unfold bloom_Merge.f
  have hno : ∀ c, c = true → bloom_Merge.j0 (k + 1) c s hs a s' hs' b = some (0, 0, [], 1) := by
    intro c hc
    simp only [bloom_Merge.j0]
    rw [if_pos hc]
  rw [right_spec, right_spec]
  simp only [Option.bind_some]
  by_cases r : rightB hs a.length = true
  · rw [if_pos r]
    by_cases r' : rightB hs' b.length = true
    · rw [if_pos r']
      by_cases e1 : s = s'
      · rw [if_pos e1]
        by_cases e2 : hs = hs'
        · rw [if_pos e2]
          by_cases e3 : a.length = b.length
          · rw [if_pos ⟨r, r', e1, e2, e3⟩]
            simp only [bloom_Merge.j0]
            rw [if_neg (by simp [e3]), clone_spec a (by omega)]
            simp only [Option.bind_some]
            have h := merge_l0 s hs a b e3 ha b.length k 0 a (by omega) (by omega) rfl (fun j hj => by omega) (fun j _ => rfl) (by omega)
            exact h
          · rw [if_neg (fun h => e3 h.2.2.2.2)]
            exact hno _ (by simp; omega)
        · rw [if_neg e2, if_neg (fun h => e2 h.2.2.2.1)]; exact hno true rfl
      · rw [if_neg e1, if_neg (fun h => e1 h.2.2.1)]; exact hno true rfl
    · rw [if_neg r', if_neg (fun h => r' h.2.1)]; exact hno true rfl
  · rw [if_neg r, if_neg (fun h => r h.1)]; exact hno true rfl

theorem merges_l0 (s hs : Int) (a b : List Bool) (hl : a.length = b.length) (hb : a.length ≤ 300) : ∀ (d k i : Nat), a.length - i = d → i ≤ a.length → d + 200 ≤ k →
    rillmeterlaw10_BloomMerges.l0 k 0 (orAll a b).length i s hs a s hs b s hs (orAll a b) = some true := by
  have ho := orAll_length a b hl
  intro d
  induction d with
  | zero =>
    intro k i h0 h1 h2
    obtain ⟨k, rfl⟩ : ∃ m, k = m + 1 := ⟨k - 1, by omega⟩
    simp only [rillmeterlaw10_BloomMerges.l0]
    rw [if_neg (by omega), awake_spec k (by omega)]
    rfl
  | succ d ih =>
    intro k i h0 h1 h2
    obtain ⟨k, rfl⟩ : ∃ m, k = m + 1 := ⟨k - 1, by omega⟩
    have g := orAll_get a b i (by omega) (by omega)
    have e0 : rdOf false (orAll a b) (i : Int) = (a.getD i false || b.getD i false) := g
    have e1 : rdOf false a (i : Int) = a.getD i false := rfl
    have e2 : rdOf false b (i : Int) = b.getD i false := rfl
    have h := ih k (i + 1) (by omega) (by omega) (by omega)
    simp only [rillmeterlaw10_BloomMerges.l0]
    rw [if_pos (by omega), if_pos (by omega), if_pos (by omega), if_pos (by omega), e0, e1, e2, i64_in ((i : Int) + 1) (by omega) (by omega), show (i : Int) + 1 = ((i + 1 : Nat) : Int) by omega]
    by_cases c : a.getD i false = true
    · rw [if_pos c, c, if_neg (by simp)]; exact h
    · rw [if_neg c, if_pos (by omega), Bool.eq_false_iff.2 c, if_neg (by simp)]; exact h

theorem BloomMerges : rillmeterlaw10_BloomMerges.Pure := by
  intro s hs a s' hs' b _ _ _ _ _ _
  refine ⟨2000, ?_⟩
  generalize hK : 2000 = K
  obtain ⟨k, rfl⟩ : ∃ m, K = m + 1 := ⟨K - 1, by omega⟩
  have hend : rillmeterlaw10_BloomMerges.j0 (k + 1) true s hs a s' hs' b = some true := by
    simp only [rillmeterlaw10_BloomMerges.j0, if_true]
    rw [awake_spec k (by omega)]; rfl
  unfold rillmeterlaw10_BloomMerges.f
  by_cases a1 : (a.length : Int) > 300
  · rw [if_pos a1]; exact hend
  · rw [if_neg a1]
    by_cases b1 : (b.length : Int) > 300
    · rw [decide_eq_true b1]; exact hend
    · rw [decide_eq_false b1]
      simp only [rillmeterlaw10_BloomMerges.j0, rillmeterlaw10_ref.f, rright_spec, Option.bind_some]
      rw [if_neg (by decide), merge_spec k s hs a s' hs' b (by omega) (by omega)]
      simp only [Option.bind_some]
      have hno : rillmeterlaw10_BloomMerges.j1 k 1 true s hs a s' hs' b 0 0 [] = some true := by
        obtain ⟨k, rfl⟩ : ∃ m, k = m + 1 := ⟨k - 1, by omega⟩
        simp only [rillmeterlaw10_BloomMerges.j1, rillmeterlaw10_ref.f, if_true, Option.bind_some]
        rw [equal_spec _ _ _ _ _ _ _ (by simp) (by simp; omega), awake_spec k (by omega)]
        simp
      by_cases r : rightB hs a.length = true
      · rw [if_pos r]
        by_cases r' : rightB hs' b.length = true
        · rw [if_pos r']
          by_cases e1 : s = s'
          · rw [if_pos e1]
            by_cases e2 : hs = hs'
            · rw [if_pos e2]
              by_cases e3 : a.length = b.length
              · rw [if_pos ⟨r, r', e1, e2, e3⟩]
                subst e1 e2
                obtain ⟨k, rfl⟩ : ∃ m, k = m + 1 := ⟨k - 1, by omega⟩
                have ho := orAll_length a b e3
                simp only [rillmeterlaw10_BloomMerges.j1]
                rw [if_neg (by simp [e3]), if_pos (by omega), if_pos trivial]
                obtain ⟨k, rfl⟩ : ∃ m, k = m + 1 := ⟨k - 1, by omega⟩
                simp only [rillmeterlaw10_BloomMerges.j2]
                rw [if_neg (by simp)]
                have h := merges_l0 s hs a b e3 (by omega) a.length k 0 (by omega) (by omega) (by omega)
                exact h
              · rw [if_neg (fun h => e3 h.2.2.2.2), show ((a.length : Int) != (b.length : Int)) = true by simp; omega]; exact hno
            · rw [if_neg e2, if_neg (fun h => e2 h.2.2.2.1)]; exact hno
          · rw [if_neg e1, if_neg (fun h => e1 h.2.2.1)]; exact hno
        · rw [if_neg r', if_neg (fun h => r' h.2.1)]; exact hno
      · rw [if_neg r, if_neg (fun h => r h.1)]; exact hno

end Go.Proofs.Ytmlcafnnhpfpaaa.Pure
