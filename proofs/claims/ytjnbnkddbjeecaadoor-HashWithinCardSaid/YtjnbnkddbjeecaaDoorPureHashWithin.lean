/- A cell is one of so many, a sign 1 or -1, a level at most the most; seeds that are alike modulo the prime make alike sums. Conditions: the library's table of trailing zeros lies as its initialiser lays it, which the card ties to the program's text. -/
import Derived.Test.YtjnbnkddbjeecaaDoorPHashWithiny
import Derived.Test.YtjnbnkddbjeecaaDoorBits
import Derived.Test.YtjnbnkddbjeecaaDoorHash
namespace Go.Proofs.YtjnbnkddbjeecaaDoor.Pure
open Go.RowKit Go.Proofs.YtjnbnkddbjeecaaDoor.PHashWithin Go.Proofs.YtjnbnkddbjeecaaDoorW.PrintWords Go.Proofs.YtjnbnkddbjeecaaDoorW.PrintLast Go.Proofs.YtjnbnkddbjeecaaDoor.Bits Go.Proofs.YtjnbnkddbjeecaaDoor.Hash
set_option linter.unusedSimpArgs false
set_option linter.unusedVariables false

theorem of_spec (a : Int) (h0 : 0 ≤ a) (h1 : a < 18446744073709551616) : field_Of.f a = some (a % 2305843009213693951) := by
  unfold field_Of.f
  rw [and_p a h0 h1, u64_in _ (by omega) (by omega)]
  split
  · rw [u64_in _ (by omega) (by omega)]
    exact congrArg some (by omega)
  · exact congrArg some (by omega)

theorem add_spec (a b : Int) (h0 : 0 ≤ a) (h1 : a < 18446744073709551616) (g0 : 0 ≤ b) (g1 : b < 18446744073709551616) :
    field_Add.f a b = some ((a + b) % 2305843009213693951) := by
  unfold field_Add.f
  rw [of_spec a h0 h1, of_spec b g0 g1]
  simp only [Option.bind_some]
  rw [u64_in _ (by omega) (by omega), of_spec _ (by omega) (by omega)]
  simp only [Option.bind_some]
  exact congrArg some (by omega)

theorem mul64_spec (a b : Int) (h0 : 0 ≤ a) (h1 : a < 18446744073709551616) (g0 : 0 ≤ b) (g1 : b < 18446744073709551616) :
    bits_Mul64.f a b = some (a * b / 18446744073709551616, a * b % 18446744073709551616) := by
  unfold bits_Mul64.f
  have hh := halves a b
  obtain ⟨p0, p1⟩ := mul_bd (a := a / 4294967296) (b := b / 4294967296) (by omega) (by omega) (by omega) (by omega)
  obtain ⟨q0, q1⟩ := mul_bd (a := a / 4294967296) (b := b % 4294967296) (by omega) (by omega) (by omega) (by omega)
  obtain ⟨r0, r1⟩ := mul_bd (a := a % 4294967296) (b := b / 4294967296) (by omega) (by omega) (by omega) (by omega)
  obtain ⟨s0, s1⟩ := mul_bd (a := a % 4294967296) (b := b % 4294967296) (by omega) (by omega) (by omega) (by omega)
  rw [and_32 a h0 h1, and_32 b g0 g1]
  generalize a / 4294967296 * (b / 4294967296) = p at *
  generalize a / 4294967296 * (b % 4294967296) = q at *
  generalize a % 4294967296 * (b / 4294967296) = r at *
  generalize a % 4294967296 * (b % 4294967296) = s at *
  generalize a * b = m at *
  clear h0 h1 g0 g1
  rw [u64_in p (by omega) (by omega), u64_in q (by omega) (by omega), u64_in r (by omega) (by omega), u64_in s (by omega) (by omega)]
  rw [u64_in (q + s / 4294967296) (by omega) (by omega)]
  rw [and_32 _ (by omega) (by omega)]
  rw [u64_in (p + _) (by omega) (by omega), u64_in (_ + r) (by omega) (by omega), wrap_u64 m]
  rw [u64_in _ (by omega) (by omega)]
  exact congrArg some (Prod.ext (by show _ = _; omega) rfl)

theorem mul_spec (a b : Int) (h0 : 0 ≤ a) (h1 : a < 18446744073709551616) (g0 : 0 ≤ b) (g1 : b < 18446744073709551616) :
    field_Mul.f a b = some (a * b % 2305843009213693951) := by
  unfold field_Mul.f
  rw [of_spec a h0 h1, of_spec b g0 g1, Int.mul_emod]
  simp only [Option.bind_some]
  have x0 : 0 ≤ a % 2305843009213693951 := by omega
  have x1 : a % 2305843009213693951 ≤ 2305843009213693950 := by omega
  have y0 : 0 ≤ b % 2305843009213693951 := by omega
  have y1 : b % 2305843009213693951 ≤ 2305843009213693950 := by omega
  generalize a % 2305843009213693951 = x at *
  generalize b % 2305843009213693951 = y at *
  rw [mul64_spec x y x0 (by omega) y0 (by omega)]
  simp only [Option.bind_some]
  have hm : 0 ≤ x * y ∧ x * y ≤ 2305843009213693950 * 2305843009213693950 := ⟨Int.mul_nonneg x0 y0, Int.mul_le_mul x1 y1 y0 (by omega)⟩
  generalize x * y = m at *
  obtain ⟨m0, m1⟩ := hm
  rw [and_p _ (by omega) (by omega)]
  rw [u64_in (_ * 8) (by omega) (by omega)]
  rw [or_3 _ _ (by omega) (by omega) (by omega) (by omega) (by omega)]
  rw [u64_in _ (by omega) (by omega), of_spec _ (by omega) (by omega)]
  simp only [Option.bind_some]
  exact congrArg some (by omega)

theorem sq_half (x n : Int) (h0 : 0 ≤ n) : (x * x % 2305843009213693951) ^ (n / 2).toNat % 2305843009213693951 = x ^ (2 * (n.toNat / 2)) % 2305843009213693951 := by
  rw [pow_emod, Int.pow_mul, show (n / 2).toNat = n.toNat / 2 by omega, show x ^ 2 = x * x by grind]

theorem pow_l0 (d : Nat) : ∀ (k : Nat) (x n out : Int), 0 ≤ x → x < 2305843009213693951 → 0 ≤ n → n < 18446744073709551616 → n < 2 ^ d → 0 ≤ out → out < 2305843009213693951 → d < k →
    field_Pow.l0 k x n out = some (out * x ^ n.toNat % 2305843009213693951) := by
  induction d with
  | zero =>
    intro k x n out x0 x1 n0 n1 nd o0 o1 hk
    obtain ⟨k, rfl⟩ : ∃ m, k = m + 1 := ⟨k - 1, by omega⟩
    have hn : n = 0 := by simp at nd; omega
    simp only [field_Pow.l0]
    rw [if_neg (by omega), hn]
    exact congrArg some (by simp; omega)
  | succ d ih =>
    intro k x n out x0 x1 n0 n1 nd o0 o1 hk
    obtain ⟨k, rfl⟩ : ∃ m, k = m + 1 := ⟨k - 1, by omega⟩
    simp only [field_Pow.l0]
    by_cases hp : n > 0
    · rw [if_pos hp, and_1 n n0 n1, mul_spec x x x0 (by omega) x0 (by omega), mul_spec out x o0 (by omega) x0 (by omega)]
      simp only [Option.bind_some]
      have hd : n / 2 < 2 ^ d := by rw [Int.pow_succ] at nd; omega
      split
      · rw [ih k _ (n / 2) _ (by omega) (by omega) (by omega) (by omega) hd (by omega) (by omega) (by omega)]
        have e : n.toNat = 2 * (n.toNat / 2) + 1 := by omega
        refine congrArg some ?_
        rw [Int.mul_emod, sq_half x n n0, ← Int.mul_emod]
        rw [Int.mul_emod, Int.emod_emod, ← Int.mul_emod]
        conv => rhs; rw [e, Int.pow_succ, Int.mul_comm _ x, ← Int.mul_assoc]
      · rw [ih k _ (n / 2) _ (by omega) (by omega) (by omega) (by omega) hd o0 o1 (by omega)]
        have e : n.toNat = 2 * (n.toNat / 2) := by omega
        refine congrArg some ?_
        rw [Int.mul_emod, sq_half x n n0, ← Int.mul_emod]
        conv => rhs; rw [e]
    · have hn : n = 0 := by omega
      rw [if_neg hp, hn]
      exact congrArg some (by simp; omega)

theorem pow_spec (k : Nat) (a n : Int) (h0 : 0 ≤ a) (h1 : a < 18446744073709551616) (g0 : 0 ≤ n) (g1 : n < 18446744073709551616) (hk : 65 ≤ k) :
    field_Pow.f k a n = some (a ^ n.toNat % 2305843009213693951) := by
  unfold field_Pow.f
  rw [of_spec a h0 h1]
  simp only [Option.bind_some]
  rw [pow_l0 64 k _ n 1 (by omega) (by omega) g0 g1 (by omega) (by omega) (by omega) (by omega), Int.one_mul, pow_emod]

theorem sum_step (s : ByteArray) (a n i x j j' : Int) (k : Nat) (hj : j' = j + 1) (hs : s.size ≤ 140737488351232) (i0 : 0 ≤ i) (i1 : i ≤ s.size) (j0 : 0 ≤ j) (j1 : j < 4) (x0 : 0 ≤ x) (x1 : x < 72057594037927936) :
    hash_Sum.l1 (k + 1) s a n i x j = hash_Sum.l1 k s a n i (x * 256 + bt s (i + j)) j' := by
  subst hj
  have hb := bt_range s (i + j)
  conv => lhs; unfold hash_Sum.l1
  rw [if_pos j1, i64_in (i + j) (by omega) (by omega), i64_in (j + 1) (by omega) (by omega), u64_in (x * 256) (by omega) (by omega), u64_in (bt s (i + j)) (by omega) (by omega)]
  by_cases h : i + j < (s.size : Int)
  · rw [if_pos h, if_pos (by omega), or_8 (x * 256) _ (by omega) (by omega) (by omega) (by omega) (by omega)]
  · rw [if_neg h, bt_out s (i + j) (by omega), Int.add_zero]

theorem sum_word (s : ByteArray) (a n i : Int) (k : Nat) (hs : s.size ≤ 140737488351232) (i0 : 0 ≤ i) (i1 : i ≤ s.size) :
    hash_Sum.l1 (k + 4) s a n i 0 0 = hash_Sum.l1 k s a n i (wordAt s i) 4 := by
  have h0 := bt_range s i
  have h1 := bt_range s (i + 1)
  have h2 := bt_range s (i + 2)
  rw [sum_step s a n i 0 0 1 (k + 3) (by omega) hs i0 i1 (by omega) (by omega) (by omega) (by omega), Int.add_zero, Int.zero_mul, Int.zero_add,
    sum_step s a n i _ 1 2 (k + 2) (by omega) hs i0 i1 (by omega) (by omega) (by omega) (by omega),
    sum_step s a n i _ 2 3 (k + 1) (by omega) hs i0 i1 (by omega) (by omega) (by omega) (by omega),
    sum_step s a n i _ 3 4 k (by omega) hs i0 i1 (by omega) (by omega) (by omega) (by omega)]
  rfl

theorem sum_l0 (s : ByteArray) (a : Int) (hs : s.size ≤ 140737488351232) (a0 : 0 ≤ a) (a1 : a < 18446744073709551616) : ∀ (m k : Nat) (n i : Int), 0 ≤ i → (s.size : Int) ≤ i + 4 * m → i < (s.size : Int) + 4 → (0 < m → i + 4 * m < (s.size : Int) + 4) →
    0 ≤ n → n < 18446744073709551616 → 6 * m + 66 ≤ k →
    hash_Sum.l0 k s a n i = some ((roll s a m n i * a) ^ 17 % 2305843009213693951) := by
  intro m
  induction m with
  | zero =>
    intro k n i i0 i1 i2 i3 n0 n1 hk
    obtain ⟨k, rfl⟩ : ∃ m, k = m + 1 := ⟨k - 1, by omega⟩
    unfold hash_Sum.l0
    rw [if_neg (by omega), mul_spec n a n0 n1 a0 a1]
    simp only [Option.bind_some]
    rw [pow_spec k _ 17 (by omega) (by omega) (by omega) (by omega) (by omega), show (17 : Int).toNat = 17 from rfl, pow_emod]
    rfl
  | succ m ih =>
    intro k n i i0 i1 i2 i3 n0 n1 hk
    obtain ⟨k, rfl⟩ : ∃ m, k = m + 1 := ⟨k - 1, by omega⟩
    obtain ⟨k, rfl⟩ : ∃ m, k = m + 4 := ⟨k - 4, by omega⟩
    have hw := wordAt_range s i
    have i4 : i < (s.size : Int) := by omega
    unfold hash_Sum.l0
    rw [if_pos i4, sum_word s a n i k hs i0 (by omega)]
    obtain ⟨k, rfl⟩ : ∃ m, k = m + 1 := ⟨k - 1, by omega⟩
    unfold hash_Sum.l1
    rw [if_neg (by omega), mul_spec n a n0 n1 a0 a1, u64_in _ (by omega) (by omega)]
    simp only [Option.bind_some]
    rw [add_spec _ _ (by omega) (by omega) (by omega) (by omega), i64_in (i + 4) (by omega) (by omega)]
    simp only [Option.bind_some]
    rw [ih k _ (i + 4) (by omega) (by omega) (by omega) (by omega) (by omega) (by omega) (by omega)]
    simp only [roll]
    have e : (n * a % 2305843009213693951 + (wordAt s i + 1)) % 2305843009213693951 = (n * a + wordAt s i + 1) % 2305843009213693951 := by omega
    rw [e]

theorem sum_spec (k : Nat) (seed : Int) (s : ByteArray) (hs : s.size ≤ 140737488351232) (h0 : 0 ≤ seed) (h1 : seed < 18446744073709551616) (hk : 6 * words s + 66 ≤ k) :
    hash_Sum.f k seed s = some (hsum seed s) := by
  unfold hash_Sum.f
  rw [add_spec seed 2 h0 h1 (by omega) (by omega), u64_in _ (by omega) (by omega)]
  simp only [Option.bind_some]
  have hw : words s = (s.size + 3) / 4 := rfl
  exact sum_l0 s _ hs (by omega) (by omega) (words s) k s.size 0 (by omega) (by omega) (by omega) (by omega) (by omega) (by omega) hk

theorem sign_spec (k : Nat) (seed : Int) (s : ByteArray) (hs : s.size ≤ 140737488351232) (h0 : 0 ≤ seed) (h1 : seed < 18446744073709551616) (hk : 6 * words s + 66 ≤ k) :
    hash_Sign.f k seed s = some (hsum seed s % 2 * 2 - 1) := by
  unfold hash_Sign.f
  have h := hsum_range seed s
  rw [sum_spec k seed s hs h0 h1 hk]
  simp only [Option.bind_some]
  rw [and_1 _ h.1 (by omega), i64_in (_ % 2) (by omega) (by omega), i64_in (_ * 2) (by omega) (by omega), i64_in _ (by omega) (by omega)]

theorem hsum_none : hsum 0 (⟨#[]⟩ : ByteArray) = 0 := by decide +kernel
theorem hsum_nought : hsum 0 (⟨#[0]⟩ : ByteArray) = 16926659444736 := by decide +kernel

theorem awake_spec (k : Nat) (hk : 72 ≤ k) : rillmeterlaw02_awake.f k = some true := by
  unfold rillmeterlaw02_awake.f
  rw [sum_spec k 0 (⟨#[]⟩ : ByteArray) (by decide) (by omega) (by omega) (by show 6 * 0 + 66 ≤ k; omega), sum_spec k 0 (⟨#[0]⟩ : ByteArray) (by decide) (by omega) (by omega) (by show 6 * 1 + 66 ≤ k; omega),
    sign_spec k 0 (⟨#[]⟩ : ByteArray) (by decide) (by omega) (by omega) (by show 6 * 0 + 66 ≤ k; omega), hsum_none, hsum_nought]
  rfl

/-- the level of a sum: how many of its lowest bits are nought, at most so many -/
def lev (S most : Int) : Int := if S = 0 then mx most 0 else mx (mn (Lib.ctz 64 S.toNat : Int) most) 0

theorem ctz_le (x : Nat) (hx : x < 18446744073709551616) : Lib.ctz 64 x ≤ 64 := by
  unfold Lib.ctz
  split
  · exact Nat.le_refl _
  · rename_i h
    obtain ⟨m, _, h2⟩ := Lib.ctzFrom_spec 64 x (by omega) (by omega)
    omega

theorem level_spec (k : Nat) (seed : Int) (s : ByteArray) (most : Int) (hs : s.size ≤ 140737488351232) (h0 : 0 ≤ seed) (h1 : seed < 18446744073709551616) (hk : 6 * words s + 66 ≤ k) :
    hash_Level.f k seed s most = some (lev (hsum seed s) most) := by
  unfold hash_Level.f lev
  have h := hsum_range seed s
  rw [sum_spec k seed s hs h0 h1 hk]
  simp only [Option.bind_some]
  by_cases c : hsum seed s = 0
  · rw [if_pos c, if_pos c]
  · rw [if_neg c, if_neg c]
    unfold bits_TrailingZeros64.f
    rw [if_pos h.1, if_pos (by omega)]
    rfl
theorem cell_spec (k : Nat) (seed : Int) (key : ByteArray) (n : Int) (hs : key.size ≤ 140737488351232) (h0 : 0 ≤ seed) (h1 : seed < 18446744073709551616) (hn : n < 9223372036854775808) (hk : 6 * words key + 66 ≤ k) :
    hash_Cell.f k seed key n = some (hcell seed key n) := by
  unfold hash_Cell.f hcell
  by_cases a : n < 1
  · rw [if_pos a, if_pos a]
  · rw [if_neg a, if_neg a, sum_spec k seed key hs h0 h1 hk]
    simp only [Option.bind_some]
    have r := hsum_range seed key
    have r1 := Int.emod_nonneg (hsum seed key) (b := n) (by omega)
    have r2 := Int.emod_lt_of_pos (hsum seed key) (b := n) (by omega)
    rw [u64_in n (by omega) (by omega), if_neg (by omega), Int.tmod_eq_emod_of_nonneg r.1, i64_in _ (by omega) (by omega)]

theorem rof_spec (a : Int) (h0 : 0 ≤ a) : rillmeterref01_Of.f a = some (a % 2305843009213693951) := by
  unfold rillmeterref01_Of.f
  rw [Int.tmod_eq_emod_of_nonneg h0]

theorem lev_within (S most : Int) : 0 ≤ lev S most ∧ lev S most ≤ mx most 0 := by
  unfold lev mn mx
  by_cases c : S = 0
  · rw [if_pos c]
    (repeat' split) <;> omega
  · rw [if_neg c]
    have ht : 0 ≤ (Lib.ctz 64 S.toNat : Int) := by omega
    generalize (Lib.ctz 64 S.toNat : Int) = t at ht ⊢
    (repeat' split) <;> omega

theorem hsum_alike (seed : Int) (s : ByteArray) (h0 : 0 ≤ seed) : hsum (seed % 2305843009213693951) s = hsum seed s := by
  unfold hsum
  have e : (seed % 2305843009213693951 + 2) % 2305843009213693951 = (seed + 2) % 2305843009213693951 := by omega
  rw [e]

theorem HashWithin : rillmeterlaw02_HashWithin.Pure := by
  intro seed s n most hseed hs hn _
  have hseed := u64_wf hseed
  have hn := i64_wf hn
  refine ⟨6 * words s + 100, ?_⟩
  have aw : ∀ k, 72 ≤ k → rillmeterlaw02_awake.f k = some true := awake_spec
  unfold rillmeterlaw02_HashWithin.f
  by_cases h1 : (s.size : Int) > 1024
  · rw [if_pos h1, aw (6 * words s + 100) (by omega)]; rfl
  · rw [if_neg h1, cell_spec _ seed s n hs hseed.1 hseed.2 (by omega) (by omega), sign_spec _ seed s hs hseed.1 hseed.2 (by omega), level_spec _ seed s most hs hseed.1 hseed.2 (by omega)]
    simp only [Option.bind_some]
    have hr := hsum_range seed s
    have hend : rillmeterlaw02_HashWithin.j0 (6 * words s + 100) seed s false = some true := by
      simp only [rillmeterlaw02_HashWithin.j0]
      rw [if_neg (by decide), rof_spec seed hseed.1]
      simp only [Option.bind_some]
      rw [sum_spec _ (seed % 2305843009213693951) s hs (by omega) (by omega) (by omega), sum_spec _ seed s hs hseed.1 hseed.2 (by omega), hsum_alike seed s hseed.1]
      simp only [Option.bind_some]
      rw [if_pos trivial, if_pos hr.2, aw (6 * words s + 99) (by omega)]
      rfl
    have hl := lev_within (hsum seed s) most
    have hsg : hsum seed s % 2 * 2 - 1 = 1 ∨ hsum seed s % 2 * 2 - 1 = -1 := by omega
    generalize hlv : lev (hsum seed s) most = l at hl ⊢
    generalize hsv : hsum seed s % 2 * 2 - 1 = g at hsg ⊢
    have hfin : (if l < 0 then (rillmeterlaw02_HashWithin.j0 (6 * words s + 100) seed s true) else (rillmeterlaw02_HashWithin.j0 (6 * words s + 100) seed s (decide (l > (mx most 0))))) = some true := by
      rw [if_neg (by omega), decide_eq_false (by omega)]; exact hend
    have hsgn : (if g = 1 then (if l < 0 then (rillmeterlaw02_HashWithin.j0 (6 * words s + 100) seed s true) else (rillmeterlaw02_HashWithin.j0 (6 * words s + 100) seed s (decide (l > (mx most 0))))) else (if g = (-1) then (if l < 0 then (rillmeterlaw02_HashWithin.j0 (6 * words s + 100) seed s true) else (rillmeterlaw02_HashWithin.j0 (6 * words s + 100) seed s (decide (l > (mx most 0))))) else (rillmeterlaw02_HashWithin.j0 (6 * words s + 100) seed s true))) = some true := by
      rcases hsg with e | e
      · rw [if_pos e]; exact hfin
      · rw [if_neg (by omega), if_pos e]; exact hfin
    by_cases hn1 : n < 1
    · have hc : hcell seed s n = 0 := by unfold hcell; rw [if_pos hn1]
      rw [hc, if_neg (by decide), if_neg (by omega), if_pos hn1, if_pos rfl]
      exact hsgn
    · have hc := hcell_range seed s n (by omega)
      rw [if_neg (by omega), if_pos (by omega), if_neg (by omega), if_neg hn1]
      exact hsgn

end Go.Proofs.YtjnbnkddbjeecaaDoor.Pure
