/- What is added is taken away again; a product is 0 modulo the prime 2^61 - 1 just if one of both is. No condition beyond the kinds of the arguments. -/
import Derived.Test.YtcdfmabcbljnkaaPFieldBackx1
import Derived.Test.YtcdfmabcbljnkaaBits
import Derived.Test.YtcdfmabcbljnkaaNum
namespace Go.Proofs.Ytcdfmabcbljnkaa.Pure
open Go.RowKit Go.Proofs.Ytcdfmabcbljnkaa.PFieldBack Go.Proofs.YtcdfmabcbljnkaaW.PrintWords Go.Proofs.YtcdfmabcbljnkaaW.PrintLast Go.Proofs.Ytcdfmabcbljnkaa.Bits Go.Proofs.Ytcdfmabcbljnkaa.Num
set_option linter.unusedSimpArgs false
set_option linter.unusedVariables false

theorem of_spec (a : Int) (h0 : 0 ≤ a) (h1 : a < 18446744073709551616) : field_Of.f a = some (a % 2305843009213693951) := by
  unfold field_Of.f
  rw [and_p a h0 h1, u64_in _ (by omega) (by omega)]
  split
  · rw [u64_in _ (by omega) (by omega)]
    exact congrArg some (by omega)
  · exact congrArg some (by omega)

theorem mul64_spec (a b : Int) (h0 : 0 ≤ a) (h1 : a < 18446744073709551616) (g0 : 0 ≤ b) (g1 : b < 18446744073709551616) :
    bits_Mul64.f a b = some (a * b / 18446744073709551616, a * b % 18446744073709551616) := by
  unfold bits_Mul64.f
  have hh := halves a b
  obtain ⟨p0, p1⟩ := mul_bd (a := a / 4294967296) (b := b / 4294967296) (by omega) (by omega) (by omega) (by omega)
  obtain ⟨q0, q1⟩ := mul_bd (a := a / 4294967296) (b := b % 4294967296) (by omega) (by omega) (by omega) (by omega)
  obtain ⟨r0, r1⟩ := mul_bd (a := a % 4294967296) (b := b / 4294967296) (by omega) (by omega) (by omega) (by omega)
  obtain ⟨s0, s1⟩ := mul_bd (a := a % 4294967296) (b := b % 4294967296) (by omega) (by omega) (by omega) (by omega)
  rw [and_32 a h0 h1, and_32 b g0 g1]
  generalize a / 4294967296 * (b / 4294967296) = p at *
  generalize a / 4294967296 * (b % 4294967296) = q at *
  generalize a % 4294967296 * (b / 4294967296) = r at *
  generalize a % 4294967296 * (b % 4294967296) = s at *
  generalize a * b = m at *
  clear h0 h1 g0 g1
  rw [u64_in p (by omega) (by omega), u64_in q (by omega) (by omega), u64_in r (by omega) (by omega), u64_in s (by omega) (by omega)]
  rw [u64_in (q + s / 4294967296) (by omega) (by omega)]
  rw [and_32 _ (by omega) (by omega)]
  rw [u64_in (p + _) (by omega) (by omega), u64_in (_ + r) (by omega) (by omega), wrap_u64 m]
  rw [u64_in _ (by omega) (by omega)]
  exact congrArg some (Prod.ext (by show _ = _; omega) rfl)

theorem mul_spec (a b : Int) (h0 : 0 ≤ a) (h1 : a < 18446744073709551616) (g0 : 0 ≤ b) (g1 : b < 18446744073709551616) :
    field_Mul.f a b = some (a * b % 2305843009213693951) := by
  unfold field_Mul.f
  rw [of_spec a h0 h1, of_spec b g0 g1, Int.mul_emod]
  simp only [Option.bind_some]
  have x0 : 0 ≤ a % 2305843009213693951 := by omega
  have x1 : a % 2305843009213693951 ≤ 2305843009213693950 := by omega
  have y0 : 0 ≤ b % 2305843009213693951 := by omega
  have y1 : b % 2305843009213693951 ≤ 2305843009213693950 := by omega
  generalize a % 2305843009213693951 = x at *
  generalize b % 2305843009213693951 = y at *
  rw [mul64_spec x y x0 (by omega) y0 (by omega)]
  simp only [Option.bind_some]
  have hm : 0 ≤ x * y ∧ x * y ≤ 2305843009213693950 * 2305843009213693950 := ⟨Int.mul_nonneg x0 y0, Int.mul_le_mul x1 y1 y0 (by omega)⟩
  generalize x * y = m at *
  obtain ⟨m0, m1⟩ := hm
  rw [and_p _ (by omega) (by omega)]
  rw [u64_in (_ * 8) (by omega) (by omega)]
  rw [or_3 _ _ (by omega) (by omega) (by omega) (by omega) (by omega)]
  rw [u64_in _ (by omega) (by omega), of_spec _ (by omega) (by omega)]
  simp only [Option.bind_some]
  exact congrArg some (by omega)

theorem sq_half (x n : Int) (h0 : 0 ≤ n) : (x * x % 2305843009213693951) ^ (n / 2).toNat % 2305843009213693951 = x ^ (2 * (n.toNat / 2)) % 2305843009213693951 := by
  rw [pow_emod, Int.pow_mul, show (n / 2).toNat = n.toNat / 2 by omega, show x ^ 2 = x * x by grind]

theorem pow_l0 (d : Nat) : ∀ (k : Nat) (x n out : Int), 0 ≤ x → x < 2305843009213693951 → 0 ≤ n → n < 18446744073709551616 → n < 2 ^ d → 0 ≤ out → out < 2305843009213693951 → d < k →
    field_Pow.l0 k x n out = some (out * x ^ n.toNat % 2305843009213693951) := by
  induction d with
  | zero =>
    intro k x n out x0 x1 n0 n1 nd o0 o1 hk
    obtain ⟨k, rfl⟩ : ∃ m, k = m + 1 := ⟨k - 1, by omega⟩
    have hn : n = 0 := by simp at nd; omega
    simp only [field_Pow.l0]
    rw [if_neg (by omega), hn]
    exact congrArg some (by simp; omega)
  | succ d ih =>
    intro k x n out x0 x1 n0 n1 nd o0 o1 hk
    obtain ⟨k, rfl⟩ : ∃ m, k = m + 1 := ⟨k - 1, by omega⟩
    simp only [field_Pow.l0]
    by_cases hp : n > 0
    · rw [if_pos hp, and_1 n n0 n1, mul_spec x x x0 (by omega) x0 (by omega), mul_spec out x o0 (by omega) x0 (by omega)]
      simp only [Option.bind_some]
      have hd : n / 2 < 2 ^ d := by rw [Int.pow_succ] at nd; omega
      split
      · rw [ih k _ (n / 2) _ (by omega) (by omega) (by omega) (by omega) hd (by omega) (by omega) (by omega)]
        have e : n.toNat = 2 * (n.toNat / 2) + 1 := by omega
        refine congrArg some ?_
        rw [Int.mul_emod, sq_half x n n0, ← Int.mul_emod]
        rw [Int.mul_emod, Int.emod_emod, ← Int.mul_emod]
        conv => rhs; rw [e, Int.pow_succ, Int.mul_comm _ x, ← Int.mul_assoc]
      · rw [ih k _ (n / 2) _ (by omega) (by omega) (by omega) (by omega) hd o0 o1 (by omega)]
        have e : n.toNat = 2 * (n.toNat / 2) := by omega
        refine congrArg some ?_
        rw [Int.mul_emod, sq_half x n n0, ← Int.mul_emod]
        conv => rhs; rw [e]
    · have hn : n = 0 := by omega
      rw [if_neg hp, hn]
      exact congrArg some (by simp; omega)

theorem pow_spec (k : Nat) (a n : Int) (h0 : 0 ≤ a) (h1 : a < 18446744073709551616) (g0 : 0 ≤ n) (g1 : n < 18446744073709551616) (hk : 65 ≤ k) :
    field_Pow.f k a n = some (a ^ n.toNat % 2305843009213693951) := by
  unfold field_Pow.f
  rw [of_spec a h0 h1]
  simp only [Option.bind_some]
  rw [pow_l0 64 k _ n 1 (by omega) (by omega) g0 g1 (by omega) (by omega) (by omega) (by omega), Int.one_mul, pow_emod]

theorem inv_spec (k : Nat) (a : Int) (e : Nat) (he : e = 2305843009213693949) (h0 : 0 ≤ a) (h1 : a < 18446744073709551616) (hk : 65 ≤ k) :
    field_Inv.f k a = some (if a % 2305843009213693951 = 0 then (0, false) else (a ^ e % 2305843009213693951, true)) := by
  unfold field_Inv.f
  rw [of_spec a h0 h1]
  simp only [Option.bind_some]
  split
  · rfl
  · rw [pow_spec k a _ h0 h1 (by omega) (by omega) hk, show (2305843009213693949 : Int).toNat = e by omega]
    rfl

theorem add_spec (a b : Int) (h0 : 0 ≤ a) (h1 : a < 18446744073709551616) (g0 : 0 ≤ b) (g1 : b < 18446744073709551616) :
    field_Add.f a b = some ((a + b) % 2305843009213693951) := by
  unfold field_Add.f
  rw [of_spec a h0 h1, of_spec b g0 g1]
  simp only [Option.bind_some]
  rw [u64_in _ (by omega) (by omega), of_spec _ (by omega) (by omega)]
  simp only [Option.bind_some]
  exact congrArg some (by omega)

theorem awake_spec (k : Nat) (hk : 65 ≤ k) : rillmeterlaw01_awake.f k = some true := by
  unfold rillmeterlaw01_awake.f
  obtain ⟨e, he⟩ : ∃ e : Nat, e = 2305843009213693949 := ⟨_, rfl⟩
  rw [inv_spec k 2 e he (by omega) (by omega) hk, if_neg (by omega), two_inv_int e he]
  simp only [Option.bind_some]
  rw [add_spec _ _ (by omega) (by omega) (by omega) (by omega), mul_spec _ _ (by omega) (by omega) (by omega) (by omega)]
  rfl

theorem sub_spec (a b : Int) (h0 : 0 ≤ a) (h1 : a < 18446744073709551616) (g0 : 0 ≤ b) (g1 : b < 18446744073709551616) :
    field_Sub.f a b = some ((a - b) % 2305843009213693951) := by
  unfold field_Sub.f
  rw [of_spec a h0 h1, of_spec b g0 g1]
  simp only [Option.bind_some]
  rw [u64_in (_ + _) (by omega) (by omega), u64_in _ (by omega) (by omega), of_spec _ (by omega) (by omega)]
  simp only [Option.bind_some]
  exact congrArg some (by omega)

theorem FieldBack : rillmeterlaw01_FieldBack.Pure := by
  intro a b ha hb
  have ha := u64_wf ha
  have hb := u64_wf hb
  refine ⟨130, ?_⟩
  unfold rillmeterlaw01_FieldBack.f
  have e1 : ((a + b) % 2305843009213693951 - b) % 2305843009213693951 = a % 2305843009213693951 := by omega
  have e2 : (a - a) % 2305843009213693951 = 0 := by omega
  have e3 : (a * b % 2305843009213693951 = 0) ↔ (a % 2305843009213693951 = 0 ∨ b % 2305843009213693951 = 0) := by
    constructor
    · exact no_zero_int a b ha.1 hb.1
    · rintro (h | h)
      · rw [Int.mul_emod, h, Int.zero_mul, Int.zero_emod]
      · rw [Int.mul_emod, h, Int.mul_zero, Int.zero_emod]
  rw [add_spec a b ha.1 ha.2 hb.1 hb.2]
  simp only [Option.bind_some]
  rw [sub_spec _ b (by omega) (by omega) hb.1 hb.2, sub_spec a a ha.1 ha.2 ha.1 ha.2, of_spec a ha.1 ha.2, e1, e2]
  simp only [Option.bind_some]
  rw [if_pos trivial, if_neg (by omega)]
  simp only [rillmeterlaw01_FieldBack.j0]
  rw [if_neg (by decide), of_spec a ha.1 ha.2, of_spec b hb.1 hb.2, mul_spec a b ha.1 ha.2 hb.1 hb.2, awake_spec 129 (by omega)]
  simp only [Option.bind_some]
  by_cases x : a % 2305843009213693951 = 0
  · rw [if_pos x, e3.2 (Or.inl x)]; rfl
  · rw [if_neg x]
    by_cases y : b % 2305843009213693951 = 0
    · rw [y, e3.2 (Or.inr y)]; rfl
    · have z : ¬ (a * b % 2305843009213693951 = 0) := fun h => by rcases e3.1 h with h | h <;> contradiction
      have p1 : (a * b % 2305843009213693951 == 0) = false := beq_false_of_ne z
      have p2 : (b % 2305843009213693951 == 0) = false := beq_false_of_ne y
      rw [p1, p2]; rfl

end Go.Proofs.Ytcdfmabcbljnkaa.Pure
