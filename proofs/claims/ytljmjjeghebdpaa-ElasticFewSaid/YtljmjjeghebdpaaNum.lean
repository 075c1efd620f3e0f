/- Plain numbers modulo the prime 2^61 - 1: every number that is not 0 modulo it has, to the power that is one less, the rest 1; a product is 0 modulo it only if a factor is. No condition. -/
namespace Go.Proofs.Ytljmjjeghebdpaa.Num

/-- power modulo p, by squaring, with fuel -/
def pw (p : Nat) : Nat → Nat → Nat → Nat
  | 0, _, _ => 1 % p
  | k + 1, a, n => if n = 0 then 1 % p else
      if n % 2 = 1 then pw p k (a * a % p) (n / 2) * a % p else pw p k (a * a % p) (n / 2)

theorem mod_mul_l (p a b : Nat) : a % p * b % p = a * b % p := Nat.mod_mul_mod a b p

theorem mod_mul_r (p a b : Nat) : a * (b % p) % p = a * b % p := by
  rw [Nat.mul_comm, mod_mul_l, Nat.mul_comm]

theorem pow_mod_l (p a n : Nat) : (a % p) ^ n % p = a ^ n % p := (Nat.pow_mod a n p).symm

theorem pw_eq (p : Nat) : ∀ (k a n : Nat), n < 2 ^ k → pw p k a n = a ^ n % p := by
  intro k
  induction k with
  | zero => intro a n h; have : n = 0 := by simpa using h
            subst this; rfl
  | succ k ih =>
    intro a n h
    unfold pw
    by_cases h0 : n = 0
    · subst h0; simp
    · rw [if_neg h0]
      have e := ih (a * a % p) (n / 2) (by rw [Nat.pow_succ] at h; omega)
      simp only [e]
      rw [pow_mod_l]
      have sq : (a * a) ^ (n / 2) = a ^ (2 * (n / 2)) := by
        rw [Nat.pow_mul, Nat.pow_two]
      rw [sq]
      split
      · rename_i h1
        rw [mod_mul_l]
        have : n = 2 * (n / 2) + 1 := by omega
        conv => rhs; rw [this, Nat.pow_succ]
      · rename_i h1
        have : n = 2 * (n / 2) := by omega
        conv => rhs; rw [this]

theorem pw_one (p a m : Nat) (h : a ^ m % p = 1) (h1 : 1 % p = 1) (q : Nat) : a ^ (m * q) % p = 1 := by
  rw [Nat.pow_mul, ← pow_mod_l, h, Nat.one_pow]; exact h1

/-- exponents with power 1 are closed under rests -/
theorem one_mod (p g a b : Nat) (h1 : 1 % p = 1) (ha : g ^ a % p = 1) (hb : g ^ b % p = 1) : g ^ (a % b) % p = 1 := by
  have e : a = b * (a / b) + a % b := (Nat.div_add_mod a b).symm
  rw [e, Nat.pow_add, ← mod_mul_l, pw_one p g b hb h1, Nat.one_mul] at ha
  exact ha

theorem one_gcd (p g : Nat) (h1 : 1 % p = 1) : ∀ a b : Nat, g ^ a % p = 1 → g ^ b % p = 1 → g ^ (Nat.gcd a b) % p = 1 := by
  intro a b
  induction a, b using Nat.gcd.induction with
  | H0 n => intro _ h; simpa using h
  | H1 m n hm ih =>
    intro ha hb
    rw [Nat.gcd_rec]
    exact ih (one_mod p g n m h1 hb ha) ha

/-- the small primes of the prime less 1 -/
def qs : List Nat := [2, 3, 5, 7, 11, 13, 31, 41, 61, 151, 331, 1321]

theorem qs_prime : ∀ q ∈ qs, ∀ x, x ≤ q → x ∣ q → x = 1 ∨ x = q := by
  have key : ∀ q ∈ qs, (List.range (q + 1)).all (fun x => decide (q % x ≠ 0) || decide (x = 1) || decide (x = q)) = true := by decide +kernel
  intro q hq x hx hd
  have h1 := List.all_eq_true.1 (key q hq) x (List.mem_range.2 (by omega))
  have hm : q % x = 0 := Nat.mod_eq_zero_of_dvd hd
  simp [hm] at h1
  exact h1

theorem qs_pos : ∀ q ∈ qs, 0 < q := by decide

theorem copr (e q : Nat) (hq : q ∈ qs) (h : ¬ q ∣ e) : Nat.Coprime e q := by
  have hd : Nat.gcd e q ∣ q := Nat.gcd_dvd_right e q
  rcases qs_prime q hq _ (Nat.le_of_dvd (qs_pos q hq) hd) hd with h1 | h1
  · exact h1
  · exact absurd (h1 ▸ Nat.gcd_dvd_left e q) h

theorem exists_q (n e : Nat) (hn : n = 2 * (3 * (3 * (5 * (5 * (7 * (11 * (13 * (31 * (41 * (61 * (151 * (331 * 1321))))))))))))) (he : e ∣ n) (h1 : e ≠ 1) : ∃ q ∈ qs, q ∣ e := by
  apply Classical.byContradiction
  intro hno
  have hc : ∀ q ∈ qs, Nat.Coprime e q := fun q hq => copr e q hq (fun h => hno ⟨q, hq, h⟩)
  have : Nat.Coprime e n := by
    rw [hn]
    exact Nat.Coprime.mul_right (hc 2 (by decide)) (Nat.Coprime.mul_right (hc 3 (by decide)) (Nat.Coprime.mul_right (hc 3 (by decide)) (Nat.Coprime.mul_right (hc 5 (by decide)) (Nat.Coprime.mul_right (hc 5 (by decide)) (Nat.Coprime.mul_right (hc 7 (by decide)) (Nat.Coprime.mul_right (hc 11 (by decide)) (Nat.Coprime.mul_right (hc 13 (by decide)) (Nat.Coprime.mul_right (hc 31 (by decide)) (Nat.Coprime.mul_right (hc 41 (by decide)) (Nat.Coprime.mul_right (hc 61 (by decide)) (Nat.Coprime.mul_right (hc 151 (by decide)) (Nat.Coprime.mul_right (hc 331 (by decide)) (hc 1321 (by decide))))))))))))))
  have h2 : Nat.gcd e n = e := Nat.gcd_eq_left he
  exact h1 (h2 ▸ this)

/-- n + 1 is the number, g a number whose powers below n are not 1 -/
structure Root (p n g : Nat) : Prop where
  np : n + 1 = p
  one : 1 % p = 1
  full : g ^ n % p = 1
  part : ∀ m, 0 < m → m < n → g ^ m % p ≠ 1

theorem root_of (p n g : Nat) (np : n + 1 = p) (one : 1 % p = 1) (full : g ^ n % p = 1)
    (hn : n = 2 * (3 * (3 * (5 * (5 * (7 * (11 * (13 * (31 * (41 * (61 * (151 * (331 * 1321)))))))))))))
    (part : ∀ q ∈ qs, g ^ (n / q) % p ≠ 1) : Root p n g := by
  refine ⟨np, one, full, ?_⟩
  intro m h0 h1 h
  have hg := one_gcd p g one m n h full
  generalize hd : Nat.gcd m n = d at hg
  have hdm : d ≤ m := hd ▸ Nat.gcd_le_left _ h0
  obtain ⟨e, he⟩ : d ∣ n := hd ▸ Nat.gcd_dvd_right m n
  have hne : e ≠ 1 := by intro h2; rw [h2, Nat.mul_one] at he; omega
  obtain ⟨q, hq, c, hc⟩ := exists_q n e hn ⟨d, by rw [he, Nat.mul_comm]⟩ hne
  have hq2 : n / q = d * c := by
    rw [he, hc, Nat.mul_comm q c, ← Nat.mul_assoc, Nat.mul_div_cancel _ (qs_pos q hq)]
  exact part q hq (by rw [hq2]; exact pw_one p g d hg one c)

theorem g_inj {p n g : Nat} (R : Root p n g) (i j : Nat) (hij : i < j) (hj : j < n) : g ^ i % p ≠ g ^ j % p := by
  intro h
  have h1 : g ^ (n - i) * g ^ i % p = g ^ (n - i) * g ^ j % p := by
    rw [← mod_mul_r, h, mod_mul_r]
  rw [← Nat.pow_add, ← Nat.pow_add] at h1
  have e1 : n - i + i = n := by omega
  have e2 : n - i + j = n + (j - i) := by omega
  rw [e1, e2, Nat.pow_add, ← mod_mul_l, R.full, Nat.one_mul] at h1
  exact R.part (j - i) (by omega) (by omega) h1.symm

theorem g_pos {p n g : Nat} (R : Root p n g) (i : Nat) (hi : i < n) : g ^ i % p ≠ 0 := by
  intro h
  have h1 := R.full
  have e : n = i + (n - i) := by omega
  rw [e, Nat.pow_add, ← mod_mul_l, h, Nat.zero_mul, Nat.zero_mod] at h1
  exact absurd h1 (by decide)

/-- no injection into fewer -/
theorem no_inj : ∀ (m : Nat) (f : Nat → Nat), (∀ i, i < m + 1 → f i < m) → (∀ i j, i < j → j < m + 1 → f i ≠ f j) → False := by
  intro m
  induction m with
  | zero => intro f h _; exact absurd (h 0 (by omega)) (by omega)
  | succ m ih =>
    intro f h hi
    refine ih (fun i => if f i = m then f (m + 1) else f i) ?_ ?_
    · intro i hlt
      have a := h i (by omega)
      have b := h (m + 1) (by omega)
      have c := hi i (m + 1) (by omega) (by omega)
      show (if f i = m then f (m + 1) else f i) < m
      split <;> omega
    · intro i j hij hj
      have a := hi i (m + 1) (by omega) (by omega)
      have b := hi j (m + 1) (by omega) (by omega)
      have c := hi i j hij (by omega)
      show (if f i = m then f (m + 1) else f i) ≠ (if f j = m then f (m + 1) else f j)
      split <;> split <;> omega

theorem onto (n : Nat) (f : Nat → Nat) (h : ∀ i, i < n → f i < n) (hi : ∀ i j, i < j → j < n → f i ≠ f j) (y : Nat) (hy : y < n) : ∃ i, i < n ∧ f i = y := by
  apply Classical.byContradiction
  intro hn
  have hn' : ∀ i, i < n → f i ≠ y := fun i h1 h2 => hn ⟨i, h1, h2⟩
  obtain ⟨m, rfl⟩ : ∃ m, n = m + 1 := ⟨n - 1, by omega⟩
  refine no_inj m (fun i => if f i < y then f i else f i - 1) ?_ ?_
  · intro i hlt
    have a := h i (by omega)
    have b := hn' i (by omega)
    show (if f i < y then f i else f i - 1) < m
    split <;> omega
  · intro i j hij hj
    have a := hi i j hij (by omega)
    have b := hn' i (by omega)
    have c := hn' j (by omega)
    show (if f i < y then f i else f i - 1) ≠ (if f j < y then f j else f j - 1)
    split <;> split <;> omega

theorem g_onto {p n g : Nat} (R : Root p n g) (x : Nat) (h0 : 0 < x) (hx : x < p) : ∃ i, i < n ∧ g ^ i % p = x := by
  have np := R.np
  obtain ⟨i, hi, he⟩ := onto n (fun i => g ^ i % p - 1)
    (fun i hi => by
      have h1 := g_pos R i hi
      have h2 : g ^ i % p < p := Nat.mod_lt _ (by omega)
      show g ^ i % p - 1 < n
      omega)
    (fun i j hij hj => by
      have h1 := g_pos R i (by omega)
      have h2 := g_pos R j hj
      have h3 := g_inj R i j hij hj
      show g ^ i % p - 1 ≠ g ^ j % p - 1
      omega) (x - 1) (by omega)
  refine ⟨i, hi, ?_⟩
  have h1 := g_pos R i hi
  have he' : g ^ i % p - 1 = x - 1 := he
  omega

theorem fermat_of {p n g : Nat} (R : Root p n g) (a : Nat) (h : a % p ≠ 0) : a ^ n % p = 1 := by
  have np := R.np
  obtain ⟨i, _, hi⟩ := g_onto R (a % p) (by omega) (Nat.mod_lt _ (by omega))
  rw [← pow_mod_l, ← hi, pow_mod_l, ← Nat.pow_mul, Nat.mul_comm]
  exact pw_one p g n R.full R.one i

theorem inverse_of {p n g : Nat} (R : Root p n g) (m : Nat) (hm : n = m + 1) (a : Nat) (h : a % p ≠ 0) : a * (a ^ m % p) % p = 1 := by
  have h1 := fermat_of R a h
  rw [hm, Nat.pow_succ'] at h1
  rw [mod_mul_r]
  exact h1

theorem no_zero_of {p n g : Nat} (R : Root p n g) (m : Nat) (hm : n = m + 1) (a b : Nat) (h : a * b % p = 0) : a % p = 0 ∨ b % p = 0 := by
  by_cases ha : a % p = 0
  · exact Or.inl ha
  · right
    have h1 := inverse_of R m hm a ha
    have h2 : (a ^ m % p) * (a * b) % p = 0 := by rw [← mod_mul_r, h, Nat.mul_zero, Nat.zero_mod]
    rw [← Nat.mul_assoc, Nat.mul_comm (a ^ m % p) a, ← mod_mul_l, h1, Nat.one_mul] at h2
    exact h2

theorem root61 : ∃ g, Root 2305843009213693951 2305843009213693950 g := by
  have key1 : pw 2305843009213693951 61 37 2305843009213693950 = 1 := by decide +kernel
  have key2 : ∀ q ∈ qs, 2305843009213693950 / q < 2 ^ 61 ∧ pw 2305843009213693951 61 37 (2305843009213693950 / q) ≠ 1 := by decide +kernel
  have hlt : 2305843009213693950 < 2 ^ 61 := by decide +kernel
  generalize hp : (2305843009213693951 : Nat) = p at *
  generalize hn : (2305843009213693950 : Nat) = n at *
  refine ⟨37, root_of p n 37 (by omega) (Nat.mod_eq_of_lt (by omega)) ?_ (by omega) ?_⟩
  · rw [← pw_eq p 61 37 n hlt]; exact key1
  · intro q hq
    rw [← pw_eq p 61 37 (n / q) (key2 q hq).1]
    exact (key2 q hq).2

theorem fermat (a n : Nat) (hn : n = 2305843009213693950) (h : a % 2305843009213693951 ≠ 0) : a ^ n % 2305843009213693951 = 1 := by
  obtain ⟨g, R⟩ := root61
  rw [← hn] at R
  exact fermat_of R a h

theorem inverse (a m : Nat) (hm : m = 2305843009213693949) (h : a % 2305843009213693951 ≠ 0) : a * (a ^ m % 2305843009213693951) % 2305843009213693951 = 1 := by
  obtain ⟨g, R⟩ := root61
  exact inverse_of R m (by omega) a h

theorem no_zero (a b : Nat) (h : a * b % 2305843009213693951 = 0) : a % 2305843009213693951 = 0 ∨ b % 2305843009213693951 = 0 := by
  obtain ⟨g, R⟩ := root61
  exact no_zero_of R 2305843009213693949 (by omega) a b h

theorem two_inv (e : Nat) (he : e = 2305843009213693949) : 2 ^ e % 2305843009213693951 = 1152921504606846976 := by
  have key : pw 2305843009213693951 61 2 2305843009213693949 = 1152921504606846976 := by decide +kernel
  have hlt : 2305843009213693949 < 2 ^ 61 := by decide +kernel
  rw [← he] at key hlt
  rw [← pw_eq 2305843009213693951 61 2 e hlt]; exact key

/-- the same, of whole numbers -/
theorem cast_pow (a : Int) (h : 0 ≤ a) (n : Nat) : a ^ n % 2305843009213693951 = ((a.toNat ^ n % 2305843009213693951 : Nat) : Int) := by
  obtain ⟨b, rfl⟩ := Int.eq_ofNat_of_zero_le h
  simp

theorem fermat_int (a : Int) (n : Nat) (hn : n = 2305843009213693950) (h0 : 0 ≤ a) (h : a % 2305843009213693951 ≠ 0) : a ^ n % 2305843009213693951 = 1 := by
  rw [cast_pow a h0, fermat a.toNat n hn (by omega)]; rfl

theorem inverse_int (a : Int) (m : Nat) (hm : m = 2305843009213693949) (h0 : 0 ≤ a) (h : a % 2305843009213693951 ≠ 0) : a * (a ^ m % 2305843009213693951) % 2305843009213693951 = 1 := by
  have h1 := inverse a.toNat m hm (by omega)
  rw [cast_pow a h0]
  obtain ⟨b, rfl⟩ := Int.eq_ofNat_of_zero_le h0
  simp only [Int.toNat_natCast] at *
  rw [← Int.natCast_mul]
  exact congrArg Int.ofNat h1

theorem no_zero_int (a b : Int) (h0 : 0 ≤ a) (g0 : 0 ≤ b) (h : a * b % 2305843009213693951 = 0) : a % 2305843009213693951 = 0 ∨ b % 2305843009213693951 = 0 := by
  obtain ⟨x, rfl⟩ := Int.eq_ofNat_of_zero_le h0
  obtain ⟨y, rfl⟩ := Int.eq_ofNat_of_zero_le g0
  rw [← Int.natCast_mul] at h
  rcases no_zero x y (by omega) with h1 | h1
  · left; omega
  · right; omega

theorem two_inv_int (e : Nat) (he : e = 2305843009213693949) : (2 : Int) ^ e % 2305843009213693951 = 1152921504606846976 := by
  rw [cast_pow 2 (by omega)]
  exact congrArg Int.ofNat (two_inv e he)

end Go.Proofs.Ytljmjjeghebdpaa.Num
