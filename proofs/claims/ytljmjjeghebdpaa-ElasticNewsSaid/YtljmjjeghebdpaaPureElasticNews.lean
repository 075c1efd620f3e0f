/- A sketch of any numbers is told as the document says, or refused. No condition beyond the kinds of the arguments. -/
import Derived.Test.YtljmjjeghebdpaaPElasticNewsx14
import Derived.Test.YtljmjjeghebdpaaBits
import Derived.Test.YtljmjjeghebdpaaHash
import Derived.Test.YtljmjjeghebdpaaLeast
import Derived.Test.YtljmjjeghebdpaaEvs
namespace Go.Proofs.Ytljmjjeghebdpaa.Pure
open Go.RowKit Go.Proofs.Ytljmjjeghebdpaa.PElasticNews Go.Proofs.YtljmjjeghebdpaaW.PrintWords Go.Proofs.YtljmjjeghebdpaaW.PrintLast Go.Proofs.Ytljmjjeghebdpaa.Bits Go.Proofs.Ytljmjjeghebdpaa.Hash Go.Proofs.Ytljmjjeghebdpaa.Least Go.Proofs.Ytljmjjeghebdpaa.Evs
set_option linter.unusedSimpArgs false
set_option linter.unusedVariables false

theorem min_l0 (l : List Int) (hl : l.length ≤ 256) : ∀ (d k i : Nat) (m : Int), l.length - i = d → i ≤ l.length → d < k →
    ∃ t, slices_Min_int_int.l0 k l m i = some t ∧ ∀ c, c ≤ t ↔ (c ≤ m ∧ ∀ j, i ≤ j → j < l.length → c ≤ l.getD j 0) := by
  intro d
  induction d with
  | zero =>
    intro k i m h0 hi hk
    obtain ⟨k, rfl⟩ : ∃ m, k = m + 1 := ⟨k - 1, by omega⟩
    simp only [slices_Min_int_int.l0]
    rw [if_neg (by omega)]
    exact ⟨m, rfl, fun c => ⟨fun h => ⟨h, fun j a b => by omega⟩, fun h => h.1⟩⟩
  | succ d ih =>
    intro k i m h0 hi hk
    obtain ⟨k, rfl⟩ : ∃ m, k = m + 1 := ⟨k - 1, by omega⟩
    have g : i < l.length := by omega
    have e : rd l (i : Int) = l.getD i 0 := rfl
    have hm := mn_le m (l.getD i 0)
    obtain ⟨t, ht, ht2⟩ := ih k (i + 1) (mn m (l.getD i 0)) (by omega) (by omega) (by omega)
    simp only [slices_Min_int_int.l0]
    rw [if_pos (by omega), if_pos (by omega), e, i64_in ((i : Int) + 1) (by omega) (by omega), show (i : Int) + 1 = ((i + 1 : Nat) : Int) by omega]
    refine ⟨t, ht, fun c => (ht2 c).trans ⟨fun h => ⟨by have := h.1; omega, fun j a b => ?_⟩, fun h => ⟨?_, fun j a b => h.2 j (by omega) b⟩⟩⟩
    · by_cases e' : j = i
      · subst e'; have := h.1; omega
      · exact h.2 j (by omega) b
    · have := h.1; have := h.2 i (Nat.le_refl _) g; omega

theorem min_spec (k : Nat) (l : List Int) (h1 : 1 ≤ l.length) (hl : l.length ≤ 256) (hk : 258 ≤ k) : ∃ t, slices_Min_int_int.f k l = some t ∧ ∀ c, c ≤ t ↔ ∀ j, j < l.length → c ≤ l.getD j 0 := by
  obtain ⟨t, ht, ht2⟩ := min_l0 l hl (l.length - 1) k 1 (l.getD 0 0) (by omega) (by omega) (by omega)
  unfold slices_Min_int_int.f
  rw [if_pos (by omega)]
  refine ⟨t, ht, fun c => (ht2 c).trans ⟨fun h j b => ?_, fun h => ⟨h 0 (by omega), fun j _ b => h j b⟩⟩⟩
  by_cases e : j = 0
  · subst e; exact h.1
  · exact h.2 j (by omega) b

theorem mx_ge (a b : Int) : a ≤ mx a b ∧ b ≤ mx a b ∧ (mx a b = a ∨ mx a b = b) := by
  unfold mx
  split <;> omega

theorem max_l0 (l : List Int) (hl : l.length ≤ 256) : ∀ (d k i : Nat) (m : Int), l.length - i = d → i ≤ l.length → d < k →
    ∃ t, slices_Max_int_int.l0 k l m i = some t ∧ ∀ c, t ≤ c ↔ (m ≤ c ∧ ∀ j, i ≤ j → j < l.length → l.getD j 0 ≤ c) := by
  intro d
  induction d with
  | zero =>
    intro k i m h0 hi hk
    obtain ⟨k, rfl⟩ : ∃ m, k = m + 1 := ⟨k - 1, by omega⟩
    simp only [slices_Max_int_int.l0]
    rw [if_neg (by omega)]
    exact ⟨m, rfl, fun c => ⟨fun h => ⟨h, fun j a b => by omega⟩, fun h => h.1⟩⟩
  | succ d ih =>
    intro k i m h0 hi hk
    obtain ⟨k, rfl⟩ : ∃ m, k = m + 1 := ⟨k - 1, by omega⟩
    have g : i < l.length := by omega
    have e : rd l (i : Int) = l.getD i 0 := rfl
    have hm := mx_ge m (l.getD i 0)
    obtain ⟨t, ht, ht2⟩ := ih k (i + 1) (mx m (l.getD i 0)) (by omega) (by omega) (by omega)
    simp only [slices_Max_int_int.l0]
    rw [if_pos (by omega), if_pos (by omega), e, i64_in ((i : Int) + 1) (by omega) (by omega), show (i : Int) + 1 = ((i + 1 : Nat) : Int) by omega]
    refine ⟨t, ht, fun c => (ht2 c).trans ⟨fun h => ⟨by have := h.1; omega, fun j a b => ?_⟩, fun h => ⟨?_, fun j a b => h.2 j (by omega) b⟩⟩⟩
    · by_cases e' : j = i
      · subst e'; have := h.1; omega
      · exact h.2 j (by omega) b
    · have := h.1; have := h.2 i (Nat.le_refl _) g; omega

theorem max_spec (k : Nat) (l : List Int) (h1 : 1 ≤ l.length) (hl : l.length ≤ 256) (hk : 258 ≤ k) : ∃ t, slices_Max_int_int.f k l = some t ∧ ∀ c, t ≤ c ↔ ∀ j, j < l.length → l.getD j 0 ≤ c := by
  obtain ⟨t, ht, ht2⟩ := max_l0 l hl (l.length - 1) k 1 (l.getD 0 0) (by omega) (by omega) (by omega)
  unfold slices_Max_int_int.f
  rw [if_pos (by omega)]
  refine ⟨t, ht, fun c => (ht2 c).trans ⟨fun h j b => ?_, fun h => ⟨h 0 (by omega), fun j _ b => h j b⟩⟩⟩
  by_cases e : j = 0
  · subst e; exact h.1
  · exact h.2 j (by omega) b

def rowB (most : Int) (rows : List (List Int)) (r : List Int) : Bool := decide (rowOk most (colsOf rows) r)

theorem right_l0 (s most : Int) (rows : List (List Int)) (h1 : 1 ≤ rows.length) (h7 : rows.length ≤ 7) : ∀ (d k i : Nat), rows.length - i = d → i ≤ rows.length → d + 260 ≤ k →
    least_Right.l0 k rows rows.length i s most rows = some ((rows.drop i).all (rowB most rows)) := by
  intro d
  induction d with
  | zero =>
    intro k i h0 hi hk
    obtain ⟨k, rfl⟩ : ∃ m, k = m + 1 := ⟨k - 1, by omega⟩
    simp only [least_Right.l0]
    rw [if_neg (by omega), List.drop_of_length_le (by omega)]
    rfl
  | succ d ih =>
    intro k i h0 hi hk
    obtain ⟨k, rfl⟩ : ∃ m, k = m + 1 := ⟨k - 1, by omega⟩
    have g : i < rows.length := by omega
    have hb := ih k (i + 1) (by omega) (by omega) (by omega)
    have e : rd_L9 rows (i : Int) = rows[i] := by
      show rows.getD i [] = rows[i]
      simp [List.getD_eq_getElem?_getD, g]
    have e0 : ((rd_L9 rows 0).length : Int) = (colsOf rows : Int) := rfl
    rw [List.drop_eq_getElem_cons g, List.all_cons]
    simp only [least_Right.l0]
    rw [if_pos (by omega), if_pos (by omega), if_pos (by omega), e, e0, i64_in ((i : Int) + 1) (by omega) (by omega), show (i : Int) + 1 = ((i + 1 : Nat) : Int) by omega]
    generalize rows[i] = r
    by_cases c1 : (r.length : Int) < 1
    · rw [if_pos c1, rowB, decide_eq_false (fun o => by have := o.1; omega)]; rfl
    · rw [if_neg c1]
      by_cases c2 : (r.length : Int) > 256
      · rw [if_pos c2, rowB, decide_eq_false (fun o => by have := o.2.1; omega)]; rfl
      · rw [if_neg c2, if_pos (by omega)]
        by_cases c3 : (r.length : Int) = (colsOf rows : Int)
        · rw [if_pos c3]
          obtain ⟨t, ht, ht2⟩ := min_spec k r (by omega) (by omega) (by omega)
          obtain ⟨u, hu, hu2⟩ := max_spec k r (by omega) (by omega) (by omega)
          rw [ht]; simp only [Option.bind_some]
          by_cases c4 : t < 0
          · rw [if_pos c4, rowB, decide_eq_false (fun o => by have := (ht2 0).2 (fun j hj => (o.2.2.2 _ (getD_num r j hj)).1); omega)]; rfl
          · rw [if_neg c4, hu]; simp only [Option.bind_some]
            by_cases c5 : u > most
            · rw [if_pos c5, rowB, decide_eq_false (fun o => by have := (hu2 most).2 (fun j hj => (o.2.2.2 _ (getD_num r j hj)).2); omega)]; rfl
            · rw [if_neg c5, rowB, decide_eq_true, hb]; rfl
              refine ⟨by omega, by omega, by omega, fun x hx => ?_⟩
              obtain ⟨n, hn, hn2⟩ := List.mem_iff_getElem.1 hx
              have A := (ht2 0).1 (by omega) n hn
              have B := (hu2 most).1 (by omega) n hn
              have E : r.getD n 0 = x := by simp [List.getD_eq_getElem?_getD, hn, hn2]
              omega
        · rw [if_neg c3, rowB, decide_eq_false (fun o => by have := o.2.2.1; omega)]; rfl

theorem all_rows (most : Int) (rows : List (List Int)) (h1 : 1 ≤ most) (h2 : most ≤ 1099511627776) (h3 : 1 ≤ rows.length) (h4 : rows.length ≤ 7) : rows.all (rowB most rows) = decide (rightL most rows) := by
  rw [Bool.eq_iff_iff, List.all_eq_true, decide_eq_true_iff]
  unfold rowB rightL
  exact ⟨fun h => ⟨h1, h2, h3, h4, fun r hr => of_decide_eq_true (h r hr)⟩, fun h r hr => decide_eq_true (h.2.2.2.2 r hr)⟩

theorem right_spec (k : Nat) (s most : Int) (rows : List (List Int)) (hk : 300 ≤ k) : least_Right.f k s most rows = some (decide (rightL most rows)) := by
  obtain ⟨k, rfl⟩ : ∃ m, k = m + 1 := ⟨k - 1, by omega⟩
  unfold least_Right.f
  by_cases c1 : most < 1
  · rw [if_pos c1, decide_eq_false (fun o => by have := o.1; omega)]; rfl
  · rw [if_neg c1]
    by_cases c2 : most > 1099511627776
    · rw [if_pos c2, decide_eq_false (fun o => by have := o.2.1; omega)]; rfl
    · rw [if_neg c2]
      by_cases c3 : (rows.length : Int) < 1
      · rw [if_pos c3, decide_eq_false (fun o => by have := o.2.2.1; omega)]; rfl
      · rw [if_neg c3]
        by_cases c4 : (rows.length : Int) > 7
        · rw [decide_eq_true c4, decide_eq_false (fun o => by have := o.2.2.2.1; omega)]; rfl
        · rw [decide_eq_false c4]
          simp only [least_Right.j0]
          rw [if_neg (by decide)]
          have h := right_l0 s most rows (by omega) (by omega) rows.length k 0 (by omega) (by omega) (by omega)
          rw [List.drop_zero, all_rows most rows (by omega) (by omega) (by omega) (by omega)] at h
          exact h

theorem of_spec (a : Int) (h0 : 0 ≤ a) (h1 : a < 18446744073709551616) : field_Of.f a = some (a % 2305843009213693951) := by
  unfold field_Of.f
  rw [and_p a h0 h1, u64_in _ (by omega) (by omega)]
  split
  · rw [u64_in _ (by omega) (by omega)]
    exact congrArg some (by omega)
  · exact congrArg some (by omega)

theorem add_spec (a b : Int) (h0 : 0 ≤ a) (h1 : a < 18446744073709551616) (g0 : 0 ≤ b) (g1 : b < 18446744073709551616) :
    field_Add.f a b = some ((a + b) % 2305843009213693951) := by
  unfold field_Add.f
  rw [of_spec a h0 h1, of_spec b g0 g1]
  simp only [Option.bind_some]
  rw [u64_in _ (by omega) (by omega), of_spec _ (by omega) (by omega)]
  simp only [Option.bind_some]
  exact congrArg some (by omega)

theorem mul64_spec (a b : Int) (h0 : 0 ≤ a) (h1 : a < 18446744073709551616) (g0 : 0 ≤ b) (g1 : b < 18446744073709551616) :
    bits_Mul64.f a b = some (a * b / 18446744073709551616, a * b % 18446744073709551616) := by
  unfold bits_Mul64.f
  have hh := halves a b
  obtain ⟨p0, p1⟩ := mul_bd (a := a / 4294967296) (b := b / 4294967296) (by omega) (by omega) (by omega) (by omega)
  obtain ⟨q0, q1⟩ := mul_bd (a := a / 4294967296) (b := b % 4294967296) (by omega) (by omega) (by omega) (by omega)
  obtain ⟨r0, r1⟩ := mul_bd (a := a % 4294967296) (b := b / 4294967296) (by omega) (by omega) (by omega) (by omega)
  obtain ⟨s0, s1⟩ := mul_bd (a := a % 4294967296) (b := b % 4294967296) (by omega) (by omega) (by omega) (by omega)
  rw [and_32 a h0 h1, and_32 b g0 g1]
  generalize a / 4294967296 * (b / 4294967296) = p at *
  generalize a / 4294967296 * (b % 4294967296) = q at *
  generalize a % 4294967296 * (b / 4294967296) = r at *
  generalize a % 4294967296 * (b % 4294967296) = s at *
  generalize a * b = m at *
  clear h0 h1 g0 g1
  rw [u64_in p (by omega) (by omega), u64_in q (by omega) (by omega), u64_in r (by omega) (by omega), u64_in s (by omega) (by omega)]
  rw [u64_in (q + s / 4294967296) (by omega) (by omega)]
  rw [and_32 _ (by omega) (by omega)]
  rw [u64_in (p + _) (by omega) (by omega), u64_in (_ + r) (by omega) (by omega), wrap_u64 m]
  rw [u64_in _ (by omega) (by omega)]
  exact congrArg some (Prod.ext (by show _ = _; omega) rfl)

theorem mul_spec (a b : Int) (h0 : 0 ≤ a) (h1 : a < 18446744073709551616) (g0 : 0 ≤ b) (g1 : b < 18446744073709551616) :
    field_Mul.f a b = some (a * b % 2305843009213693951) := by
  unfold field_Mul.f
  rw [of_spec a h0 h1, of_spec b g0 g1, Int.mul_emod]
  simp only [Option.bind_some]
  have x0 : 0 ≤ a % 2305843009213693951 := by omega
  have x1 : a % 2305843009213693951 ≤ 2305843009213693950 := by omega
  have y0 : 0 ≤ b % 2305843009213693951 := by omega
  have y1 : b % 2305843009213693951 ≤ 2305843009213693950 := by omega
  generalize a % 2305843009213693951 = x at *
  generalize b % 2305843009213693951 = y at *
  rw [mul64_spec x y x0 (by omega) y0 (by omega)]
  simp only [Option.bind_some]
  have hm : 0 ≤ x * y ∧ x * y ≤ 2305843009213693950 * 2305843009213693950 := ⟨Int.mul_nonneg x0 y0, Int.mul_le_mul x1 y1 y0 (by omega)⟩
  generalize x * y = m at *
  obtain ⟨m0, m1⟩ := hm
  rw [and_p _ (by omega) (by omega)]
  rw [u64_in (_ * 8) (by omega) (by omega)]
  rw [or_3 _ _ (by omega) (by omega) (by omega) (by omega) (by omega)]
  rw [u64_in _ (by omega) (by omega), of_spec _ (by omega) (by omega)]
  simp only [Option.bind_some]
  exact congrArg some (by omega)

theorem row_spec (seed i : Int) (h0 : 0 ≤ seed) (h1 : seed < 18446744073709551616) (hi : i < 9223372036854775808) : hash_Row.f seed i = some (hrow seed i) := by
  unfold hash_Row.f hrow hmid
  have e : mx i 0 = if i < 0 then 0 else i := rfl
  rw [e, add_spec seed 3 h0 h1 (by omega) (by omega)]
  generalize hj : (if i < 0 then (0 : Int) else i) = j
  have hj0 : 0 ≤ j ∧ j < 9223372036854775808 := by rw [← hj]; split <;> omega
  simp only [Option.bind_some]
  rw [u64_in j (by omega) (by omega), add_spec j 2 (by omega) (by omega) (by omega) (by omega)]
  simp only [Option.bind_some]
  rw [mul_spec _ _ (by omega) (by omega) (by omega) (by omega)]
  simp only [Option.bind_some]
  rw [add_spec _ 5 (by omega) (by omega) (by omega) (by omega)]
  simp only [Option.bind_some]
  rw [mul_spec _ _ (by omega) (by omega) (by omega) (by omega)]
  rfl

theorem new_l0 (s most : Int) (c n : Nat) (hc : c ≤ 256) (hn : n ≤ 7) : ∀ (d k i : Nat), n - i = d → i ≤ n → d < k →
    least_New.l0 k c n i s most (List.replicate i (List.replicate c 0)) = some (s, most, List.replicate n (List.replicate c 0), 0) := by
  intro d
  induction d with
  | zero =>
    intro k i h0 hi hk
    obtain ⟨k, rfl⟩ : ∃ m, k = m + 1 := ⟨k - 1, by omega⟩
    simp only [least_New.l0]
    rw [if_neg (by omega), show i = n by omega]
  | succ d ih =>
    intro k i h0 hi hk
    obtain ⟨k, rfl⟩ : ∃ m, k = m + 1 := ⟨k - 1, by omega⟩
    have hl : (List.replicate i (List.replicate c (0 : Int))).length = i := List.length_replicate
    have h := ih k (i + 1) (by omega) (by omega) (by omega)
    rw [List.replicate_succ'] at h
    simp only [least_New.l0]
    rw [if_pos (by omega), if_pos (by omega), if_pos (by omega), if_pos (by omega), i64_in ((i : Int) + 1) (by omega) (by omega), show (i : Int) + 1 = ((i + 1 : Nat) : Int) by omega]
    exact h

theorem new_spec (k : Nat) (s n c most : Int) (hk : 20 ≤ k) : least_New.f k s n c most = some (if 1 ≤ n ∧ n ≤ 7 ∧ 1 ≤ c ∧ c ≤ 256 ∧ 1 ≤ most ∧ most ≤ 1099511627776 then (s, most, List.replicate n.toNat (List.replicate c.toNat 0), 0) else (0, 0, [], 1)) := by
  obtain ⟨k, rfl⟩ : ∃ m, k = m + 1 := ⟨k - 1, by omega⟩
  unfold least_New.f
  by_cases c1 : n < 1
  · rw [if_pos c1, if_neg (by omega)]; rfl
  · rw [if_neg c1]
    by_cases c2 : n > 7
    · rw [if_pos c2, if_neg (by omega)]; rfl
    · rw [if_neg c2]
      by_cases c3 : c < 1
      · rw [if_pos c3, if_neg (by omega)]; rfl
      · rw [if_neg c3]
        by_cases c4 : c > 256
        · rw [if_pos c4, if_neg (by omega)]; rfl
        · rw [if_neg c4]
          by_cases c5 : most < 1
          · rw [if_pos c5, if_neg (by omega)]; rfl
          · rw [if_neg c5]
            by_cases c6 : most > 1099511627776
            · rw [decide_eq_true c6, if_neg (by omega)]; rfl
            · rw [decide_eq_false c6, if_pos (by omega)]
              simp only [least_New.j0]
              rw [if_neg (by decide)]
              obtain ⟨n, rfl⟩ := Int.eq_ofNat_of_zero_le (show 0 ≤ n by omega)
              obtain ⟨c, rfl⟩ := Int.eq_ofNat_of_zero_le (show 0 ≤ c by omega)
              exact new_l0 s most c n (by omega) (by omega) n k 0 (by omega) (by omega) (by omega)

theorem new_right (n c : Nat) (most : Int) (hn : 1 ≤ n) (hn2 : n ≤ 7) (hc : 1 ≤ c) (hc2 : c ≤ 256) (hm : 1 ≤ most) (hm2 : most ≤ 1099511627776) : rightL most (List.replicate n (List.replicate c 0)) := by
  have hcols : colsOf (List.replicate n (List.replicate c (0 : Int))) = c := by
    obtain ⟨m, rfl⟩ : ∃ m, n = m + 1 := ⟨n - 1, by omega⟩
    simp [colsOf, List.replicate_succ]
  refine ⟨hm, hm2, by rw [List.length_replicate]; exact hn, by rw [List.length_replicate]; exact hn2, fun r hr => ?_⟩
  rw [hcols]
  obtain ⟨_, rfl⟩ := List.mem_replicate.1 hr
  refine ⟨by rw [List.length_replicate]; exact hc, by rw [List.length_replicate]; exact hc2, List.length_replicate, fun x hx => ?_⟩
  obtain ⟨_, rfl⟩ := List.mem_replicate.1 hx
  omega

def numB (most : Int) (x : Int) : Bool := decide (0 ≤ x ∧ x ≤ most)

theorem rright_l1 (s most : Int) (rows : List (List Int)) (i : Nat) (g : i < rows.length) (h7 : rows.length ≤ 7) (hlen : rows[i].length ≤ 256) (K : Nat) (b : Bool) (hb : ∀ k, K ≤ k → rillmeterref11_Right.l0 k ((i + 1 : Nat) : Int) s most rows = some b) : ∀ (d k j : Nat), rows[i].length - j = d → j ≤ rows[i].length → K + d + 1 ≤ k →
    rillmeterref11_Right.l1 k i rows[i].length j s most rows = some ((rows[i].drop j).all (numB most) && b) := by
  have e : rd_L9 rows (i : Int) = rows[i] := by
    show rows.getD i [] = rows[i]
    simp [List.getD_eq_getElem?_getD, g]
  intro d
  induction d with
  | zero =>
    intro k j h0 hi hk
    obtain ⟨k, rfl⟩ : ∃ m, k = m + 1 := ⟨k - 1, by omega⟩
    simp only [rillmeterref11_Right.l1]
    rw [if_neg (by omega), List.drop_of_length_le (by omega), i64_in ((i : Int) + 1) (by omega) (by omega), show (i : Int) + 1 = ((i + 1 : Nat) : Int) by omega, hb k (by omega)]
    rfl
  | succ d ih =>
    intro k j h0 hi hk
    obtain ⟨k, rfl⟩ : ∃ m, k = m + 1 := ⟨k - 1, by omega⟩
    have gj : j < rows[i].length := by omega
    rw [List.drop_eq_getElem_cons gj, List.all_cons]
    simp only [rillmeterref11_Right.l1]
    rw [if_pos (by omega), if_pos (by omega), if_pos (by omega), if_pos (by omega), e, if_pos (by omega), rd_eq _ j gj, i64_in ((j : Int) + 1) (by omega) (by omega), show (j : Int) + 1 = ((j + 1 : Nat) : Int) by omega]
    by_cases c1 : rows[i][j] < 0
    · rw [if_pos c1, numB, decide_eq_false (fun o => by have := o.1; omega)]; rfl
    · rw [if_neg c1]
      by_cases c2 : rows[i][j] > most
      · rw [if_pos c2, numB, decide_eq_false (fun o => by have := o.2; omega)]; rfl
      · rw [if_neg c2, ih k (j + 1) (by omega) (by omega) (by omega), numB, decide_eq_true ⟨by omega, by omega⟩, Bool.true_and]

set_option maxRecDepth 100000 in
theorem rright_l0 (s most : Int) (rows : List (List Int)) (h1 : 1 ≤ rows.length) (h7 : rows.length ≤ 7) : ∀ (d k i : Nat), rows.length - i = d → i ≤ rows.length → d * 260 + 1 ≤ k →
    rillmeterref11_Right.l0 k i s most rows = some ((rows.drop i).all (rowB most rows)) := by
  intro d
  induction d with
  | zero =>
    intro k i h0 hi hk
    obtain ⟨k, rfl⟩ : ∃ m, k = m + 1 := ⟨k - 1, by omega⟩
    simp only [rillmeterref11_Right.l0]
    rw [if_neg (by omega), List.drop_of_length_le (by omega)]
    rfl
  | succ d ih =>
    intro k i h0 hi hk
    obtain ⟨k, rfl⟩ : ∃ m, k = m + 2 := ⟨k - 2, by omega⟩
    have g : i < rows.length := by omega
    have e : rd_L9 rows (i : Int) = rows[i] := by
      show rows.getD i [] = rows[i]
      simp [List.getD_eq_getElem?_getD, g]
    have e0 : ((rd_L9 rows 0).length : Int) = (colsOf rows : Int) := rfl
    rw [List.drop_eq_getElem_cons g, List.all_cons]
    simp only [rillmeterref11_Right.l0, rillmeterref11_Right.j2]
    rw [if_pos (by omega), if_pos (by omega), e, e0]
    by_cases c1 : (rows[i].length : Int) = 0
    · rw [if_pos c1, if_pos trivial, rowB, decide_eq_false (fun o => by have := o.1; omega)]; rfl
    · rw [if_neg c1]
      by_cases c2 : (rows[i].length : Int) > 256
      · rw [if_pos c2, if_pos trivial, rowB, decide_eq_false (fun o => by have := o.2.1; omega)]; rfl
      · rw [if_neg c2, if_pos (by omega)]
        by_cases c3 : (rows[i].length : Int) = (colsOf rows : Int)
        · have c3b : ((rows[i].length : Int) != (colsOf rows : Int)) = false := by simp [c3]
          rw [c3b, if_neg (by decide)]
          have hx : ∀ k', d * 260 + 1 ≤ k' → rillmeterref11_Right.l0 k' ((i + 1 : Nat) : Int) s most rows = some ((rows.drop (i + 1)).all (rowB most rows)) := fun k' hk' => ih k' (i + 1) (by omega) (by omega) hk'
          have hle : rows[i].length ≤ 256 := by omega
          have hfu : d * 260 + 1 + rows[i].length + 1 ≤ k := by omega
          have h := rright_l1 s most rows i g h7 hle (d * 260 + 1) _ hx rows[i].length k 0 rfl (Nat.zero_le _) hfu
          have ee : rowB most rows rows[i] = (rows[i].drop 0).all (numB most) := by
            rw [List.drop_zero, Bool.eq_iff_iff, List.all_eq_true]
            unfold rowB numB
            rw [decide_eq_true_iff]
            unfold rowOk
            exact ⟨fun h x hx => decide_eq_true (h.2.2.2 x hx), fun h => ⟨by omega, by omega, by omega, fun x hx => of_decide_eq_true (h x hx)⟩⟩
          rw [ee]
          exact h
        · have c3b : ((rows[i].length : Int) != (colsOf rows : Int)) = true := by simpa using c3
          rw [c3b, if_pos rfl, rowB, decide_eq_false (fun o => by have := o.2.2.1; omega)]; rfl

theorem rright_spec (k : Nat) (s most : Int) (rows : List (List Int)) (hk : 2000 ≤ k) : rillmeterref11_Right.f k s most rows = some (decide (rightL most rows)) := by
  obtain ⟨k, rfl⟩ : ∃ m, k = m + 1 := ⟨k - 1, by omega⟩
  unfold rillmeterref11_Right.f
  by_cases c1 : most < 1
  · rw [if_pos c1, decide_eq_false (fun o => by have := o.1; omega)]; rfl
  · rw [if_neg c1]
    by_cases c2 : most > 1099511627776
    · rw [if_pos c2, decide_eq_false (fun o => by have := o.2.1; omega)]; rfl
    · rw [if_neg c2]
      by_cases c3 : (rows.length : Int) = 0
      · rw [if_pos c3, decide_eq_false (fun o => by have := o.2.2.1; omega)]; rfl
      · rw [if_neg c3]
        by_cases c4 : (rows.length : Int) > 7
        · rw [decide_eq_true c4, decide_eq_false (fun o => by have := o.2.2.2.1; omega)]; rfl
        · rw [decide_eq_false c4]
          simp only [rillmeterref11_Right.j0]
          rw [if_neg (by decide)]
          have h := rright_l0 s most rows (by omega) (by omega) rows.length k 0 (by omega) (by omega) (by omega)
          rw [List.drop_zero, all_rows most rows (by omega) (by omega) (by omega) (by omega)] at h
          exact h

theorem rmul_l0 (d : Nat) : ∀ (k : Nat) (x n out : Int), 0 ≤ x → x < 2305843009213693951 → 0 ≤ n → n < 2305843009213693951 → n < 2 ^ d → 0 ≤ out → out < 2305843009213693951 → d < k →
    rillmeterref01_Mul.l0 k x n out = some ((out + x * n) % 2305843009213693951) := by
  induction d with
  | zero =>
    intro k x n out x0 x1 n0 n1 nd o0 o1 hk
    obtain ⟨k, rfl⟩ : ∃ m, k = m + 1 := ⟨k - 1, by omega⟩
    have hn : n = 0 := by simp at nd; omega
    simp only [rillmeterref01_Mul.l0]
    rw [if_neg (by omega), hn]
    exact congrArg some (by simp; omega)
  | succ d ih =>
    intro k x n out x0 x1 n0 n1 nd o0 o1 hk
    obtain ⟨k, rfl⟩ : ∃ m, k = m + 1 := ⟨k - 1, by omega⟩
    simp only [rillmeterref01_Mul.l0]
    by_cases hp : n > 0
    · have hd : n / 2 < 2 ^ d := by rw [Int.pow_succ] at nd; omega
      rw [if_pos hp, Int.tmod_eq_emod_of_nonneg n0, Int.tdiv_eq_ediv_of_nonneg n0, u64_in (x + x) (by omega) (by omega), u64_in (n / 2) (by omega) (by omega),
        u64_in (out + x) (by omega) (by omega), Int.tmod_eq_emod_of_nonneg (by omega), Int.tmod_eq_emod_of_nonneg (by omega)]
      split
      · rw [ih k _ (n / 2) _ (by omega) (by omega) (by omega) (by omega) hd (by omega) (by omega) (by omega)]
        have e : n = 2 * (n / 2) + 1 := by omega
        refine congrArg some ?_
        generalize n / 2 = m at *
        subst e
        rw [Int.add_emod, Int.emod_emod, Int.mul_emod, Int.emod_emod, ← Int.mul_emod, ← Int.add_emod]
        exact congrArg (· % _) (by grind)
      · rw [ih k _ (n / 2) _ (by omega) (by omega) (by omega) (by omega) hd o0 o1 (by omega)]
        have e : n = 2 * (n / 2) := by omega
        refine congrArg some ?_
        generalize n / 2 = m at *
        subst e
        rw [Int.add_emod, Int.mul_emod, Int.emod_emod, ← Int.mul_emod, ← Int.add_emod]
        exact congrArg (· % _) (by grind)
    · have hn : n = 0 := by omega
      rw [if_neg hp, hn]
      exact congrArg some (by simp; omega)

theorem rmul_spec (k : Nat) (a b : Int) (h0 : 0 ≤ a) (g0 : 0 ≤ b) (hk : 65 ≤ k) :
    rillmeterref01_Mul.f k a b = some (a * b % 2305843009213693951) := by
  unfold rillmeterref01_Mul.f
  rw [Int.tmod_eq_emod_of_nonneg h0, Int.tmod_eq_emod_of_nonneg g0]
  rw [rmul_l0 61 k _ _ 0 (by omega) (by omega) (by omega) (by omega) (by omega) (by omega) (by omega) (by omega), Int.zero_add, ← Int.mul_emod]

theorem radd_spec (a b : Int) (h0 : 0 ≤ a) (g0 : 0 ≤ b) : rillmeterref01_Add.f a b = some ((a + b) % 2305843009213693951) := by
  unfold rillmeterref01_Add.f
  rw [Int.tmod_eq_emod_of_nonneg h0, Int.tmod_eq_emod_of_nonneg g0, u64_in _ (by omega) (by omega), Int.tmod_eq_emod_of_nonneg (by omega)]
  exact congrArg some (by omega)

theorem rpow_rec (d : Nat) : ∀ (k : Nat) (a n : Int), 0 ≤ a → a < 18446744073709551616 → 0 ≤ n → n < 18446744073709551616 → n < 2 ^ d → 66 + d ≤ k →
    rillmeterref01_Pow.f k a n = some (a ^ n.toNat % 2305843009213693951) := by
  induction d with
  | zero =>
    intro k a n x0 x1 n0 n1 nd hk
    obtain ⟨k, rfl⟩ : ∃ m, k = m + 1 := ⟨k - 1, by omega⟩
    have hn : n = 0 := by simp at nd; omega
    simp only [rillmeterref01_Pow.f]
    rw [if_pos hn, hn]
    exact congrArg some (by simp)
  | succ d ih =>
    intro k a n x0 x1 n0 n1 nd hk
    obtain ⟨k, rfl⟩ : ∃ m, k = m + 1 := ⟨k - 1, by omega⟩
    simp only [rillmeterref01_Pow.f]
    by_cases hp : n = 0
    · rw [if_pos hp, hp]
      exact congrArg some (by simp)
    · have hd : n / 2 < 2 ^ d := by rw [Int.pow_succ] at nd; omega
      rw [if_neg hp, Int.tmod_eq_emod_of_nonneg n0, Int.tdiv_eq_ediv_of_nonneg n0, u64_in (n / 2) (by omega) (by omega)]
      rw [ih k a (n / 2) x0 x1 (by omega) (by omega) hd (by omega)]
      simp only [Option.bind_some]
      rw [rmul_spec k _ _ (by omega) (by omega) (by omega)]
      simp only [Option.bind_some]
      have e2 : a ^ (n / 2).toNat % 2305843009213693951 * (a ^ (n / 2).toNat % 2305843009213693951) % 2305843009213693951 = a ^ (2 * (n.toNat / 2)) % 2305843009213693951 := by
        rw [← Int.mul_emod, ← Int.pow_add, show (n / 2).toNat + (n / 2).toNat = 2 * (n.toNat / 2) by omega]
      rw [e2]
      split
      · rw [rmul_spec k _ _ (by omega) x0 (by omega)]
        have e : n.toNat = 2 * (n.toNat / 2) + 1 := by omega
        refine congrArg some ?_
        rw [Int.mul_emod, Int.emod_emod, ← Int.mul_emod]
        conv => rhs; rw [e, Int.pow_succ]
      · have e : n.toNat = 2 * (n.toNat / 2) := by omega
        refine congrArg some ?_
        conv => rhs; rw [e]

theorem rpow_spec (k : Nat) (a n : Int) (h0 : 0 ≤ a) (h1 : a < 18446744073709551616) (g0 : 0 ≤ n) (g1 : n < 18446744073709551616) (hk : 130 ≤ k) :
    rillmeterref01_Pow.f k a n = some (a ^ n.toNat % 2305843009213693951) :=
  rpow_rec 64 k a n h0 h1 g0 g1 (by omega) (by omega)

theorem rrow_j0 (k : Nat) (seed i : Int) (h0 : 0 ≤ seed) (hi0 : 0 ≤ i) (hi : i < 9223372036854775808) (hk : 132 ≤ k) : rillmeterref02_Row.j0 k seed i = some (hrow seed i) := by
  obtain ⟨k, rfl⟩ : ∃ m, k = m + 1 := ⟨k - 1, by omega⟩
  simp only [rillmeterref02_Row.j0]
  unfold hrow hmid
  rw [if_neg (by omega), u64_in i (by omega) (by omega), radd_spec seed 3 h0 (by omega), radd_spec i 2 hi0 (by omega)]
  simp only [Option.bind_some]
  rw [rmul_spec k _ _ (by omega) (by omega) (by omega)]
  simp only [Option.bind_some]
  rw [radd_spec _ 5 (by omega) (by omega)]
  simp only [Option.bind_some]
  rw [rpow_spec k _ 2 (by omega) (by omega) (by omega) (by omega) (by omega), show (2 : Int).toNat = 2 from rfl]
  simp only [Option.bind_some]
  rw [show ∀ x : Int, x ^ 2 = x * x from fun x => by rw [Int.pow_succ, Int.pow_succ, Int.pow_zero, Int.one_mul]]

theorem rrow_spec (k : Nat) (seed i : Int) (h0 : 0 ≤ seed) (hi : i < 9223372036854775808) (hk : 132 ≤ k) : rillmeterref02_Row.f k seed i = some (hrow seed i) := by
  unfold rillmeterref02_Row.f
  by_cases a : i < 0
  · rw [if_pos a, rrow_j0 k seed 0 h0 (by omega) (by omega) hk]
    unfold hrow hmid
    rw [if_pos a, if_neg (by omega)]
  · rw [if_neg a, rrow_j0 k seed i h0 (by omega) hi hk]

theorem awake15 : rillmeterlaw15_awake.f 400 = some true := by decide +kernel
theorem awake15_spec : Evt (fun k => rillmeterlaw15_awake.f k) true := ⟨400, fun k hk => at_rounds (g := fun k => rillmeterlaw15_awake.f k) rillmeterlaw15_awake.mono hk awake15⟩
theorem shape_spec (a b c d e : Int) : rillmeterlaw15_shape.f a b c d e = some (decide (1 ≤ a ∧ a ≤ 256 ∧ 1 ≤ b ∧ b ≤ 8 ∧ 1 ≤ c ∧ c ≤ 64 ∧ 1 ≤ d ∧ d ≤ 7 ∧ 1 ≤ e ∧ e ≤ 256)) := by
  unfold rillmeterlaw15_shape.f
  repeat' split
  all_goals (congr 1; first | (refine (decide_eq_decide.2 ?_); omega) | (refine (decide_eq_false ?_).symm; omega))
def newOk (b r v n c : Int) : Prop := 1 ≤ b ∧ b ≤ 256 ∧ 1 ≤ r ∧ r ≤ 8 ∧ 1 ≤ v ∧ v ≤ 64 ∧ 1 ≤ n ∧ n ≤ 7 ∧ 1 ≤ c ∧ c ≤ 256
instance (b r v n c : Int) : Decidable (newOk b r v n c) := inferInstanceAs (Decidable (1 ≤ b ∧ b ≤ 256 ∧ 1 ≤ r ∧ r ≤ 8 ∧ 1 ≤ v ∧ v ≤ 64 ∧ 1 ≤ n ∧ n ≤ 7 ∧ 1 ≤ c ∧ c ≤ 256))
/-- no entry in any bucket -/
def noB (b : Int) : List S56 := List.replicate b.toNat z56
def noL (n c : Int) : List (List Int) := List.replicate n.toNat (List.replicate c.toNat 0)
theorem elnew_spec (s b r v n c : Int) (h0 : 0 ≤ s) (h1 : s < 18446744073709551616) : Evt (fun k => elastic_New.f k s b r v n c) (if newOk b r v n c then (s, r, v, noB b, hrow s 1, 255, noL n c, 0) else (0, 0, 0, [], 0, 0, [], 1)) := by
  refine ⟨20, fun k hk => ?_⟩
  simp only [elastic_New.f]
  rw [row_spec s 1 h0 h1 (by decide), Option.bind_some, new_spec k _ _ _ _ hk, Option.bind_some]
  by_cases g : 1 ≤ n ∧ n ≤ 7 ∧ 1 ≤ c ∧ c ≤ 256
  · rw [if_pos (show 1 ≤ n ∧ n ≤ 7 ∧ 1 ≤ c ∧ c ≤ 256 ∧ (1 : Int) ≤ 255 ∧ (255 : Int) ≤ 1099511627776 from ⟨g.1, g.2.1, g.2.2.1, g.2.2.2, by decide, by decide⟩)]
    simp only
    rw [if_pos trivial]
    by_cases g2 : newOk b r v n c
    · rw [if_pos g2]
      obtain ⟨g3, g4, g5, g6, g7, g8, _⟩ := g2
      rw [if_neg (by omega), if_neg (by omega), if_neg (by omega), if_neg (by omega), if_neg (by omega), if_neg (by omega), if_pos (by omega), if_pos (by omega)]
      rfl
    · rw [if_neg g2]
      by_cases q1 : b < 1
      · rw [if_pos q1]
      · rw [if_neg q1]
        by_cases q2 : b > 256
        · rw [if_pos q2]
        · rw [if_neg q2]
          by_cases q3 : r < 1
          · rw [if_pos q3]
          · rw [if_neg q3]
            by_cases q4 : r > 8
            · rw [if_pos q4]
            · rw [if_neg q4]
              by_cases q5 : v < 1
              · rw [if_pos q5]
              · rw [if_neg q5]
                by_cases q6 : v > 64
                · rw [if_pos q6]
                · exact absurd ⟨by omega, by omega, by omega, by omega, by omega, by omega, g⟩ g2
  · rw [if_neg (show ¬ (1 ≤ n ∧ n ≤ 7 ∧ 1 ≤ c ∧ c ≤ 256 ∧ (1 : Int) ≤ 255 ∧ (255 : Int) ≤ 1099511627776) from fun h => g ⟨h.1, h.2.1, h.2.2.1, h.2.2.2.1⟩)]
    simp only
    rw [if_neg (by decide), if_neg (show ¬ newOk b r v n c from fun h => g ⟨h.2.2.2.2.2.2.1, h.2.2.2.2.2.2.2.1, h.2.2.2.2.2.2.2.2.1, h.2.2.2.2.2.2.2.2.2⟩)]
/-- as the document's -/
def cvE (y : S76) : S77 := ⟨y.f0, y.f1, y.f2⟩
def cvB (y : S56) : S74 := ⟨y.f0.map cvE, y.f1⟩
theorem take56 (l : List S56) (i : Nat) (h : i < l.length) : l.take (i + 1) = l.take i ++ [rd_T56 l (i : Int)] ∧ rd_T56 l (i : Int) ∈ l := by
  refine ⟨?_, ?_⟩
  · rw [List.take_add_one, List.getElem?_eq_getElem (by omega)]
    simp [rd_T56, List.getD_eq_getElem?_getD, h]
  · unfold rd_T56
    rw [Int.toNat_natCast, List.getD_eq_getElem?_getD, List.getElem?_eq_getElem h]
    exact List.getElem_mem _
theorem take76 (l : List S76) (i : Nat) (h : i < l.length) : l.take (i + 1) = l.take i ++ [rd_T76 l (i : Int)] ∧ rd_T76 l (i : Int) ∈ l := by
  refine ⟨?_, ?_⟩
  · rw [List.take_add_one, List.getElem?_eq_getElem (by omega)]
    simp [rd_T76, List.getD_eq_getElem?_getD, h]
  · unfold rd_T76
    rw [Int.toNat_natCast, List.getD_eq_getElem?_getD, List.getElem?_eq_getElem h]
    exact List.getElem_mem _
theorem eref_l1 (l : List S56) (n : Nat) (hn : n ≤ 4398046511100) (a b c : Int) (acc : List S74) (hacc : acc.length ≤ 4398046511100) (d e : Int) (rows : List (List Int)) (es : List S76) (hes : es.length ≤ 4398046511100) (ag : Int) {R : Int × Int × Int × List S74 × Int × Int × List (List Int)}
    (h : Evt (fun k => rillmeterlaw15_ref.l0 k l (l.length : Int) ((n + 1 : Nat) : Int) a b c (acc ++ [⟨es.map cvE, ag⟩]) d e rows) R) :
    ∀ (q i : Nat), i + q = es.length → Evt (fun k => rillmeterlaw15_ref.l1 k l (l.length : Int) (n : Int) es (es.length : Int) (i : Int) a b c acc d e rows ((es.take i).map cvE) ag) R := by
  intro q
  induction q with
  | zero =>
    intro i hi
    refine Evt.step h (fun k => ?_)
    simp only [rillmeterlaw15_ref.l1]
    rw [if_neg (by omega), if_pos (by omega), i64_in ((n : Int) + 1) (by omega) (by omega), List.take_of_length_le (by omega)]
    rfl
  | succ q ih =>
    intro i hi
    obtain ⟨e1, _⟩ := take76 es i (by omega)
    have hI := ih (i + 1) (by omega)
    rw [e1, List.map_append] at hI
    refine Evt.step hI (fun k => ?_)
    simp only [rillmeterlaw15_ref.l1]
    rw [if_pos (by omega), if_pos (by omega), if_pos (by omega), if_pos (by rw [List.length_map, List.length_take]; omega), i64_in ((i : Int) + 1) (by omega) (by omega), show (i : Int) + 1 = ((i + 1 : Nat) : Int) by omega]
    rfl
theorem eref_l0 (l : List S56) (hl : l.length ≤ 4398046511100) (hb : ∀ y ∈ l, y.f0.length ≤ 4398046511100) (a b c d e : Int) (rows : List (List Int)) : ∀ (q i : Nat), i + q = l.length → Evt (fun k => rillmeterlaw15_ref.l0 k l (l.length : Int) (i : Int) a b c ((l.take i).map cvB) d e rows) (a, b, c, l.map cvB, d, e, rows) := by
  intro q
  induction q with
  | zero =>
    intro i hi
    refine Evt.step (Evt.now (f := fun _ => some _) (fun _ => rfl)) (fun k => ?_)
    simp only [rillmeterlaw15_ref.l0]
    rw [if_neg (by omega), List.take_of_length_le (by omega)]
  | succ q ih =>
    intro i hi
    obtain ⟨e1, hm⟩ := take56 l i (by omega)
    have hI := ih (i + 1) (by omega)
    rw [e1, List.map_append] at hI
    refine Evt.step (eref_l1 l i (by omega) a b c ((l.take i).map cvB) (by rw [List.length_map, List.length_take]; omega) d e rows (rd_T56 l (i : Int)).f0 (hb _ hm) (rd_T56 l (i : Int)).f1 hI (rd_T56 l (i : Int)).f0.length 0 (by omega)) (fun k => ?_)
    simp only [rillmeterlaw15_ref.l0]
    rw [if_pos (by omega), if_pos (by omega), if_pos (by omega)]
    rfl
theorem eref_spec (l : List S56) (hl : l.length ≤ 4398046511100) (hb : ∀ y ∈ l, y.f0.length ≤ 4398046511100) (a b c d e : Int) (rows : List (List Int)) : Evt (fun k => rillmeterlaw15_ref.f k a b c l d e rows) (a, b, c, l.map cvB, d, e, rows) :=
  (eref_l0 l hl hb a b c d e rows l.length 0 (by omega)).eq (fun k => rfl)
theorem rd_no (m : Nat) (i : Int) : rd_T56 (List.replicate m z56) i = z56 := by
  unfold rd_T56
  rw [List.getD_eq_getElem?_getD, List.getElem?_replicate]
  split <;> rfl
theorem rd_no74 (m : Nat) (i : Int) : rd_T74 (List.replicate m z74) i = z74 := by
  unfold rd_T74
  rw [List.getD_eq_getElem?_getD, List.getElem?_replicate]
  split <;> rfl
theorem bucket_no (r : Int) (hr : 1 ≤ r) (k : Nat) (hk : 1 ≤ k) : elastic_Bucket_right.f k [] 0 r = some true := by
  obtain ⟨k, rfl⟩ : ∃ z, k = z + 1 := ⟨k - 1, by omega⟩
  simp only [elastic_Bucket_right.f, elastic_Bucket_right.l0]
  rw [if_neg (by decide), if_pos (show ((([] : List S76).length : Nat) : Int) ≤ r by simp; omega), if_pos (by decide)]
  rfl
theorem any_no (r : Int) (hr : 1 ≤ r) (k : Nat) (hk : 1 ≤ k) : ∀ m : Nat, elastic_Bucket_44.any k r (List.replicate m z56) = some false := by
  intro m
  induction m with
  | zero => rfl
  | succ m ih =>
    rw [List.replicate_succ, elastic_Bucket_44.any, List.foldr_cons, ← elastic_Bucket_44.any, ih]
    have : elastic_Bucket_right.f k z56.f0 z56.f1 r = some true := bucket_no r hr k hk
    rw [this, Option.bind_some, if_pos rfl]
theorem elright_new (s b r v n c : Int) (h0 : 0 ≤ s) (h1 : s < 18446744073709551616) (g : newOk b r v n c) : Evt (fun k => elastic_Right.f k s r v (noB b) (hrow s 1) 255 (noL n c)) true := by
  obtain ⟨g1, g2, g3, g4, g5, g6, g7, g8, g9, g10⟩ := g
  have hl : (noB b).length = b.toNat := List.length_replicate
  refine ⟨300, fun k hk => ?_⟩
  simp only [elastic_Right.f]
  have hR : rightL 255 (noL n c) := new_right n.toNat c.toNat 255 (by omega) (by omega) (by omega) (by omega) (by decide) (by decide)
  rw [if_pos (by omega), if_pos (by omega), if_pos (by omega), if_pos (by omega), if_pos (by omega), if_pos (by omega), right_spec k _ _ _ hk, decide_eq_true hR, Option.bind_some, if_pos rfl, row_spec s 1 h0 h1 (by decide), Option.bind_some, if_pos rfl, if_pos trivial]
  unfold elastic_Bucket_44.f
  rw [if_pos (by omega), noB, any_no r g3 k (by omega)]
  rfl
theorem list_no (a : Int) (m : Nat) (hm : m ≤ 256) : ∀ (q i : Nat), i + q = m → Evt (fun k => elastic_List.l0 k a [] (List.replicate m z56) (m : Int) (i : Int)) [] := by
  intro q
  induction q with
  | zero =>
    intro i hi
    refine Evt.step (Evt.now (f := fun _ => some _) (fun _ => rfl)) (fun k => ?_)
    simp only [elastic_List.l0]
    rw [if_neg (by omega)]
    rfl
  | succ q ih =>
    intro i hi
    have h1 : Evt (fun k => elastic_List.l1 k a [] (List.replicate m z56) (m : Int) (i : Int) [] 0 0) [] := by
      refine Evt.step (ih (i + 1) (by omega)) (fun k => ?_)
      simp only [elastic_List.l1]
      rw [if_neg (by decide), i64_in ((i : Int) + 1) (by omega) (by omega)]
      rfl
    refine Evt.step h1 (fun k => ?_)
    simp only [elastic_List.l0]
    rw [if_pos (by omega), if_pos (by omega), if_pos (by rw [List.length_replicate]; omega), rd_no]
    rfl
theorem list_new (s b r v n c a : Int) (h0 : 0 ≤ s) (h1 : s < 18446744073709551616) (g : newOk b r v n c) : Evt (fun k => elastic_List.f k s r v (noB b) (hrow s 1) 255 (noL n c) a) [] := by
  have hl : (noB b).length = b.toNat := List.length_replicate
  refine (Evt.bind (elright_new s b r v n c h0 h1 g) (g := fun k t => if t = true then elastic_List.l0 k a [] (noB b) ((noB b).length : Int) 0 else some []) ?_).eq (fun k => rfl)
  refine (list_no a b.toNat (by have := g.2.1; omega) b.toNat 0 (by omega)).eq (fun k => ?_)
  rw [if_pos rfl, hl]
  rfl
theorem r15_l0 (s r v h e : Int) (rows : List (List Int)) (m : Nat) (hr : 1 ≤ r) (hm : m ≤ 256) : ∀ (q i : Nat), i + q = m → Evt (fun k => rillmeterref15_Right.l0 k (i : Int) s r v (List.replicate m z74) h e rows) true := by
  intro q
  induction q with
  | zero =>
    intro i hi
    refine Evt.step (Evt.now (f := fun _ => some _) (fun _ => rfl)) (fun k => ?_)
    simp only [rillmeterref15_Right.l0]
    rw [if_neg (by rw [List.length_replicate]; omega)]
  | succ q ih =>
    intro i hi
    have h1 : Evt (fun k => rillmeterref15_Right.l1 k (i : Int) 0 s r v (List.replicate m z74) h e rows [] 0) true := by
      refine Evt.step (ih (i + 1) (by omega)) (fun k => ?_)
      simp only [rillmeterref15_Right.l1]
      rw [if_neg (by decide), i64_in ((i : Int) + 1) (by omega) (by omega)]
      rfl
    have h2 : Evt (fun k => rillmeterref15_Right.j3 k (i : Int) false s r v (List.replicate m z74) h e rows [] 0) true := by
      refine Evt.step h1 (fun k => ?_)
      simp only [rillmeterref15_Right.j3]
      rw [if_neg (by decide)]
    refine Evt.step h2 (fun k => ?_)
    simp only [rillmeterref15_Right.l0]
    rw [if_pos (by rw [List.length_replicate]; omega), if_pos (by omega), rd_no74, if_neg (show ¬ (((z74.f0).length : Nat) : Int) > r by show ¬ ((0 : Nat) : Int) > r; omega), if_neg (show ¬ z74.f1 < 0 by decide)]
    rfl
theorem r15_new (s b r v n c : Int) (h0 : 0 ≤ s) (h1 : s < 18446744073709551616) (g : newOk b r v n c) : Evt (fun k => rillmeterref15_Right.f k s r v (List.replicate b.toNat z74) (hrow s 1) 255 (noL n c)) true := by
  obtain ⟨g1, g2, g3, g4, g5, g6, g7, g8, g9, g10⟩ := g
  have hR : rightL 255 (noL n c) := new_right n.toNat c.toNat 255 (by omega) (by omega) (by omega) (by omega) (by decide) (by decide)
  have hj1 : Evt (fun k => rillmeterref15_Right.j1 k false s r v (List.replicate b.toNat z74) (hrow s 1) 255 (noL n c)) true := by
    refine Evt.step (r15_l0 s r v (hrow s 1) 255 (noL n c) b.toNat g3 (by omega) b.toNat 0 (by omega)) (fun k => ?_)
    simp only [rillmeterref15_Right.j1]
    rw [if_neg (by decide)]
    rfl
  have hj0 : Evt (fun k => rillmeterref15_Right.j0 k false s r v (List.replicate b.toNat z74) (hrow s 1) 255 (noL n c)) true := by
    obtain ⟨m, e⟩ := hj1
    refine ⟨m + 2001, fun k hk => ?_⟩
    obtain ⟨k, rfl⟩ : ∃ z, k = z + 1 := ⟨k - 1, by omega⟩
    simp only [rillmeterref15_Right.j0]
    rw [if_neg (by decide), rright_spec k _ _ _ (by omega), decide_eq_true hR, Option.bind_some, if_pos rfl, if_pos trivial, rrow_spec k s 1 h0 (by decide) (by omega), Option.bind_some, bne_self_eq_false]
    exact e k (by omega)
  refine hj0.eq (fun k => ?_)
  unfold rillmeterref15_Right.f
  rw [if_neg (by omega), if_neg (by omega), if_neg (by omega), if_neg (by omega), if_neg (by rw [List.length_replicate]; omega), decide_eq_false (by rw [List.length_replicate]; omega)]
theorem law_l0 (s b r v n c : Int) (h0 : 0 ≤ s) (h1 : s < 18446744073709551616) (g : newOk b r v n c) : ∀ (q i : Nat), i + q = b.toNat → Evt (fun k => rillmeterlaw15_ElasticNews.l0 k c ((noB b).length : Int) (i : Int) s r v (noB b) (hrow s 1) 255 (noL n c)) true := by
  have hl : (noB b).length = b.toNat := List.length_replicate
  have g' := g
  obtain ⟨g1, g2, g3, g4, g5, g6, g7, g8, g9, g10⟩ := g'
  have hn : (noL n c).length = n.toNat := List.length_replicate
  intro q
  induction q with
  | zero =>
    intro i hi
    obtain ⟨m1, e1⟩ := list_new s b r v n c 0 h0 h1 g
    obtain ⟨m2, e2⟩ := awake15_spec
    have hc : ((rd_L9 (noL n c) 0).length : Int) = c := by
      unfold rd_L9 noL
      rw [List.getD_eq_getElem?_getD, List.getElem?_replicate, if_pos (by show 0 < n.toNat; omega)]
      show (((List.replicate c.toNat (0 : Int)).length : Nat) : Int) = c
      rw [List.length_replicate]; omega
    refine ⟨m1 + m2 + 1, fun k hk => ?_⟩
    obtain ⟨k, rfl⟩ : ∃ z, k = z + 1 := ⟨k - 1, by omega⟩
    have e1 := e1 k (by omega)
    have e2 := e2 k (by omega)
    simp only at e1 e2
    simp only [rillmeterlaw15_ElasticNews.l0]
    rw [if_neg (by omega), if_pos (by omega), if_pos hc, e1, Option.bind_some, if_pos (show ((([] : List S68).length : Nat) : Int) = 0 from rfl), e2]
    rfl
  | succ q ih =>
    intro i hi
    refine Evt.step (ih (i + 1) (by omega)) (fun k => ?_)
    simp only [rillmeterlaw15_ElasticNews.l0]
    rw [if_pos (by omega), if_pos (by omega), if_pos (by omega), show rd_T56 (noB b) (i : Int) = z56 from rd_no _ _, if_neg (by decide), if_pos (show z56.f1 = 0 from rfl), i64_in ((i : Int) + 1) (by omega) (by omega)]
    rfl
theorem ElasticNews : rillmeterlaw15_ElasticNews.Pure := by
  intro s b r v n c hs _ _ _ _ _
  have hb : 0 ≤ s ∧ s < 18446744073709551616 := by
    simp only [Lit.wf] at hs
    have h1 := Bool.and_eq_true_iff.1 hs
    have h2 := of_decide_eq_true h1.1
    have h3 := of_decide_eq_true h1.2
    have e1 : IntKind.u64.min = 0 := by decide
    have e2 : IntKind.u64.max = 18446744073709551615 := by decide
    omega
  obtain ⟨m0, e0⟩ := awake15_spec
  obtain ⟨m1, e1⟩ := elnew_spec s b r v n c hb.1 hb.2
  by_cases g : newOk b r v n c
  · rw [if_pos g] at e1
    have g' := g
    obtain ⟨g1, g2, g3, g4, g5, g6, g7, g8, g9, g10⟩ := g'
    have hl : (noB b).length = b.toNat := List.length_replicate
    have hn : (noL n c).length = n.toNat := List.length_replicate
    obtain ⟨m2, e2⟩ := eref_spec (noB b) (by omega) (fun y hy => by rw [(List.mem_replicate.1 hy).2]; exact Nat.zero_le _) s r v (hrow s 1) 255 (noL n c)
    have hm : (noB b).map cvB = List.replicate b.toNat z74 := by unfold noB; rw [List.map_replicate]; rfl
    rw [hm] at e2
    obtain ⟨m3, e3⟩ := r15_new s b r v n c hb.1 hb.2 g
    obtain ⟨m4, e4⟩ := law_l0 s b r v n c hb.1 hb.2 g b.toNat 0 (by omega)
    refine ⟨m0 + m1 + m2 + m3 + m4 + 1, ?_⟩
    have e1 := e1 (m0 + m1 + m2 + m3 + m4 + 1) (by omega)
    have e2 := e2 (m0 + m1 + m2 + m3 + m4 + 1) (by omega)
    have e3 := e3 (m0 + m1 + m2 + m3 + m4 + 1) (by omega)
    have e4 := e4 (m0 + m1 + m2 + m3 + m4) (by omega)
    simp only at e1 e2 e3 e4
    simp only [rillmeterlaw15_ElasticNews.f]
    rw [e1, Option.bind_some, shape_spec, decide_eq_true ⟨g1, g2, g3, g4, g5, g6, g7, g8, g9, g10⟩, Option.bind_some, if_pos rfl]
    simp only
    rw [if_pos trivial, if_pos (by omega), if_pos trivial, if_pos trivial, if_pos (by omega), e2, Option.bind_some]
    simp only
    rw [e3, Option.bind_some, Bool.not_true]
    simp only [rillmeterlaw15_ElasticNews.j0]
    rw [if_neg (by decide)]
    exact e4
  · rw [if_neg g] at e1
    refine ⟨m0 + m1, ?_⟩
    have e0 := e0 (m0 + m1) (by omega)
    have e1 := e1 (m0 + m1) (by omega)
    simp only at e0 e1
    simp only [rillmeterlaw15_ElasticNews.f]
    rw [e1, Option.bind_some, shape_spec, decide_eq_false (show ¬ (1 ≤ b ∧ b ≤ 256 ∧ 1 ≤ r ∧ r ≤ 8 ∧ 1 ≤ v ∧ v ≤ 64 ∧ 1 ≤ n ∧ n ≤ 7 ∧ 1 ≤ c ∧ c ≤ 256) from g), Option.bind_some, if_neg (by decide)]
    simp only
    rw [if_pos trivial, if_pos (by decide), e0]
    rfl

end Go.Proofs.Ytljmjjeghebdpaa.Pure
