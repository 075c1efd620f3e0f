/- What is told of a key is no less than all that was added of it, or the most; and no more than all that was added of the keys on its cell, in each row. No condition beyond the kinds of the arguments. -/
import Derived.Test.YteendbdmkijpkaaPLeastBoundsy
import Derived.Test.YteendbdmkijpkaaBits
import Derived.Test.YteendbdmkijpkaaHash
import Derived.Test.YteendbdmkijpkaaLeast
import Derived.Test.YteendbdmkijpkaaLeastVal
namespace Go.Proofs.Yteendbdmkijpkaa.Pure
open Go.RowKit Go.Proofs.Yteendbdmkijpkaa.PLeastBounds Go.Proofs.YteendbdmkijpkaaW.PrintWords Go.Proofs.YteendbdmkijpkaaW.PrintLast Go.Proofs.Yteendbdmkijpkaa.Bits Go.Proofs.Yteendbdmkijpkaa.Hash Go.Proofs.Yteendbdmkijpkaa.Least Go.Proofs.Yteendbdmkijpkaa.LeastVal
set_option linter.unusedSimpArgs false
set_option linter.unusedVariables false

theorem new_l0 (s most : Int) (c n : Nat) (hc : c ≤ 256) (hn : n ≤ 7) : ∀ (d k i : Nat), n - i = d → i ≤ n → d < k →
    least_New.l0 k c n i s most (List.replicate i (List.replicate c 0)) = some (s, most, List.replicate n (List.replicate c 0), 0) := by
  intro d
  induction d with
  | zero =>
    intro k i h0 hi hk
    obtain ⟨k, rfl⟩ : ∃ m, k = m + 1 := ⟨k - 1, by omega⟩
    simp only [least_New.l0]
    rw [if_neg (by omega), show i = n by omega]
  | succ d ih =>
    intro k i h0 hi hk
    obtain ⟨k, rfl⟩ : ∃ m, k = m + 1 := ⟨k - 1, by omega⟩
    have hl : (List.replicate i (List.replicate c (0 : Int))).length = i := List.length_replicate
    have h := ih k (i + 1) (by omega) (by omega) (by omega)
    rw [List.replicate_succ'] at h
    simp only [least_New.l0]
    rw [if_pos (by omega), if_pos (by omega), if_pos (by omega), if_pos (by omega), i64_in ((i : Int) + 1) (by omega) (by omega), show (i : Int) + 1 = ((i + 1 : Nat) : Int) by omega]
    exact h

theorem new_spec (k : Nat) (s n c most : Int) (hk : 20 ≤ k) : least_New.f k s n c most = some (if 1 ≤ n ∧ n ≤ 7 ∧ 1 ≤ c ∧ c ≤ 256 ∧ 1 ≤ most ∧ most ≤ 1099511627776 then (s, most, List.replicate n.toNat (List.replicate c.toNat 0), 0) else (0, 0, [], 1)) := by
  obtain ⟨k, rfl⟩ : ∃ m, k = m + 1 := ⟨k - 1, by omega⟩
  unfold least_New.f
  by_cases c1 : n < 1
  · rw [if_pos c1, if_neg (by omega)]; rfl
  · rw [if_neg c1]
    by_cases c2 : n > 7
    · rw [if_pos c2, if_neg (by omega)]; rfl
    · rw [if_neg c2]
      by_cases c3 : c < 1
      · rw [if_pos c3, if_neg (by omega)]; rfl
      · rw [if_neg c3]
        by_cases c4 : c > 256
        · rw [if_pos c4, if_neg (by omega)]; rfl
        · rw [if_neg c4]
          by_cases c5 : most < 1
          · rw [if_pos c5, if_neg (by omega)]; rfl
          · rw [if_neg c5]
            by_cases c6 : most > 1099511627776
            · rw [decide_eq_true c6, if_neg (by omega)]; rfl
            · rw [decide_eq_false c6, if_pos (by omega)]
              simp only [least_New.j0]
              rw [if_neg (by decide)]
              obtain ⟨n, rfl⟩ := Int.eq_ofNat_of_zero_le (show 0 ≤ n by omega)
              obtain ⟨c, rfl⟩ := Int.eq_ofNat_of_zero_le (show 0 ≤ c by omega)
              exact new_l0 s most c n (by omega) (by omega) n k 0 (by omega) (by omega) (by omega)

theorem new_right (n c : Nat) (most : Int) (hn : 1 ≤ n) (hn2 : n ≤ 7) (hc : 1 ≤ c) (hc2 : c ≤ 256) (hm : 1 ≤ most) (hm2 : most ≤ 1099511627776) : rightL most (List.replicate n (List.replicate c 0)) := by
  have hcols : colsOf (List.replicate n (List.replicate c (0 : Int))) = c := by
    obtain ⟨m, rfl⟩ : ∃ m, n = m + 1 := ⟨n - 1, by omega⟩
    simp [colsOf, List.replicate_succ]
  refine ⟨hm, hm2, by rw [List.length_replicate]; exact hn, by rw [List.length_replicate]; exact hn2, fun r hr => ?_⟩
  rw [hcols]
  obtain ⟨_, rfl⟩ := List.mem_replicate.1 hr
  refine ⟨by rw [List.length_replicate]; exact hc, by rw [List.length_replicate]; exact hc2, List.length_replicate, fun x hx => ?_⟩
  obtain ⟨_, rfl⟩ := List.mem_replicate.1 hx
  omega

theorem min_l0 (l : List Int) (hl : l.length ≤ 256) : ∀ (d k i : Nat) (m : Int), l.length - i = d → i ≤ l.length → d < k →
    ∃ t, slices_Min_int_int.l0 k l m i = some t ∧ ∀ c, c ≤ t ↔ (c ≤ m ∧ ∀ j, i ≤ j → j < l.length → c ≤ l.getD j 0) := by
  intro d
  induction d with
  | zero =>
    intro k i m h0 hi hk
    obtain ⟨k, rfl⟩ : ∃ m, k = m + 1 := ⟨k - 1, by omega⟩
    simp only [slices_Min_int_int.l0]
    rw [if_neg (by omega)]
    exact ⟨m, rfl, fun c => ⟨fun h => ⟨h, fun j a b => by omega⟩, fun h => h.1⟩⟩
  | succ d ih =>
    intro k i m h0 hi hk
    obtain ⟨k, rfl⟩ : ∃ m, k = m + 1 := ⟨k - 1, by omega⟩
    have g : i < l.length := by omega
    have e : rd l (i : Int) = l.getD i 0 := rfl
    have hm := mn_le m (l.getD i 0)
    obtain ⟨t, ht, ht2⟩ := ih k (i + 1) (mn m (l.getD i 0)) (by omega) (by omega) (by omega)
    simp only [slices_Min_int_int.l0]
    rw [if_pos (by omega), if_pos (by omega), e, i64_in ((i : Int) + 1) (by omega) (by omega), show (i : Int) + 1 = ((i + 1 : Nat) : Int) by omega]
    refine ⟨t, ht, fun c => (ht2 c).trans ⟨fun h => ⟨by have := h.1; omega, fun j a b => ?_⟩, fun h => ⟨?_, fun j a b => h.2 j (by omega) b⟩⟩⟩
    · by_cases e' : j = i
      · subst e'; have := h.1; omega
      · exact h.2 j (by omega) b
    · have := h.1; have := h.2 i (Nat.le_refl _) g; omega

theorem min_spec (k : Nat) (l : List Int) (h1 : 1 ≤ l.length) (hl : l.length ≤ 256) (hk : 258 ≤ k) : ∃ t, slices_Min_int_int.f k l = some t ∧ ∀ c, c ≤ t ↔ ∀ j, j < l.length → c ≤ l.getD j 0 := by
  obtain ⟨t, ht, ht2⟩ := min_l0 l hl (l.length - 1) k 1 (l.getD 0 0) (by omega) (by omega) (by omega)
  unfold slices_Min_int_int.f
  rw [if_pos (by omega)]
  refine ⟨t, ht, fun c => (ht2 c).trans ⟨fun h j b => ?_, fun h => ⟨h 0 (by omega), fun j _ b => h j b⟩⟩⟩
  by_cases e : j = 0
  · subst e; exact h.1
  · exact h.2 j (by omega) b

theorem mx_ge (a b : Int) : a ≤ mx a b ∧ b ≤ mx a b ∧ (mx a b = a ∨ mx a b = b) := by
  unfold mx
  split <;> omega

theorem max_l0 (l : List Int) (hl : l.length ≤ 256) : ∀ (d k i : Nat) (m : Int), l.length - i = d → i ≤ l.length → d < k →
    ∃ t, slices_Max_int_int.l0 k l m i = some t ∧ ∀ c, t ≤ c ↔ (m ≤ c ∧ ∀ j, i ≤ j → j < l.length → l.getD j 0 ≤ c) := by
  intro d
  induction d with
  | zero =>
    intro k i m h0 hi hk
    obtain ⟨k, rfl⟩ : ∃ m, k = m + 1 := ⟨k - 1, by omega⟩
    simp only [slices_Max_int_int.l0]
    rw [if_neg (by omega)]
    exact ⟨m, rfl, fun c => ⟨fun h => ⟨h, fun j a b => by omega⟩, fun h => h.1⟩⟩
  | succ d ih =>
    intro k i m h0 hi hk
    obtain ⟨k, rfl⟩ : ∃ m, k = m + 1 := ⟨k - 1, by omega⟩
    have g : i < l.length := by omega
    have e : rd l (i : Int) = l.getD i 0 := rfl
    have hm := mx_ge m (l.getD i 0)
    obtain ⟨t, ht, ht2⟩ := ih k (i + 1) (mx m (l.getD i 0)) (by omega) (by omega) (by omega)
    simp only [slices_Max_int_int.l0]
    rw [if_pos (by omega), if_pos (by omega), e, i64_in ((i : Int) + 1) (by omega) (by omega), show (i : Int) + 1 = ((i + 1 : Nat) : Int) by omega]
    refine ⟨t, ht, fun c => (ht2 c).trans ⟨fun h => ⟨by have := h.1; omega, fun j a b => ?_⟩, fun h => ⟨?_, fun j a b => h.2 j (by omega) b⟩⟩⟩
    · by_cases e' : j = i
      · subst e'; have := h.1; omega
      · exact h.2 j (by omega) b
    · have := h.1; have := h.2 i (Nat.le_refl _) g; omega

theorem max_spec (k : Nat) (l : List Int) (h1 : 1 ≤ l.length) (hl : l.length ≤ 256) (hk : 258 ≤ k) : ∃ t, slices_Max_int_int.f k l = some t ∧ ∀ c, t ≤ c ↔ ∀ j, j < l.length → l.getD j 0 ≤ c := by
  obtain ⟨t, ht, ht2⟩ := max_l0 l hl (l.length - 1) k 1 (l.getD 0 0) (by omega) (by omega) (by omega)
  unfold slices_Max_int_int.f
  rw [if_pos (by omega)]
  refine ⟨t, ht, fun c => (ht2 c).trans ⟨fun h j b => ?_, fun h => ⟨h 0 (by omega), fun j _ b => h j b⟩⟩⟩
  by_cases e : j = 0
  · subst e; exact h.1
  · exact h.2 j (by omega) b

def rowB (most : Int) (rows : List (List Int)) (r : List Int) : Bool := decide (rowOk most (colsOf rows) r)

theorem right_l0 (s most : Int) (rows : List (List Int)) (h1 : 1 ≤ rows.length) (h7 : rows.length ≤ 7) : ∀ (d k i : Nat), rows.length - i = d → i ≤ rows.length → d + 260 ≤ k →
    least_Right.l0 k rows rows.length i s most rows = some ((rows.drop i).all (rowB most rows)) := by
  intro d
  induction d with
  | zero =>
    intro k i h0 hi hk
    obtain ⟨k, rfl⟩ : ∃ m, k = m + 1 := ⟨k - 1, by omega⟩
    simp only [least_Right.l0]
    rw [if_neg (by omega), List.drop_of_length_le (by omega)]
    rfl
  | succ d ih =>
    intro k i h0 hi hk
    obtain ⟨k, rfl⟩ : ∃ m, k = m + 1 := ⟨k - 1, by omega⟩
    have g : i < rows.length := by omega
    have hb := ih k (i + 1) (by omega) (by omega) (by omega)
    have e : rd_L1 rows (i : Int) = rows[i] := by
      show rows.getD i [] = rows[i]
      simp [List.getD_eq_getElem?_getD, g]
    have e0 : ((rd_L1 rows 0).length : Int) = (colsOf rows : Int) := rfl
    rw [List.drop_eq_getElem_cons g, List.all_cons]
    simp only [least_Right.l0]
    rw [if_pos (by omega), if_pos (by omega), if_pos (by omega), e, e0, i64_in ((i : Int) + 1) (by omega) (by omega), show (i : Int) + 1 = ((i + 1 : Nat) : Int) by omega]
    generalize rows[i] = r
    by_cases c1 : (r.length : Int) < 1
    · rw [if_pos c1, rowB, decide_eq_false (fun o => by have := o.1; omega)]; rfl
    · rw [if_neg c1]
      by_cases c2 : (r.length : Int) > 256
      · rw [if_pos c2, rowB, decide_eq_false (fun o => by have := o.2.1; omega)]; rfl
      · rw [if_neg c2, if_pos (by omega)]
        by_cases c3 : (r.length : Int) = (colsOf rows : Int)
        · rw [if_pos c3]
          obtain ⟨t, ht, ht2⟩ := min_spec k r (by omega) (by omega) (by omega)
          obtain ⟨u, hu, hu2⟩ := max_spec k r (by omega) (by omega) (by omega)
          rw [ht]; simp only [Option.bind_some]
          by_cases c4 : t < 0
          · rw [if_pos c4, rowB, decide_eq_false (fun o => by have := (ht2 0).2 (fun j hj => (o.2.2.2 _ (getD_num r j hj)).1); omega)]; rfl
          · rw [if_neg c4, hu]; simp only [Option.bind_some]
            by_cases c5 : u > most
            · rw [if_pos c5, rowB, decide_eq_false (fun o => by have := (hu2 most).2 (fun j hj => (o.2.2.2 _ (getD_num r j hj)).2); omega)]; rfl
            · rw [if_neg c5, rowB, decide_eq_true, hb]; rfl
              refine ⟨by omega, by omega, by omega, fun x hx => ?_⟩
              obtain ⟨n, hn, hn2⟩ := List.mem_iff_getElem.1 hx
              have A := (ht2 0).1 (by omega) n hn
              have B := (hu2 most).1 (by omega) n hn
              have E : r.getD n 0 = x := by simp [List.getD_eq_getElem?_getD, hn, hn2]
              omega
        · rw [if_neg c3, rowB, decide_eq_false (fun o => by have := o.2.2.1; omega)]; rfl

theorem all_rows (most : Int) (rows : List (List Int)) (h1 : 1 ≤ most) (h2 : most ≤ 1099511627776) (h3 : 1 ≤ rows.length) (h4 : rows.length ≤ 7) : rows.all (rowB most rows) = decide (rightL most rows) := by
  rw [Bool.eq_iff_iff, List.all_eq_true, decide_eq_true_iff]
  unfold rowB rightL
  exact ⟨fun h => ⟨h1, h2, h3, h4, fun r hr => of_decide_eq_true (h r hr)⟩, fun h r hr => decide_eq_true (h.2.2.2.2 r hr)⟩

theorem right_spec (k : Nat) (s most : Int) (rows : List (List Int)) (hk : 300 ≤ k) : least_Right.f k s most rows = some (decide (rightL most rows)) := by
  obtain ⟨k, rfl⟩ : ∃ m, k = m + 1 := ⟨k - 1, by omega⟩
  unfold least_Right.f
  by_cases c1 : most < 1
  · rw [if_pos c1, decide_eq_false (fun o => by have := o.1; omega)]; rfl
  · rw [if_neg c1]
    by_cases c2 : most > 1099511627776
    · rw [if_pos c2, decide_eq_false (fun o => by have := o.2.1; omega)]; rfl
    · rw [if_neg c2]
      by_cases c3 : (rows.length : Int) < 1
      · rw [if_pos c3, decide_eq_false (fun o => by have := o.2.2.1; omega)]; rfl
      · rw [if_neg c3]
        by_cases c4 : (rows.length : Int) > 7
        · rw [decide_eq_true c4, decide_eq_false (fun o => by have := o.2.2.2.1; omega)]; rfl
        · rw [decide_eq_false c4]
          simp only [least_Right.j0]
          rw [if_neg (by decide)]
          have h := right_l0 s most rows (by omega) (by omega) rows.length k 0 (by omega) (by omega) (by omega)
          rw [List.drop_zero, all_rows most rows (by omega) (by omega) (by omega) (by omega)] at h
          exact h

theorem clone_nums (l : List Int) (h : l.length < 17592186044416) : slices_Clone_int_int.f l = some l := by
  unfold slices_Clone_int_int.f
  simp only [Option.bind_some, List.length_nil, List.nil_append]
  rw [if_pos (by omega)]

theorem getD_set (l : List (List Int)) (i j : Nat) (v : List Int) (h : i < l.length) : (l.set i v).getD j [] = if i = j then v else l.getD j [] := by
  by_cases e : i = j
  · subst e
    rw [if_pos rfl, List.getD_eq_getElem?_getD, List.getElem?_set_self h]
    rfl
  · rw [if_neg e, List.getD_eq_getElem?_getD, List.getElem?_set_ne e, ← List.getD_eq_getElem?_getD]

theorem clone_l0 (s most : Int) (rows : List (List Int)) (hl : rows.length ≤ 7) (hr : ∀ r ∈ rows, r.length ≤ 256) : ∀ (d k i : Nat) (cur : List (List Int)), rows.length - i = d → i ≤ rows.length → cur.length = rows.length → (∀ j, j < i → cur.getD j [] = rows.getD j []) → d < k →
    least_clone.l0 k cur rows rows.length i s most rows = some (s, most, rows) := by
  intro d
  induction d with
  | zero =>
    intro k i cur h0 hi hc hj hk
    obtain ⟨k, rfl⟩ : ∃ m, k = m + 1 := ⟨k - 1, by omega⟩
    simp only [least_clone.l0]
    rw [if_neg (by omega), ext_rows cur rows hc (fun j h => hj j (by omega))]
  | succ d ih =>
    intro k i cur h0 hi hc hj hk
    obtain ⟨k, rfl⟩ : ∃ m, k = m + 1 := ⟨k - 1, by omega⟩
    have g : i < rows.length := by omega
    have e : rd_L1 rows (i : Int) = rows.getD i [] := rfl
    have hm := hr _ (getD_row rows i g)
    simp only [least_clone.l0]
    rw [if_pos (by omega), if_pos (by omega), if_pos (by omega), e, clone_nums _ (by omega)]
    simp only [Option.bind_some]
    rw [if_pos (by omega), i64_in ((i : Int) + 1) (by omega) (by omega), show (i : Int) + 1 = ((i + 1 : Nat) : Int) by omega]
    refine ih k (i + 1) _ (by omega) (by omega) (by rw [List.length_set]; exact hc) (fun j hj2 => ?_) (by omega)
    show (cur.set i _).getD j [] = _
    rw [getD_set cur i j _ (by omega)]
    by_cases e' : i = j
    · rw [if_pos e', e']
    · rw [if_neg e']; exact hj j (by omega)

theorem clone_spec (k : Nat) (s most : Int) (rows : List (List Int)) (hl : rows.length ≤ 7) (hr : ∀ r ∈ rows, r.length ≤ 256) (hk : 10 ≤ k) : least_clone.f k s most rows = some (s, most, rows) := by
  unfold least_clone.f
  rw [if_pos (by omega), if_pos (by omega)]
  exact clone_l0 s most rows hl hr rows.length k 0 _ (by omega) (by omega) (by simp) (fun j h => by omega) (by omega)

theorem of_spec (a : Int) (h0 : 0 ≤ a) (h1 : a < 18446744073709551616) : field_Of.f a = some (a % 2305843009213693951) := by
  unfold field_Of.f
  rw [and_p a h0 h1, u64_in _ (by omega) (by omega)]
  split
  · rw [u64_in _ (by omega) (by omega)]
    exact congrArg some (by omega)
  · exact congrArg some (by omega)

theorem add_spec (a b : Int) (h0 : 0 ≤ a) (h1 : a < 18446744073709551616) (g0 : 0 ≤ b) (g1 : b < 18446744073709551616) :
    field_Add.f a b = some ((a + b) % 2305843009213693951) := by
  unfold field_Add.f
  rw [of_spec a h0 h1, of_spec b g0 g1]
  simp only [Option.bind_some]
  rw [u64_in _ (by omega) (by omega), of_spec _ (by omega) (by omega)]
  simp only [Option.bind_some]
  exact congrArg some (by omega)

theorem mul64_spec (a b : Int) (h0 : 0 ≤ a) (h1 : a < 18446744073709551616) (g0 : 0 ≤ b) (g1 : b < 18446744073709551616) :
    bits_Mul64.f a b = some (a * b / 18446744073709551616, a * b % 18446744073709551616) := by
  unfold bits_Mul64.f
  have hh := halves a b
  obtain ⟨p0, p1⟩ := mul_bd (a := a / 4294967296) (b := b / 4294967296) (by omega) (by omega) (by omega) (by omega)
  obtain ⟨q0, q1⟩ := mul_bd (a := a / 4294967296) (b := b % 4294967296) (by omega) (by omega) (by omega) (by omega)
  obtain ⟨r0, r1⟩ := mul_bd (a := a % 4294967296) (b := b / 4294967296) (by omega) (by omega) (by omega) (by omega)
  obtain ⟨s0, s1⟩ := mul_bd (a := a % 4294967296) (b := b % 4294967296) (by omega) (by omega) (by omega) (by omega)
  rw [and_32 a h0 h1, and_32 b g0 g1]
  generalize a / 4294967296 * (b / 4294967296) = p at *
  generalize a / 4294967296 * (b % 4294967296) = q at *
  generalize a % 4294967296 * (b / 4294967296) = r at *
  generalize a % 4294967296 * (b % 4294967296) = s at *
  generalize a * b = m at *
  clear h0 h1 g0 g1
  rw [u64_in p (by omega) (by omega), u64_in q (by omega) (by omega), u64_in r (by omega) (by omega), u64_in s (by omega) (by omega)]
  rw [u64_in (q + s / 4294967296) (by omega) (by omega)]
  rw [and_32 _ (by omega) (by omega)]
  rw [u64_in (p + _) (by omega) (by omega), u64_in (_ + r) (by omega) (by omega), wrap_u64 m]
  rw [u64_in _ (by omega) (by omega)]
  exact congrArg some (Prod.ext (by show _ = _; omega) rfl)

theorem mul_spec (a b : Int) (h0 : 0 ≤ a) (h1 : a < 18446744073709551616) (g0 : 0 ≤ b) (g1 : b < 18446744073709551616) :
    field_Mul.f a b = some (a * b % 2305843009213693951) := by
  unfold field_Mul.f
  rw [of_spec a h0 h1, of_spec b g0 g1, Int.mul_emod]
  simp only [Option.bind_some]
  have x0 : 0 ≤ a % 2305843009213693951 := by omega
  have x1 : a % 2305843009213693951 ≤ 2305843009213693950 := by omega
  have y0 : 0 ≤ b % 2305843009213693951 := by omega
  have y1 : b % 2305843009213693951 ≤ 2305843009213693950 := by omega
  generalize a % 2305843009213693951 = x at *
  generalize b % 2305843009213693951 = y at *
  rw [mul64_spec x y x0 (by omega) y0 (by omega)]
  simp only [Option.bind_some]
  have hm : 0 ≤ x * y ∧ x * y ≤ 2305843009213693950 * 2305843009213693950 := ⟨Int.mul_nonneg x0 y0, Int.mul_le_mul x1 y1 y0 (by omega)⟩
  generalize x * y = m at *
  obtain ⟨m0, m1⟩ := hm
  rw [and_p _ (by omega) (by omega)]
  rw [u64_in (_ * 8) (by omega) (by omega)]
  rw [or_3 _ _ (by omega) (by omega) (by omega) (by omega) (by omega)]
  rw [u64_in _ (by omega) (by omega), of_spec _ (by omega) (by omega)]
  simp only [Option.bind_some]
  exact congrArg some (by omega)

theorem sq_half (x n : Int) (h0 : 0 ≤ n) : (x * x % 2305843009213693951) ^ (n / 2).toNat % 2305843009213693951 = x ^ (2 * (n.toNat / 2)) % 2305843009213693951 := by
  rw [pow_emod, Int.pow_mul, show (n / 2).toNat = n.toNat / 2 by omega, show x ^ 2 = x * x by grind]

theorem pow_l0 (d : Nat) : ∀ (k : Nat) (x n out : Int), 0 ≤ x → x < 2305843009213693951 → 0 ≤ n → n < 18446744073709551616 → n < 2 ^ d → 0 ≤ out → out < 2305843009213693951 → d < k →
    field_Pow.l0 k x n out = some (out * x ^ n.toNat % 2305843009213693951) := by
  induction d with
  | zero =>
    intro k x n out x0 x1 n0 n1 nd o0 o1 hk
    obtain ⟨k, rfl⟩ : ∃ m, k = m + 1 := ⟨k - 1, by omega⟩
    have hn : n = 0 := by simp at nd; omega
    simp only [field_Pow.l0]
    rw [if_neg (by omega), hn]
    exact congrArg some (by simp; omega)
  | succ d ih =>
    intro k x n out x0 x1 n0 n1 nd o0 o1 hk
    obtain ⟨k, rfl⟩ : ∃ m, k = m + 1 := ⟨k - 1, by omega⟩
    simp only [field_Pow.l0]
    by_cases hp : n > 0
    · rw [if_pos hp, and_1 n n0 n1, mul_spec x x x0 (by omega) x0 (by omega), mul_spec out x o0 (by omega) x0 (by omega)]
      simp only [Option.bind_some]
      have hd : n / 2 < 2 ^ d := by rw [Int.pow_succ] at nd; omega
      split
      · rw [ih k _ (n / 2) _ (by omega) (by omega) (by omega) (by omega) hd (by omega) (by omega) (by omega)]
        have e : n.toNat = 2 * (n.toNat / 2) + 1 := by omega
        refine congrArg some ?_
        rw [Int.mul_emod, sq_half x n n0, ← Int.mul_emod]
        rw [Int.mul_emod, Int.emod_emod, ← Int.mul_emod]
        conv => rhs; rw [e, Int.pow_succ, Int.mul_comm _ x, ← Int.mul_assoc]
      · rw [ih k _ (n / 2) _ (by omega) (by omega) (by omega) (by omega) hd o0 o1 (by omega)]
        have e : n.toNat = 2 * (n.toNat / 2) := by omega
        refine congrArg some ?_
        rw [Int.mul_emod, sq_half x n n0, ← Int.mul_emod]
        conv => rhs; rw [e]
    · have hn : n = 0 := by omega
      rw [if_neg hp, hn]
      exact congrArg some (by simp; omega)

theorem pow_spec (k : Nat) (a n : Int) (h0 : 0 ≤ a) (h1 : a < 18446744073709551616) (g0 : 0 ≤ n) (g1 : n < 18446744073709551616) (hk : 65 ≤ k) :
    field_Pow.f k a n = some (a ^ n.toNat % 2305843009213693951) := by
  unfold field_Pow.f
  rw [of_spec a h0 h1]
  simp only [Option.bind_some]
  rw [pow_l0 64 k _ n 1 (by omega) (by omega) g0 g1 (by omega) (by omega) (by omega) (by omega), Int.one_mul, pow_emod]

theorem sum_step (s : ByteArray) (a n i x j j' : Int) (k : Nat) (hj : j' = j + 1) (hs : s.size ≤ 140737488351232) (i0 : 0 ≤ i) (i1 : i ≤ s.size) (j0 : 0 ≤ j) (j1 : j < 4) (x0 : 0 ≤ x) (x1 : x < 72057594037927936) :
    hash_Sum.l1 (k + 1) s a n i x j = hash_Sum.l1 k s a n i (x * 256 + bt s (i + j)) j' := by
  subst hj
  have hb := bt_range s (i + j)
  conv => lhs; unfold hash_Sum.l1
  rw [if_pos j1, i64_in (i + j) (by omega) (by omega), i64_in (j + 1) (by omega) (by omega), u64_in (x * 256) (by omega) (by omega), u64_in (bt s (i + j)) (by omega) (by omega)]
  by_cases h : i + j < (s.size : Int)
  · rw [if_pos h, if_pos (by omega), or_8 (x * 256) _ (by omega) (by omega) (by omega) (by omega) (by omega)]
  · rw [if_neg h, bt_out s (i + j) (by omega), Int.add_zero]

theorem sum_word (s : ByteArray) (a n i : Int) (k : Nat) (hs : s.size ≤ 140737488351232) (i0 : 0 ≤ i) (i1 : i ≤ s.size) :
    hash_Sum.l1 (k + 4) s a n i 0 0 = hash_Sum.l1 k s a n i (wordAt s i) 4 := by
  have h0 := bt_range s i
  have h1 := bt_range s (i + 1)
  have h2 := bt_range s (i + 2)
  rw [sum_step s a n i 0 0 1 (k + 3) (by omega) hs i0 i1 (by omega) (by omega) (by omega) (by omega), Int.add_zero, Int.zero_mul, Int.zero_add,
    sum_step s a n i _ 1 2 (k + 2) (by omega) hs i0 i1 (by omega) (by omega) (by omega) (by omega),
    sum_step s a n i _ 2 3 (k + 1) (by omega) hs i0 i1 (by omega) (by omega) (by omega) (by omega),
    sum_step s a n i _ 3 4 k (by omega) hs i0 i1 (by omega) (by omega) (by omega) (by omega)]
  rfl

theorem sum_l0 (s : ByteArray) (a : Int) (hs : s.size ≤ 140737488351232) (a0 : 0 ≤ a) (a1 : a < 18446744073709551616) : ∀ (m k : Nat) (n i : Int), 0 ≤ i → (s.size : Int) ≤ i + 4 * m → i < (s.size : Int) + 4 → (0 < m → i + 4 * m < (s.size : Int) + 4) →
    0 ≤ n → n < 18446744073709551616 → 6 * m + 66 ≤ k →
    hash_Sum.l0 k s a n i = some ((roll s a m n i * a) ^ 17 % 2305843009213693951) := by
  intro m
  induction m with
  | zero =>
    intro k n i i0 i1 i2 i3 n0 n1 hk
    obtain ⟨k, rfl⟩ : ∃ m, k = m + 1 := ⟨k - 1, by omega⟩
    unfold hash_Sum.l0
    rw [if_neg (by omega), mul_spec n a n0 n1 a0 a1]
    simp only [Option.bind_some]
    rw [pow_spec k _ 17 (by omega) (by omega) (by omega) (by omega) (by omega), show (17 : Int).toNat = 17 from rfl, pow_emod]
    rfl
  | succ m ih =>
    intro k n i i0 i1 i2 i3 n0 n1 hk
    obtain ⟨k, rfl⟩ : ∃ m, k = m + 1 := ⟨k - 1, by omega⟩
    obtain ⟨k, rfl⟩ : ∃ m, k = m + 4 := ⟨k - 4, by omega⟩
    have hw := wordAt_range s i
    have i4 : i < (s.size : Int) := by omega
    unfold hash_Sum.l0
    rw [if_pos i4, sum_word s a n i k hs i0 (by omega)]
    obtain ⟨k, rfl⟩ : ∃ m, k = m + 1 := ⟨k - 1, by omega⟩
    unfold hash_Sum.l1
    rw [if_neg (by omega), mul_spec n a n0 n1 a0 a1, u64_in _ (by omega) (by omega)]
    simp only [Option.bind_some]
    rw [add_spec _ _ (by omega) (by omega) (by omega) (by omega), i64_in (i + 4) (by omega) (by omega)]
    simp only [Option.bind_some]
    rw [ih k _ (i + 4) (by omega) (by omega) (by omega) (by omega) (by omega) (by omega) (by omega)]
    simp only [roll]
    have e : (n * a % 2305843009213693951 + (wordAt s i + 1)) % 2305843009213693951 = (n * a + wordAt s i + 1) % 2305843009213693951 := by omega
    rw [e]

theorem sum_spec (k : Nat) (seed : Int) (s : ByteArray) (hs : s.size ≤ 140737488351232) (h0 : 0 ≤ seed) (h1 : seed < 18446744073709551616) (hk : 6 * words s + 66 ≤ k) :
    hash_Sum.f k seed s = some (hsum seed s) := by
  unfold hash_Sum.f
  rw [add_spec seed 2 h0 h1 (by omega) (by omega), u64_in _ (by omega) (by omega)]
  simp only [Option.bind_some]
  have hw : words s = (s.size + 3) / 4 := rfl
  exact sum_l0 s _ hs (by omega) (by omega) (words s) k s.size 0 (by omega) (by omega) (by omega) (by omega) (by omega) (by omega) hk

theorem cell_spec (k : Nat) (seed : Int) (key : ByteArray) (n : Int) (hs : key.size ≤ 140737488351232) (h0 : 0 ≤ seed) (h1 : seed < 18446744073709551616) (hn : n < 9223372036854775808) (hk : 6 * words key + 66 ≤ k) :
    hash_Cell.f k seed key n = some (hcell seed key n) := by
  unfold hash_Cell.f hcell
  by_cases a : n < 1
  · rw [if_pos a, if_pos a]
  · rw [if_neg a, if_neg a, sum_spec k seed key hs h0 h1 hk]
    simp only [Option.bind_some]
    have r := hsum_range seed key
    have r1 := Int.emod_nonneg (hsum seed key) (b := n) (by omega)
    have r2 := Int.emod_lt_of_pos (hsum seed key) (b := n) (by omega)
    rw [u64_in n (by omega) (by omega), if_neg (by omega), Int.tmod_eq_emod_of_nonneg r.1, i64_in _ (by omega) (by omega)]

theorem row_spec (seed i : Int) (h0 : 0 ≤ seed) (h1 : seed < 18446744073709551616) (hi : i < 9223372036854775808) : hash_Row.f seed i = some (hrow seed i) := by
  unfold hash_Row.f hrow hmid
  have e : mx i 0 = if i < 0 then 0 else i := rfl
  rw [e, add_spec seed 3 h0 h1 (by omega) (by omega)]
  generalize hj : (if i < 0 then (0 : Int) else i) = j
  have hj0 : 0 ≤ j ∧ j < 9223372036854775808 := by rw [← hj]; split <;> omega
  simp only [Option.bind_some]
  rw [u64_in j (by omega) (by omega), add_spec j 2 (by omega) (by omega) (by omega) (by omega)]
  simp only [Option.bind_some]
  rw [mul_spec _ _ (by omega) (by omega) (by omega) (by omega)]
  simp only [Option.bind_some]
  rw [add_spec _ 5 (by omega) (by omega) (by omega) (by omega)]
  simp only [Option.bind_some]
  rw [mul_spec _ _ (by omega) (by omega) (by omega) (by omega)]
  rfl

theorem addf_l0 (s most n : Int) (key : ByteArray) (rows : List (List Int)) (hs0 : 0 ≤ s) (hs1 : s < 18446744073709551616) (h : rightL most rows) (hn : 0 ≤ n) (hn2 : n ≤ 1099511627776) (hkey : key.size ≤ 1000) : ∀ (d k i : Nat) (cur : List (List Int)), rows.length - i = d → i ≤ rows.length → cur.length = rows.length → (∀ j, j < i → cur.getD j [] = freshRow s most key n j (rows.getD j [])) → (∀ j, i ≤ j → cur.getD j [] = rows.getD j []) → d + 2000 ≤ k →
    least_Add.l0 k key n cur rows.length i s most = some (s, most, addRows s most key n rows, 0) := by
  have hw := words_le key 250 (by omega)
  intro d
  induction d with
  | zero =>
    intro k i cur h0 hi hc hj hj2 hk
    obtain ⟨k, rfl⟩ : ∃ m, k = m + 1 := ⟨k - 1, by omega⟩
    simp only [least_Add.l0]
    rw [if_neg (by omega), ext_rows cur (addRows s most key n rows) (by rw [addRows_length]; exact hc) (fun j h => by rw [hj j (by omega), addRows_get s most key n rows j (by omega)])]
  | succ d ih =>
    intro k i cur h0 hi hc hj hj2 hk
    obtain ⟨k, rfl⟩ : ∃ m, k = m + 1 := ⟨k - 1, by omega⟩
    have g : i < rows.length := by omega
    have h7 := h.2.2.2.1
    have e : rd_L1 cur (i : Int) = rows.getD i [] := hj2 i (Nat.le_refl _)
    have hr := hrow_range s i
    have ho := h.2.2.2.2 _ (getD_row rows i g)
    have hce := hcell_range (hrow s i) key (rows.getD i []).length (by have := ho.1; omega)
    have hlen := ho.2.1
    simp only [least_Add.l0]
    rw [if_pos (by omega), if_pos (by omega), row_spec s i hs0 hs1 (by omega)]
    simp only [Option.bind_some]
    rw [e, cell_spec k _ key _ (by omega) hr.1 (by omega) (by omega) (by omega)]
    simp only [Option.bind_some]
    rw [if_pos hce.1, if_pos hce.2]
    have hv : rd (rows.getD i []) (hcell (hrow s i) key (rows.getD i []).length) = (rows.getD i []).getD (cellAt s key i (rows.getD i [])).toNat 0 := rfl
    have hvr := ho.2.2.2 _ (getD_num (rows.getD i []) (cellAt s key i (rows.getD i [])).toNat (by unfold cellAt; omega))
    have hm := h.2.1
    rw [hv, i64_in _ (by omega) (by omega), i64_in ((i : Int) + 1) (by omega) (by omega), show (i : Int) + 1 = ((i + 1 : Nat) : Int) by omega]
    refine ih k (i + 1) _ (by omega) (by omega) (by rw [List.length_set]; exact hc) (fun j hj3 => ?_) (fun j hj3 => ?_) (by omega)
    · show (cur.set i (freshRow s most key n i (rows.getD i []))).getD j [] = _
      rw [getD_set cur i j _ (by omega)]
      by_cases e' : i = j
      · rw [if_pos e', e']
      · rw [if_neg e']; exact hj j (by omega)
    · show (cur.set i _).getD j [] = _
      rw [getD_set cur i j _ (by omega), if_neg (by omega)]
      exact hj2 j (by omega)

theorem addf_spec (k : Nat) (s most n : Int) (key : ByteArray) (rows : List (List Int)) (hs0 : 0 ≤ s) (hs1 : s < 18446744073709551616) (hkey : key.size ≤ 1000) (hk : 2100 ≤ k) :
    least_Add.f k s most rows key n = some (if rightL most rows ∧ 0 ≤ n ∧ n ≤ 1099511627776 then (s, most, addRows s most key n rows, 0) else (0, 0, [], 1)) := by
  obtain ⟨k, rfl⟩ : ∃ m, k = m + 1 := ⟨k - 1, by omega⟩
  unfold least_Add.f
  rw [right_spec _ s most rows (by omega)]
  simp only [Option.bind_some]
  by_cases r : rightL most rows
  · rw [if_pos (decide_eq_true r)]
    by_cases c1 : n < 0
    · rw [if_pos c1, if_neg (fun o => by have := o.2.1; omega)]; rfl
    · rw [if_neg c1]
      by_cases c2 : n > 1099511627776
      · rw [decide_eq_true c2, if_neg (fun o => by have := o.2.2; omega)]; rfl
      · rw [decide_eq_false c2, if_pos ⟨r, by omega, by omega⟩]
        simp only [least_Add.j0]
        rw [if_neg (by decide), clone_spec k s most rows r.2.2.2.1 (fun x hx => (r.2.2.2.2 x hx).2.1) (by omega)]
        simp only [Option.bind_some]
        have h7 := r.2.2.2.1
        exact addf_l0 s most n key rows hs0 hs1 r (by omega) (by omega) hkey rows.length k 0 rows (by omega) (by omega) rfl (fun j h => by omega) (fun j h => rfl) (by omega)
  · rw [if_neg (by rw [decide_eq_false r]; decide), if_neg (fun o => r o.1)]; rfl

theorem getf_l0 (s most : Int) (key : ByteArray) (rows : List (List Int)) (hs0 : 0 ≤ s) (hs1 : s < 18446744073709551616) (h : rightL most rows) (hkey : key.size ≤ 1000) : ∀ (d k i : Nat) (m : Int), rows.length - i = d → i ≤ rows.length → d + 2000 ≤ k →
    least_Get.l0 k key m rows rows.length i s most rows = some (downTo (valAt s key rows) d i m, decide (downTo (valAt s key rows) d i m < most)) := by
  have hw := words_le key 250 (by omega)
  intro d
  induction d with
  | zero =>
    intro k i m h0 hi hk
    obtain ⟨k, rfl⟩ : ∃ m, k = m + 1 := ⟨k - 1, by omega⟩
    simp only [least_Get.l0]
    rw [if_neg (by omega)]
    rfl
  | succ d ih =>
    intro k i m h0 hi hk
    obtain ⟨k, rfl⟩ : ∃ m, k = m + 1 := ⟨k - 1, by omega⟩
    have g : i < rows.length := by omega
    have h7 := h.2.2.2.1
    have e : rd_L1 rows (i : Int) = rows.getD i [] := rfl
    have hr := hrow_range s i
    have ho := h.2.2.2.2 _ (getD_row rows i g)
    have hce := hcell_range (hrow s i) key (rows.getD i []).length (by have := ho.1; omega)
    have hlen := ho.2.1
    simp only [least_Get.l0]
    rw [if_pos (by omega), if_pos (by omega), if_pos (by omega), row_spec s i hs0 hs1 (by omega)]
    simp only [Option.bind_some]
    rw [e, cell_spec k _ key _ (by omega) hr.1 (by omega) (by omega) (by omega)]
    simp only [Option.bind_some]
    rw [if_pos hce.1, if_pos hce.2, i64_in ((i : Int) + 1) (by omega) (by omega), show (i : Int) + 1 = ((i + 1 : Nat) : Int) by omega]
    exact ih k (i + 1) _ (by omega) (by omega) (by omega)

theorem getf_spec (k : Nat) (s most : Int) (key : ByteArray) (rows : List (List Int)) (hs0 : 0 ≤ s) (hs1 : s < 18446744073709551616) (hkey : key.size ≤ 1000) (hk : 2100 ≤ k) :
    least_Get.f k s most rows key = some (if rightL most rows then (getL s most key rows, decide (getL s most key rows < most)) else (0, false)) := by
  unfold least_Get.f
  rw [right_spec _ s most rows (by omega)]
  simp only [Option.bind_some]
  by_cases r : rightL most rows
  · rw [if_pos (decide_eq_true r), if_pos r]
    have h7 := r.2.2.2.1
    exact getf_l0 s most key rows hs0 hs1 r hkey rows.length k 0 most (by omega) (by omega) (by omega)
  · rw [if_neg (by rw [decide_eq_false r]; decide), if_neg r]

theorem awake_spec (k : Nat) (hk : 400 ≤ k) : rillmeterlaw11_awake.f k = some true :=
  at_rounds (g := fun k => rillmeterlaw11_awake.f k) rillmeterlaw11_awake.mono hk (by decide +kernel)

def fewB (l : List S48) : Bool := l.all (fun y => decide (y.f0.size ≤ 100 ∧ 0 ≤ y.f1 ∧ y.f1 ≤ 1073741824)) && decide (l.length ≤ 40)

theorem few_l0 (l : List S48) (hl : l.length ≤ 9223372036854775807) : ∀ (d k i : Nat), l.length - i = d → i ≤ l.length → d < k →
    rillmeterlaw11_few.l0 k l l.length i = some ((l.drop i).all (fun y => decide (y.f0.size ≤ 100 ∧ 0 ≤ y.f1 ∧ y.f1 ≤ 1073741824)) && decide (l.length ≤ 40)) := by
  intro d
  induction d with
  | zero =>
    intro k i h0 hi hk
    obtain ⟨k, rfl⟩ : ∃ m, k = m + 1 := ⟨k - 1, by omega⟩
    simp only [rillmeterlaw11_few.l0]
    rw [if_neg (by omega), List.drop_of_length_le (by omega), List.all_nil, Bool.true_and]
    exact congrArg some (decide_eq_decide.2 (by omega))
  | succ d ih =>
    intro k i h0 hi hk
    obtain ⟨k, rfl⟩ : ∃ m, k = m + 1 := ⟨k - 1, by omega⟩
    have g : i < l.length := by omega
    have e : rd_T48 l (i : Int) = l[i] := by
      simp [rd_T48, List.getD_eq_getElem?_getD, g]
    rw [List.drop_eq_getElem_cons g, List.all_cons]
    simp only [rillmeterlaw11_few.l0]
    rw [if_pos (by omega), if_pos (by omega), if_pos (by omega), e, i64_in ((i : Int) + 1) (by omega) (by omega), show (i : Int) + 1 = ((i + 1 : Nat) : Int) by omega]
    by_cases c1 : (l[i].f0.size : Int) > 100
    · rw [if_pos c1, decide_eq_false (fun o => by have := o.1; omega)]; rfl
    · rw [if_neg c1]
      by_cases c2 : l[i].f1 < 0
      · rw [if_pos c2, decide_eq_false (fun o => by have := o.2.1; omega)]; rfl
      · rw [if_neg c2]
        by_cases c3 : l[i].f1 > 1073741824
        · rw [if_pos c3, decide_eq_false (fun o => by have := o.2.2; omega)]; rfl
        · rw [if_neg c3, decide_eq_true ⟨by omega, by omega, by omega⟩, Bool.true_and]
          exact ih k (i + 1) (by omega) (by omega) (by omega)

theorem few_spec (k : Nat) (l : List S48) (hl : l.length ≤ 9223372036854775807) (hk : l.length < k) : rillmeterlaw11_few.f k l = some (fewB l) :=
  few_l0 l hl l.length k 0 (by omega) (by omega) hk

theorem fewB_get (l : List S48) (h : fewB l = true) : l.length ≤ 40 ∧ ∀ (i : Nat) (g : i < l.length), l[i].f0.size ≤ 100 ∧ 0 ≤ l[i].f1 ∧ l[i].f1 ≤ 1073741824 := by
  unfold fewB at h
  rw [Bool.and_eq_true, List.all_eq_true] at h
  exact ⟨of_decide_eq_true h.2, fun i g => of_decide_eq_true (h.1 _ (List.getElem_mem g))⟩

def okL (l : List S48) : Prop := ∀ y ∈ l, y.f0.size ≤ 100 ∧ 0 ≤ y.f1 ∧ y.f1 ≤ 1073741824

theorem okL_few (l : List S48) (h : fewB l = true) : okL l := by
  intro y hy
  obtain ⟨i, g, e⟩ := List.mem_iff_getElem.1 hy
  rw [← e]
  exact (fewB_get l h).2 i g

def addsL (s most : Int) : List S48 → List (List Int) → List (List Int)
  | [], r => r
  | y :: t, r => addsL s most t (addRows s most y.f0 y.f1 r)

theorem addsL_right (s most : Int) : ∀ (l : List S48) (rows : List (List Int)), okL l → rightL most rows → rightL most (addsL s most l rows) ∧ (addsL s most l rows).length = rows.length := by
  intro l
  induction l with
  | nil => intro rows _ r; exact ⟨r, rfl⟩
  | cons y t ih =>
    intro rows h r
    have hy := h y (List.mem_cons_self ..)
    obtain ⟨a, b⟩ := ih (addRows s most y.f0 y.f1 rows) (fun z hz => h z (List.mem_cons_of_mem _ hz)) (addRows_right s most y.f0 y.f1 rows r hy.2.1)
    exact ⟨a, by rw [addRows_length] at b; exact b⟩

theorem adds_l0 (s most : Int) (l : List S48) (hl40 : l.length ≤ 40) (h : okL l) (hs0 : 0 ≤ s) (hs1 : s < 18446744073709551616) : ∀ (d k i : Nat) (rows : List (List Int)), l.length - i = d → i ≤ l.length → rightL most rows → d + 2200 ≤ k →
    rillmeterlaw11_adds.l0 k l l.length i s most rows = some (s, most, addsL s most (l.drop i) rows) := by
  intro d
  induction d with
  | zero =>
    intro k i rows h0 hi r hk
    obtain ⟨k, rfl⟩ : ∃ m, k = m + 1 := ⟨k - 1, by omega⟩
    simp only [rillmeterlaw11_adds.l0]
    rw [if_neg (by omega), List.drop_of_length_le (by omega)]
    rfl
  | succ d ih =>
    intro k i rows h0 hi r hk
    obtain ⟨k, rfl⟩ : ∃ m, k = m + 1 := ⟨k - 1, by omega⟩
    have g : i < l.length := by omega
    have e : rd_T48 l (i : Int) = l[i] := by
      simp [rd_T48, List.getD_eq_getElem?_getD, g]
    obtain ⟨q1, q2, q3⟩ := h _ (List.getElem_mem g)
    have r2 := addRows_right s most l[i].f0 l[i].f1 rows r q2
    have hnext := ih k (i + 1) _ (by omega) (by omega) r2 (by omega)
    rw [List.drop_eq_getElem_cons g]
    simp only [rillmeterlaw11_adds.l0]
    rw [if_pos (by omega), if_pos (by omega), if_pos (by omega), e, addf_spec k s most _ _ rows hs0 hs1 (by omega) (by omega), if_pos ⟨r, by omega, by omega⟩]
    simp only [Option.bind_some]
    rw [i64_in ((i : Int) + 1) (by omega) (by omega), show (i : Int) + 1 = ((i + 1 : Nat) : Int) by omega]
    exact hnext

theorem adds_spec (k : Nat) (s most : Int) (l : List S48) (rows : List (List Int)) (hl40 : l.length ≤ 40) (h : okL l) (hs0 : 0 ≤ s) (hs1 : s < 18446744073709551616) (r : rightL most rows) (hk : 2300 ≤ k) : rillmeterlaw11_adds.f k s most rows l = some (s, most, addsL s most l rows) := by
  have hx := adds_l0 s most l hl40 h hs0 hs1 l.length k 0 rows (by omega) (by omega) r (by omega)
  rw [List.drop_zero] at hx
  exact hx

theorem rmul_l0 (d : Nat) : ∀ (k : Nat) (x n out : Int), 0 ≤ x → x < 2305843009213693951 → 0 ≤ n → n < 2305843009213693951 → n < 2 ^ d → 0 ≤ out → out < 2305843009213693951 → d < k →
    rillmeterref01_Mul.l0 k x n out = some ((out + x * n) % 2305843009213693951) := by
  induction d with
  | zero =>
    intro k x n out x0 x1 n0 n1 nd o0 o1 hk
    obtain ⟨k, rfl⟩ : ∃ m, k = m + 1 := ⟨k - 1, by omega⟩
    have hn : n = 0 := by simp at nd; omega
    simp only [rillmeterref01_Mul.l0]
    rw [if_neg (by omega), hn]
    exact congrArg some (by simp; omega)
  | succ d ih =>
    intro k x n out x0 x1 n0 n1 nd o0 o1 hk
    obtain ⟨k, rfl⟩ : ∃ m, k = m + 1 := ⟨k - 1, by omega⟩
    simp only [rillmeterref01_Mul.l0]
    by_cases hp : n > 0
    · have hd : n / 2 < 2 ^ d := by rw [Int.pow_succ] at nd; omega
      rw [if_pos hp, Int.tmod_eq_emod_of_nonneg n0, Int.tdiv_eq_ediv_of_nonneg n0, u64_in (x + x) (by omega) (by omega), u64_in (n / 2) (by omega) (by omega),
        u64_in (out + x) (by omega) (by omega), Int.tmod_eq_emod_of_nonneg (by omega), Int.tmod_eq_emod_of_nonneg (by omega)]
      split
      · rw [ih k _ (n / 2) _ (by omega) (by omega) (by omega) (by omega) hd (by omega) (by omega) (by omega)]
        have e : n = 2 * (n / 2) + 1 := by omega
        refine congrArg some ?_
        generalize n / 2 = m at *
        subst e
        rw [Int.add_emod, Int.emod_emod, Int.mul_emod, Int.emod_emod, ← Int.mul_emod, ← Int.add_emod]
        exact congrArg (· % _) (by grind)
      · rw [ih k _ (n / 2) _ (by omega) (by omega) (by omega) (by omega) hd o0 o1 (by omega)]
        have e : n = 2 * (n / 2) := by omega
        refine congrArg some ?_
        generalize n / 2 = m at *
        subst e
        rw [Int.add_emod, Int.mul_emod, Int.emod_emod, ← Int.mul_emod, ← Int.add_emod]
        exact congrArg (· % _) (by grind)
    · have hn : n = 0 := by omega
      rw [if_neg hp, hn]
      exact congrArg some (by simp; omega)

theorem rmul_spec (k : Nat) (a b : Int) (h0 : 0 ≤ a) (g0 : 0 ≤ b) (hk : 65 ≤ k) :
    rillmeterref01_Mul.f k a b = some (a * b % 2305843009213693951) := by
  unfold rillmeterref01_Mul.f
  rw [Int.tmod_eq_emod_of_nonneg h0, Int.tmod_eq_emod_of_nonneg g0]
  rw [rmul_l0 61 k _ _ 0 (by omega) (by omega) (by omega) (by omega) (by omega) (by omega) (by omega) (by omega), Int.zero_add, ← Int.mul_emod]

theorem radd_spec (a b : Int) (h0 : 0 ≤ a) (g0 : 0 ≤ b) : rillmeterref01_Add.f a b = some ((a + b) % 2305843009213693951) := by
  unfold rillmeterref01_Add.f
  rw [Int.tmod_eq_emod_of_nonneg h0, Int.tmod_eq_emod_of_nonneg g0, u64_in _ (by omega) (by omega), Int.tmod_eq_emod_of_nonneg (by omega)]
  exact congrArg some (by omega)

theorem rpow_rec (d : Nat) : ∀ (k : Nat) (a n : Int), 0 ≤ a → a < 18446744073709551616 → 0 ≤ n → n < 18446744073709551616 → n < 2 ^ d → 66 + d ≤ k →
    rillmeterref01_Pow.f k a n = some (a ^ n.toNat % 2305843009213693951) := by
  induction d with
  | zero =>
    intro k a n x0 x1 n0 n1 nd hk
    obtain ⟨k, rfl⟩ : ∃ m, k = m + 1 := ⟨k - 1, by omega⟩
    have hn : n = 0 := by simp at nd; omega
    simp only [rillmeterref01_Pow.f]
    rw [if_pos hn, hn]
    exact congrArg some (by simp)
  | succ d ih =>
    intro k a n x0 x1 n0 n1 nd hk
    obtain ⟨k, rfl⟩ : ∃ m, k = m + 1 := ⟨k - 1, by omega⟩
    simp only [rillmeterref01_Pow.f]
    by_cases hp : n = 0
    · rw [if_pos hp, hp]
      exact congrArg some (by simp)
    · have hd : n / 2 < 2 ^ d := by rw [Int.pow_succ] at nd; omega
      rw [if_neg hp, Int.tmod_eq_emod_of_nonneg n0, Int.tdiv_eq_ediv_of_nonneg n0, u64_in (n / 2) (by omega) (by omega)]
      rw [ih k a (n / 2) x0 x1 (by omega) (by omega) hd (by omega)]
      simp only [Option.bind_some]
      rw [rmul_spec k _ _ (by omega) (by omega) (by omega)]
      simp only [Option.bind_some]
      have e2 : a ^ (n / 2).toNat % 2305843009213693951 * (a ^ (n / 2).toNat % 2305843009213693951) % 2305843009213693951 = a ^ (2 * (n.toNat / 2)) % 2305843009213693951 := by
        rw [← Int.mul_emod, ← Int.pow_add, show (n / 2).toNat + (n / 2).toNat = 2 * (n.toNat / 2) by omega]
      rw [e2]
      split
      · rw [rmul_spec k _ _ (by omega) x0 (by omega)]
        have e : n.toNat = 2 * (n.toNat / 2) + 1 := by omega
        refine congrArg some ?_
        rw [Int.mul_emod, Int.emod_emod, ← Int.mul_emod]
        conv => rhs; rw [e, Int.pow_succ]
      · have e : n.toNat = 2 * (n.toNat / 2) := by omega
        refine congrArg some ?_
        conv => rhs; rw [e]

theorem rpow_spec (k : Nat) (a n : Int) (h0 : 0 ≤ a) (h1 : a < 18446744073709551616) (g0 : 0 ≤ n) (g1 : n < 18446744073709551616) (hk : 130 ≤ k) :
    rillmeterref01_Pow.f k a n = some (a ^ n.toNat % 2305843009213693951) :=
  rpow_rec 64 k a n h0 h1 g0 g1 (by omega) (by omega)

theorem rof_spec (a : Int) (h0 : 0 ≤ a) : rillmeterref01_Of.f a = some (a % 2305843009213693951) := by
  unfold rillmeterref01_Of.f
  rw [Int.tmod_eq_emod_of_nonneg h0]

theorem strOf_nought : strOfNums [0] = (⟨#[0]⟩ : ByteArray) := by rfl

theorem rwords_l1 (s : ByteArray) (hs : s.size ≤ 1000100) (h4 : s.size % 4 = 0) : ∀ (m k j : Nat) (l : List Int), j + m = words s → l.length = j → m < k →
    rillmeterref02_words.l1 k s l (4 * j) = some (l ++ (List.range' j m).map (fun (i : Nat) => wordAt s (4 * (i : Int)))) := by
  intro m
  induction m with
  | zero =>
    intro k j l h0 hl hk
    obtain ⟨k, rfl⟩ : ∃ m, k = m + 1 := ⟨k - 1, by omega⟩
    unfold words at h0
    simp only [rillmeterref02_words.l1]
    rw [if_neg (by omega)]
    simp
  | succ m ih =>
    intro k j l h0 hl hk
    obtain ⟨k, rfl⟩ : ∃ m, k = m + 1 := ⟨k - 1, by omega⟩
    have hw : words s = (s.size + 3) / 4 := rfl
    have b0 := bt_range s (4 * j)
    have b1 := bt_range s (4 * j + 1)
    have b2 := bt_range s (4 * j + 2)
    have b3 := bt_range s (4 * j + 3)
    simp only [rillmeterref02_words.l1]
    rw [i64_in (4 * (j : Int) + 1) (by omega) (by omega), i64_in (4 * (j : Int) + 2) (by omega) (by omega), i64_in (4 * (j : Int) + 3) (by omega) (by omega), i64_in (4 * (j : Int) + 4) (by omega) (by omega)]
    rw [if_pos (by omega), if_pos (by omega), if_pos (by omega), if_pos (by omega), if_pos (by omega), if_pos (by omega), if_pos (by omega), if_pos (by omega), if_pos (by omega)]
    rw [u64_in (bt s (4 * j)) (by omega) (by omega), u64_in (bt s (4 * j + 1)) (by omega) (by omega), u64_in (bt s (4 * j + 2)) (by omega) (by omega), u64_in (bt s (4 * j + 3)) (by omega) (by omega),
      u64_in (bt s (4 * j) * 16777216) (by omega) (by omega), u64_in (bt s (4 * j + 1) * 65536) (by omega) (by omega), u64_in (bt s (4 * j + 2) * 256) (by omega) (by omega),
      u64_in (bt s (4 * j) * 16777216 + bt s (4 * j + 1) * 65536) (by omega) (by omega), u64_in (_ + bt s (4 * j + 2) * 256) (by omega) (by omega), u64_in (_ + bt s (4 * j + 3)) (by omega) (by omega)]
    rw [show 4 * (j : Int) + 4 = 4 * ((j + 1 : Nat) : Int) by omega, ih k (j + 1) _ (by omega) (by simp [hl]) (by omega)]
    rw [List.range'_succ, List.map_cons, List.append_assoc]
    have e : bt s (4 * j) * 16777216 + bt s (4 * j + 1) * 65536 + bt s (4 * j + 2) * 256 + bt s (4 * j + 3) = wordAt s (4 * j) := by unfold wordAt; omega
    rw [e]
    rfl

theorem words_push (s : ByteArray) (h : s.size % 4 ≠ 0) : words (s ++ (⟨#[0]⟩ : ByteArray)) = words s := by
  have hsz : (s ++ (⟨#[0]⟩ : ByteArray)).size = s.size + 1 := by rw [ByteArray.size_append]; rfl
  unfold words
  omega

theorem rwords_l0 : ∀ (d k : Nat) (s : ByteArray), s.size + d ≤ 1000050 → (4 - s.size % 4) % 4 = d → d ≤ 3 → words s + d + 2 ≤ k →
    rillmeterref02_words.l0 k s = some ((List.range' 0 (words s)).map (fun (i : Nat) => wordAt s (4 * (i : Int)))) := by
  intro d
  induction d with
  | zero =>
    intro k s hs hd _ hk
    obtain ⟨k, rfl⟩ : ∃ m, k = m + 1 := ⟨k - 1, by omega⟩
    simp only [rillmeterref02_words.l0]
    rw [if_pos (by omega)]
    have h := rwords_l1 s (by omega) (by omega) (words s) k 0 [] (by omega) rfl (by omega)
    rw [show (4 * ((0 : Nat) : Int)) = 0 from rfl] at h
    rw [h]; simp
  | succ d ih =>
    intro k s hs hd h3 hk
    obtain ⟨k, rfl⟩ : ∃ m, k = m + 1 := ⟨k - 1, by omega⟩
    have hsz : (s ++ (⟨#[0]⟩ : ByteArray)).size = s.size + 1 := by rw [ByteArray.size_append]; rfl
    have h1 : (⟨#[0]⟩ : ByteArray).size = 1 := rfl
    simp only [rillmeterref02_words.l0]
    rw [if_neg (by omega)]
    simp only [Option.bind_some, strOf_nought]
    rw [h1, if_pos (by omega)]
    by_cases hd0 : d = 0
    · subst hd0
      rw [ih k (s ++ (⟨#[0]⟩ : ByteArray)) (by omega) (by omega) (by omega) (by rw [words_push s (by omega)]; omega), words_push s (by omega)]
      simp only [wordAt_push]
    · rw [ih k (s ++ (⟨#[0]⟩ : ByteArray)) (by omega) (by omega) (by omega) (by rw [words_push s (by omega)]; omega), words_push s (by omega)]
      simp only [wordAt_push]

theorem rwords_spec (k : Nat) (s : ByteArray) (hs : s.size ≤ 1000000) (hk : words s + 5 ≤ k) :
    rillmeterref02_words.f k s = some ((List.range' 0 (words s)).map (fun (i : Nat) => wordAt s (4 * (i : Int)))) :=
  rwords_l0 ((4 - s.size % 4) % 4) k s (by omega) rfl (by omega) (by omega)

theorem rsum_l0 (s : ByteArray) (a : Int) (a0 : 0 ≤ a) (a1 : a < 18446744073709551616) (hW : words s ≤ 1000000) : ∀ (m k j : Nat) (n : Int), j + m = words s → 0 ≤ n → n < 2305843009213693951 → m + 131 ≤ k →
    rillmeterref02_Sum.l0 k a n ((List.range' 0 (words s)).map (fun (i : Nat) => wordAt s (4 * (i : Int)))) j = some ((roll s a m n (4 * j) * a) ^ 17 % 2305843009213693951) := by
  intro m
  induction m with
  | zero =>
    intro k j n hj n0 n1 hk
    obtain ⟨k, rfl⟩ : ∃ m, k = m + 1 := ⟨k - 1, by omega⟩
    simp only [rillmeterref02_Sum.l0]
    rw [if_neg (by simp; omega), rmul_spec k a n a0 n0 (by omega)]
    simp only [Option.bind_some]
    rw [rpow_spec k _ 17 (by omega) (by omega) (by omega) (by omega) (by omega), show (17 : Int).toNat = 17 from rfl, pow_emod, Int.mul_comm a n]
    rfl
  | succ m ih =>
    intro k j n hj n0 n1 hk
    obtain ⟨k, rfl⟩ : ∃ m, k = m + 1 := ⟨k - 1, by omega⟩
    have hw := wordAt_range s (4 * j)
    have e : rd ((List.range' 0 (words s)).map (fun (i : Nat) => wordAt s (4 * (i : Int)))) j = wordAt s (4 * j) := by
      simp [rd, show j < words s by omega]
    simp only [rillmeterref02_Sum.l0]
    rw [if_pos (by simp; omega), rmul_spec k a n a0 n0 (by omega), e]
    simp only [Option.bind_some]
    rw [if_pos (by omega), radd_spec _ 1 hw.1 (by omega)]
    simp only [Option.bind_some]
    rw [radd_spec _ _ (by omega) (by omega), i64_in ((j : Int) + 1) (by omega) (by omega)]
    simp only [Option.bind_some]
    rw [show (j : Int) + 1 = ((j + 1 : Nat) : Int) by omega, ih k (j + 1) _ (by omega) (by omega) (by omega) (by omega)]
    simp only [roll]
    rw [show (4 * ((j + 1 : Nat) : Int)) = 4 * (j : Int) + 4 by omega, Int.mul_comm a n]
    have e2 : (n * a % 2305843009213693951 + (wordAt s (4 * j) + 1) % 2305843009213693951) % 2305843009213693951 = (n * a + wordAt s (4 * j) + 1) % 2305843009213693951 := by omega
    rw [e2]

theorem rsum_spec (k : Nat) (seed : Int) (s : ByteArray) (hs : s.size ≤ 1000000) (h0 : 0 ≤ seed) (hk : words s + 135 ≤ k) :
    rillmeterref02_Sum.f k seed s = some (hsum seed s) := by
  unfold rillmeterref02_Sum.f hsum
  have hw : words s = (s.size + 3) / 4 := rfl
  rw [radd_spec seed 2 h0 (by omega), u64_in _ (by omega) (by omega), rof_spec _ (by omega), rwords_spec k s hs (by omega)]
  simp only [Option.bind_some]
  have h := rsum_l0 s ((seed + 2) % 2305843009213693951) (by omega) (by omega) (by omega) (words s) k 0 ((s.size : Int) % 2305843009213693951) (by omega) (by omega) (by omega) (by omega)
  rw [show ((0 : Nat) : Int) = 0 from rfl, show (4 * (0 : Int)) = 0 from rfl, show (s.size : Int) % 2305843009213693951 = s.size by omega] at h
  rw [show (s.size : Int) % 2305843009213693951 = s.size by omega]
  exact h

theorem rcell_spec (k : Nat) (seed : Int) (key : ByteArray) (n : Int) (hs : key.size ≤ 1000000) (h0 : 0 ≤ seed) (hn : n < 9223372036854775808) (hk : words key + 135 ≤ k) :
    rillmeterref02_Cell.f k seed key n = some (hcell seed key n) := by
  unfold rillmeterref02_Cell.f hcell
  by_cases a : n < 1
  · rw [if_pos a, if_pos a]
  · rw [if_neg a, if_neg a, rsum_spec k seed key hs h0 hk]
    simp only [Option.bind_some]
    have r := hsum_range seed key
    have r1 := Int.emod_nonneg (hsum seed key) (b := n) (by omega)
    have r2 := Int.emod_lt_of_pos (hsum seed key) (b := n) (by omega)
    rw [u64_in n (by omega) (by omega), if_neg (by omega), Int.tmod_eq_emod_of_nonneg r.1, i64_in _ (by omega) (by omega)]

theorem rrow_j0 (k : Nat) (seed i : Int) (h0 : 0 ≤ seed) (hi0 : 0 ≤ i) (hi : i < 9223372036854775808) (hk : 132 ≤ k) : rillmeterref02_Row.j0 k seed i = some (hrow seed i) := by
  obtain ⟨k, rfl⟩ : ∃ m, k = m + 1 := ⟨k - 1, by omega⟩
  simp only [rillmeterref02_Row.j0]
  unfold hrow hmid
  rw [if_neg (by omega), u64_in i (by omega) (by omega), radd_spec seed 3 h0 (by omega), radd_spec i 2 hi0 (by omega)]
  simp only [Option.bind_some]
  rw [rmul_spec k _ _ (by omega) (by omega) (by omega)]
  simp only [Option.bind_some]
  rw [radd_spec _ 5 (by omega) (by omega)]
  simp only [Option.bind_some]
  rw [rpow_spec k _ 2 (by omega) (by omega) (by omega) (by omega) (by omega), show (2 : Int).toNat = 2 from rfl]
  simp only [Option.bind_some]
  rw [show ∀ x : Int, x ^ 2 = x * x from fun x => by rw [Int.pow_succ, Int.pow_succ, Int.pow_zero, Int.one_mul]]

theorem rrow_spec (k : Nat) (seed i : Int) (h0 : 0 ≤ seed) (hi : i < 9223372036854775808) (hk : 132 ≤ k) : rillmeterref02_Row.f k seed i = some (hrow seed i) := by
  unfold rillmeterref02_Row.f
  by_cases a : i < 0
  · rw [if_pos a, rrow_j0 k seed 0 h0 (by omega) (by omega) hk]
    unfold hrow hmid
    rw [if_pos a, if_neg (by omega)]
  · rw [if_neg a, rrow_j0 k seed i h0 (by omega) hi hk]

theorem rcol_spec (k : Nat) (s : Int) (key : ByteArray) (i : Nat) (c : Int) (hs0 : 0 ≤ s) (hi : i < 1000) (hc : c ≤ 256) (hkey : key.size ≤ 1000) (hk : 500 ≤ k) : rillmeterref11_Cell.f k s key i c = some (hcell (hrow s i) key c) := by
  have hw := words_le key 250 (by omega)
  have hh := hrow_range s i
  unfold rillmeterref11_Cell.f
  rw [rrow_spec k s i hs0 (by omega) (by omega)]
  simp only [Option.bind_some]
  rw [rcell_spec k _ key _ (by omega) hh.1 (by omega) (by omega)]
  rfl

theorem bytes_eq {a b : ByteArray} (h : a.toList = b.toList) : a = b := by
  rw [ByteArray.toList_eq, ByteArray.toList_eq] at h
  obtain ⟨⟨l⟩⟩ := a; obtain ⟨⟨m⟩⟩ := b
  simp at h
  subst h
  rfl

/-- how much of all that is added belongs to such keys -/
def tot (p : ByteArray → Bool) : List S48 → Int
  | [] => 0
  | y :: t => (if p y.f0 = true then y.f1 else 0) + tot p t

theorem tot_range (p : ByteArray → Bool) : ∀ (l : List S48), okL l → 0 ≤ tot p l ∧ tot p l ≤ 1073741824 * (l.length : Int) := by
  intro l
  induction l with
  | nil => intro _; exact ⟨Int.le_refl _, Int.le_refl _⟩
  | cons y t ih =>
    intro h
    have hy := h y (List.mem_cons_self ..)
    have ht := ih (fun z hz => h z (List.mem_cons_of_mem _ hz))
    simp only [tot, List.length_cons]
    split <;> omega

theorem tot_le (p q : ByteArray → Bool) (hpq : ∀ b, p b = true → q b = true) : ∀ (l : List S48), okL l → tot p l ≤ tot q l := by
  intro l
  induction l with
  | nil => intro _; exact Int.le_refl _
  | cons y t ih =>
    intro h
    have hy := h y (List.mem_cons_self ..)
    have ht := ih (fun z hz => h z (List.mem_cons_of_mem _ hz))
    simp only [tot]
    by_cases c : p y.f0 = true
    · rw [if_pos c, if_pos (hpq _ c)]; omega
    · rw [if_neg c]; split <;> omega

/-- the keys that fall on the cell of this one in row j -/
def sameCell (s : Int) (key : ByteArray) (j : Nat) (c : Int) (b : ByteArray) : Bool := decide (hcell (hrow s j) b c = hcell (hrow s j) key c)

def sameKey (key b : ByteArray) : Bool := decide (b = key)

theorem valAt_adds (s most : Int) (key : ByteArray) (j : Nat) (c : Int) : ∀ (l : List S48) (rows : List (List Int)), okL l → rightL most rows → (colsOf rows : Int) = c → j < rows.length →
    valAt s key (addsL s most l rows) j = mn (valAt s key rows j + tot (sameCell s key j c) l) most := by
  intro l
  induction l with
  | nil =>
    intro rows _ r _ hj
    have h := valAt_range s most key rows j r hj
    simp only [addsL, tot]
    unfold mn
    rw [if_neg (by omega)]
    omega
  | cons y t ih =>
    intro rows h r hc hj
    have hy := h y (List.mem_cons_self ..)
    have hok : okL t := fun z hz => h z (List.mem_cons_of_mem _ hz)
    have r2 := addRows_right s most y.f0 y.f1 rows r hy.2.1
    have hlen : (rows.getD j []).length = colsOf rows := (r.2.2.2.2 _ (getD_row rows j hj)).2.2.1
    have hv := valAt_add s most y.f0 key y.f1 rows j r hj
    unfold cellAt at hv
    rw [hlen, hc] at hv
    have ht := tot_range (sameCell s key j c) t hok
    have hr := valAt_range s most key rows j r hj
    simp only [addsL, tot]
    rw [ih _ hok r2 (by rw [addRows_cols s most y.f0 y.f1 rows r.2.2.1]; exact hc) (by rw [addRows_length]; exact hj), hv]
    unfold sameCell
    by_cases e : hcell (hrow s j) y.f0 c = hcell (hrow s j) key c
    · rw [if_pos e.symm, if_pos (decide_eq_true e)]
      have he : tot (sameCell s key j c) t = tot (fun b => decide (hcell (hrow s j) b c = hcell (hrow s j) key c)) t := rfl
      rw [he] at ht
      unfold mn
      split <;> split <;> split <;> omega
    · rw [if_neg (fun x => e x.symm), if_neg (by simpa using e)]
      rw [show valAt s key rows j + (0 + tot (fun b => decide (hcell (hrow s j) b c = hcell (hrow s j) key c)) t) = valAt s key rows j + tot (fun b => decide (hcell (hrow s j) b c = hcell (hrow s j) key c)) t by omega]

theorem valAt_zero (s : Int) (key : ByteArray) (n c j : Nat) : valAt s key (List.replicate n (List.replicate c 0)) j = 0 := by
  unfold valAt
  generalize (cellAt s key j ((List.replicate n (List.replicate c (0 : Int))).getD j [])).toNat = q
  by_cases h : j < n
  · by_cases g : q < c
    · simp [List.getD_eq_getElem?_getD, h, g]
    · simp [List.getD_eq_getElem?_getD, h, g]
  · simp [List.getD_eq_getElem?_getD, h]

theorem b_l2 (s n c told : Int) (l : List S48) (key : ByteArray) (hs0 : 0 ≤ s) (hc : c ≤ 256) (hl40 : l.length ≤ 40) (h : okL l) (hkey : key.size ≤ 1000) (j : Nat) (hj : j < 7) (K : Nat) (hK : 600 ≤ K) (hnext : ∀ k, K ≤ k → rillmeterlaw11_LeastBounds.l1 k s n c l key told ((j + 1 : Nat) : Int) = some true) (ht : told ≤ tot (sameCell s key j c) l) : ∀ (d k i : Nat) (acc : Int), l.length - i = d → i ≤ l.length → acc + tot (sameCell s key j c) (l.drop i) = tot (sameCell s key j c) l → 0 ≤ acc → K + d + 1 ≤ k →
    rillmeterlaw11_LeastBounds.l2 k s n c l key told j acc l l.length i = some true := by
  have hT := tot_range (sameCell s key j c) l h
  intro d
  induction d with
  | zero =>
    intro k i acc h0 hi ha ha0 hk
    obtain ⟨k, rfl⟩ : ∃ m, k = m + 1 := ⟨k - 1, by omega⟩
    rw [List.drop_of_length_le (by omega)] at ha
    simp only [tot] at ha
    simp only [rillmeterlaw11_LeastBounds.l2]
    rw [if_neg (by omega), if_neg (by omega), i64_in ((j : Int) + 1) (by omega) (by omega), show (j : Int) + 1 = ((j + 1 : Nat) : Int) by omega]
    exact hnext k (by omega)
  | succ d ih =>
    intro k i acc h0 hi ha ha0 hk
    obtain ⟨k, rfl⟩ : ∃ m, k = m + 1 := ⟨k - 1, by omega⟩
    have g : i < l.length := by omega
    have e : rd_T48 l (i : Int) = l[i] := by
      simp [rd_T48, List.getD_eq_getElem?_getD, g]
    obtain ⟨q1, q2, q3⟩ := h _ (List.getElem_mem g)
    have hok : okL (l.drop (i + 1)) := fun z hz => h z (List.mem_of_mem_drop hz)
    have ht2 := tot_range (sameCell s key j c) (l.drop (i + 1)) hok
    rw [List.drop_eq_getElem_cons g] at ha
    simp only [tot] at ha
    simp only [rillmeterlaw11_LeastBounds.l2]
    rw [if_pos (by omega), if_pos (by omega), if_pos (by omega), e, rcol_spec k s _ j c hs0 (by omega) hc (by omega) (by omega), rcol_spec k s key j c hs0 (by omega) hc hkey (by omega)]
    simp only [Option.bind_some]
    rw [i64_in ((i : Int) + 1) (by omega) (by omega), show (i : Int) + 1 = ((i + 1 : Nat) : Int) by omega]
    by_cases c1 : hcell (hrow s j) l[i].f0 c = hcell (hrow s j) key c
    · rw [if_pos (show sameCell s key j c l[i].f0 = true from decide_eq_true c1)] at ha
      rw [if_pos c1, i64_in (acc + l[i].f1) (by omega) (by omega)]
      exact ih k (i + 1) _ (by omega) (by omega) (by omega) (by omega) (by omega)
    · rw [if_neg (show ¬ sameCell s key j c l[i].f0 = true from fun x => c1 (of_decide_eq_true x))] at ha
      rw [if_neg c1]
      exact ih k (i + 1) _ (by omega) (by omega) (by omega) (by omega) (by omega)

theorem b_l1 (s c told : Int) (n : Nat) (l : List S48) (key : ByteArray) (hs0 : 0 ≤ s) (hc : c ≤ 256) (hn : n ≤ 7) (hl40 : l.length ≤ 40) (h : okL l) (hkey : key.size ≤ 1000) (ht : ∀ j, j < n → told ≤ tot (sameCell s key j c) l) : ∀ (d k j : Nat), n - j = d → j ≤ n → d * 50 + 1000 ≤ k →
    rillmeterlaw11_LeastBounds.l1 k s n c l key told j = some true := by
  intro d
  induction d with
  | zero =>
    intro k j h0 hj hk
    obtain ⟨k, rfl⟩ : ∃ m, k = m + 1 := ⟨k - 1, by omega⟩
    simp only [rillmeterlaw11_LeastBounds.l1]
    rw [if_neg (by omega), awake_spec k (by omega)]; rfl
  | succ d ih =>
    intro k j h0 hj hk
    obtain ⟨k, rfl⟩ : ∃ m, k = m + 1 := ⟨k - 1, by omega⟩
    simp only [rillmeterlaw11_LeastBounds.l1]
    rw [if_pos (by omega)]
    have hx := b_l2 s n c told l key hs0 hc hl40 h hkey j (by omega) (d * 50 + 1000) (by omega) (fun k' hk' => ih k' (j + 1) (by omega) (by omega) hk') (ht j (by omega)) l.length k 0 0 (by omega) (by omega) (by rw [List.drop_zero]; omega) (by omega) (by omega)
    exact hx


theorem b_l0 (s n c most told : Int) (l : List S48) (key : ByteArray) (hl40 : l.length ≤ 40) (h : okL l) (K : Nat) (hnext : ∀ k, K ≤ k → rillmeterlaw11_LeastBounds.j2 k s n c l key told false = some true) (ht : told ≤ most) (hlow : told < most → tot (sameKey key) l ≤ told) : ∀ (d k i : Nat) (acc : Int), l.length - i = d → i ≤ l.length → acc + tot (sameKey key) (l.drop i) = tot (sameKey key) l → 0 ≤ acc → K + d + 1 ≤ k →
    rillmeterlaw11_LeastBounds.l0 k s n c most l key told (decide (told < most)) acc l l.length i = some true := by
  have hT := tot_range (sameKey key) l h
  intro d
  induction d with
  | zero =>
    intro k i acc h0 hi ha ha0 hk
    obtain ⟨k, rfl⟩ : ∃ m, k = m + 1 := ⟨k - 1, by omega⟩
    rw [List.drop_of_length_le (by omega)] at ha
    simp only [tot] at ha
    simp only [rillmeterlaw11_LeastBounds.l0]
    rw [if_neg (by omega)]
    by_cases c1 : told < most
    · have hl := hlow c1
      rw [decide_eq_true c1, if_pos rfl, if_neg (by omega), if_neg (by omega)]
      exact hnext k (by omega)
    · rw [decide_eq_false c1, if_neg (by decide), if_neg (by omega), show told = most by omega, bne_self_eq_false, ← show told = most by omega]
      exact hnext k (by omega)
  | succ d ih =>
    intro k i acc h0 hi ha ha0 hk
    obtain ⟨k, rfl⟩ : ∃ m, k = m + 1 := ⟨k - 1, by omega⟩
    have g : i < l.length := by omega
    have e : rd_T48 l (i : Int) = l[i] := by
      simp [rd_T48, List.getD_eq_getElem?_getD, g]
    obtain ⟨q1, q2, q3⟩ := h _ (List.getElem_mem g)
    have hok : okL (l.drop (i + 1)) := fun z hz => h z (List.mem_of_mem_drop hz)
    have ht2 := tot_range (sameKey key) (l.drop (i + 1)) hok
    rw [List.drop_eq_getElem_cons g] at ha
    simp only [tot] at ha
    simp only [rillmeterlaw11_LeastBounds.l0]
    rw [if_pos (by omega), if_pos (by omega), if_pos (by omega), e, i64_in ((i : Int) + 1) (by omega) (by omega), show (i : Int) + 1 = ((i + 1 : Nat) : Int) by omega]
    by_cases c1 : l[i].f0.toList = key.toList
    · rw [if_pos (show sameKey key l[i].f0 = true from decide_eq_true (bytes_eq c1))] at ha
      rw [if_pos c1, i64_in (acc + l[i].f1) (by omega) (by omega)]
      exact ih k (i + 1) _ (by omega) (by omega) (by omega) (by omega) (by omega)
    · rw [if_neg (show ¬ sameKey key l[i].f0 = true from fun x => c1 (by rw [of_decide_eq_true x]))] at ha
      rw [if_neg c1]
      exact ih k (i + 1) _ (by omega) (by omega) (by omega) (by omega) (by omega)

theorem LeastBounds : rillmeterlaw11_LeastBounds.Pure := by
  intro s n c most l key hs0 _ _ _ hl _
  have hs0 := u64_wf hs0
  have hml2 : l.length ≤ 9223372036854775807 := by have := hl.1; unfold maxLen at this; omega
  refine ⟨4000 + l.length, ?_⟩
  obtain ⟨k, hk, hk2⟩ : ∃ m, 4000 + l.length = m + 1 ∧ 3990 + l.length ≤ m := ⟨4000 + l.length - 1, by omega, by omega⟩
  rw [hk]
  unfold rillmeterlaw11_LeastBounds.f
  rw [new_spec _ s n c most (by omega), few_spec _ l hml2 (by omega)]
  simp only [Option.bind_some]
  have hend : ∀ a b rows, rillmeterlaw11_LeastBounds.j0 (k + 1) s n c most l key true a b rows = some true := by
    intro a b rows
    simp only [rillmeterlaw11_LeastBounds.j0]
    rw [if_pos trivial, awake_spec _ (by omega)]; rfl
  by_cases r : 1 ≤ n ∧ n ≤ 7 ∧ 1 ≤ c ∧ c ≤ 256 ∧ 1 ≤ most ∧ most ≤ 1099511627776
  · rw [if_pos r, if_pos rfl]
    by_cases hb1 : fewB l = true
    · rw [if_pos hb1]
      by_cases c1 : (key.size : Int) > 100
      · rw [decide_eq_true c1]; exact hend _ _ _
      · rw [decide_eq_false c1]
        have hc256 : c ≤ 256 := r.2.2.2.1
        have hn7 : n.toNat ≤ 7 := by omega
        have hnn : ((n.toNat : Nat) : Int) = n := by omega
        have hkk : key.size ≤ 1000 := by omega
        have hfu : ∀ k' m : Nat, 1401 ≤ k' + 1 → m ≤ 7 → m * 50 + 1000 ≤ k' := by intro k' m h1 h2; omega
        have r2 := new_right n.toNat c.toNat most (by omega) (by omega) (by omega) (by omega) (by omega) (by omega)
        have hl40 := (fewB_get l hb1).1
        have hok := okL_few l hb1
        have hcols : ((colsOf (List.replicate n.toNat (List.replicate c.toNat (0 : Int))) : Nat) : Int) = c := by
          obtain ⟨m, hm⟩ : ∃ m, n.toNat = m + 1 := ⟨n.toNat - 1, by omega⟩
          rw [hm]
          simp [colsOf, List.replicate_succ]
          omega
        obtain ⟨r3, hlen3⟩ := addsL_right s most l _ hok r2
        have hlen4 : (addsL s most l (List.replicate n.toNat (List.replicate c.toNat 0))).length = n.toNat := by rw [hlen3, List.length_replicate]
        have hval : ∀ j, j < n.toNat → valAt s key (addsL s most l (List.replicate n.toNat (List.replicate c.toNat 0))) j = mn (tot (sameCell s key j c) l) most := by
          intro j hj
          rw [valAt_adds s most key j c l _ hok r2 hcols (by rw [List.length_replicate]; exact hj), valAt_zero, Int.zero_add]
        have hb := downTo_bound (valAt s key (addsL s most l (List.replicate n.toNat (List.replicate c.toNat 0)))) (addsL s most l (List.replicate n.toNat (List.replicate c.toNat 0))).length 0 most
        simp only [rillmeterlaw11_LeastBounds.j0]
        rw [if_neg (by decide), adds_spec k s most l _ hl40 hok hs0.1 hs0.2 r2 (by omega)]
        simp only [Option.bind_some]
        rw [getf_spec k s most key _ hs0.1 hs0.2 (by omega) (by omega), if_pos r3]
        simp only [Option.bind_some]
        unfold getL
        rw [hlen4] at hb ⊢
        generalize htold : downTo (valAt s key (addsL s most l (List.replicate n.toNat (List.replicate c.toNat 0)))) n.toNat 0 most = told at hb ⊢
        have hrow : ∀ j, j < n.toNat → told ≤ tot (sameCell s key j c) l := by
          intro j hj
          have h1 := hb.2.1 j (by omega) (by omega)
          rw [hval j hj] at h1
          have h2 := mn_le (tot (sameCell s key j c) l) most
          omega
        have hlow : told < most → tot (sameKey key) l ≤ told := by
          intro hlt
          rcases hb.2.2 with e | ⟨j, _, hj, e⟩
          · omega
          · rw [hval j (by omega)] at e
            have h2 := mn_le (tot (sameCell s key j c) l) most
            have h3 := tot_le (sameKey key) (sameCell s key j c) (fun b hb => by unfold sameKey at hb; unfold sameCell; rw [of_decide_eq_true hb]; exact decide_eq_true rfl) l hok
            omega
        have hj2 : ∀ k', 1401 ≤ k' → rillmeterlaw11_LeastBounds.j2 k' s n c l key told false = some true := by
          intro k' hk'
          obtain ⟨k', rfl⟩ : ∃ m, k' = m + 1 := ⟨k' - 1, (Nat.sub_add_cancel (Nat.le_trans (by decide) hk')).symm⟩
          simp only [rillmeterlaw11_LeastBounds.j2]
          rw [if_neg (by decide)]
          have hx := b_l1 s c told n.toNat l key hs0.1 hc256 hn7 hl40 hok hkk hrow n.toNat k' 0 (Nat.sub_zero _) (Nat.zero_le _) (hfu k' n.toNat hk' hn7)
          rw [hnn] at hx
          exact hx
        exact b_l0 s n c most told l key hl40 hok 1401 hj2 hb.1 hlow l.length k 0 0 (by omega) (by omega) (by rw [List.drop_zero]; omega) (by omega) (by omega)
    · rw [if_neg hb1]; exact hend _ _ _
  · rw [if_neg r, if_neg (by decide)]; exact hend _ _ _


end Go.Proofs.Yteendbdmkijpkaa.Pure
