/- A sketch of any numbers is told as the document says, or refused. No condition beyond the kinds of the arguments. -/
import Derived.Test.YteendbdmkijpkaaPLeastNewsx7
import Derived.Test.YteendbdmkijpkaaBits
import Derived.Test.YteendbdmkijpkaaNum
import Derived.Test.YteendbdmkijpkaaHash
import Derived.Test.YteendbdmkijpkaaLeast
import Derived.Test.YteendbdmkijpkaaEvs
namespace Go.Proofs.Yteendbdmkijpkaa.Pure
open Go.RowKit Go.Proofs.Yteendbdmkijpkaa.PLeastNews Go.Proofs.YteendbdmkijpkaaW.PrintWords Go.Proofs.YteendbdmkijpkaaW.PrintLast Go.Proofs.Yteendbdmkijpkaa.Bits Go.Proofs.Yteendbdmkijpkaa.Num Go.Proofs.Yteendbdmkijpkaa.Hash Go.Proofs.Yteendbdmkijpkaa.Least Go.Proofs.Yteendbdmkijpkaa.Evs
set_option linter.unusedSimpArgs false
set_option linter.unusedVariables false

theorem new_l0 (s most : Int) (c n : Nat) (hc : c ≤ 256) (hn : n ≤ 7) : ∀ (d k i : Nat), n - i = d → i ≤ n → d < k →
    least_New.l0 k c n i s most (List.replicate i (List.replicate c 0)) = some (s, most, List.replicate n (List.replicate c 0), 0) := by
  intro d
  induction d with
  | zero =>
    intro k i h0 hi hk
    obtain ⟨k, rfl⟩ : ∃ m, k = m + 1 := ⟨k - 1, by omega⟩
    simp only [least_New.l0]
    rw [if_neg (by omega), show i = n by omega]
  | succ d ih =>
    intro k i h0 hi hk
    obtain ⟨k, rfl⟩ : ∃ m, k = m + 1 := ⟨k - 1, by omega⟩
    have hl : (List.replicate i (List.replicate c (0 : Int))).length = i := List.length_replicate
    have h := ih k (i + 1) (by omega) (by omega) (by omega)
    rw [List.replicate_succ'] at h
    simp only [least_New.l0]
    rw [if_pos (by omega), if_pos (by omega), if_pos (by omega), if_pos (by omega), i64_in ((i : Int) + 1) (by omega) (by omega), show (i : Int) + 1 = ((i + 1 : Nat) : Int) by omega]
    exact h

theorem new_spec (k : Nat) (s n c most : Int) (hk : 20 ≤ k) : least_New.f k s n c most = some (if 1 ≤ n ∧ n ≤ 7 ∧ 1 ≤ c ∧ c ≤ 256 ∧ 1 ≤ most ∧ most ≤ 1099511627776 then (s, most, List.replicate n.toNat (List.replicate c.toNat 0), 0) else (0, 0, [], 1)) := by
  obtain ⟨k, rfl⟩ : ∃ m, k = m + 1 := ⟨k - 1, by omega⟩
  unfold least_New.f
  by_cases c1 : n < 1
  · rw [if_pos c1, if_neg (by omega)]; rfl
  · rw [if_neg c1]
    by_cases c2 : n > 7
    · rw [if_pos c2, if_neg (by omega)]; rfl
    · rw [if_neg c2]
      by_cases c3 : c < 1
      · rw [if_pos c3, if_neg (by omega)]; rfl
      · rw [if_neg c3]
        by_cases c4 : c > 256
        · rw [if_pos c4, if_neg (by omega)]; rfl
        · rw [if_neg c4]
          by_cases c5 : most < 1
          · rw [if_pos c5, if_neg (by omega)]; rfl
          · rw [if_neg c5]
            by_cases c6 : most > 1099511627776
            · rw [decide_eq_true c6, if_neg (by omega)]; rfl
            · rw [decide_eq_false c6, if_pos (by omega)]
              simp only [least_New.j0]
              rw [if_neg (by decide)]
              obtain ⟨n, rfl⟩ := Int.eq_ofNat_of_zero_le (show 0 ≤ n by omega)
              obtain ⟨c, rfl⟩ := Int.eq_ofNat_of_zero_le (show 0 ≤ c by omega)
              exact new_l0 s most c n (by omega) (by omega) n k 0 (by omega) (by omega) (by omega)

theorem new_right (n c : Nat) (most : Int) (hn : 1 ≤ n) (hn2 : n ≤ 7) (hc : 1 ≤ c) (hc2 : c ≤ 256) (hm : 1 ≤ most) (hm2 : most ≤ 1099511627776) : rightL most (List.replicate n (List.replicate c 0)) := by
  have hcols : colsOf (List.replicate n (List.replicate c (0 : Int))) = c := by
    obtain ⟨m, rfl⟩ : ∃ m, n = m + 1 := ⟨n - 1, by omega⟩
    simp [colsOf, List.replicate_succ]
  refine ⟨hm, hm2, by rw [List.length_replicate]; exact hn, by rw [List.length_replicate]; exact hn2, fun r hr => ?_⟩
  rw [hcols]
  obtain ⟨_, rfl⟩ := List.mem_replicate.1 hr
  refine ⟨by rw [List.length_replicate]; exact hc, by rw [List.length_replicate]; exact hc2, List.length_replicate, fun x hx => ?_⟩
  obtain ⟨_, rfl⟩ := List.mem_replicate.1 hx
  omega

theorem same_l1 (rows : List (List Int)) (i : Nat) (g : i < rows.length) (h7 : rows.length ≤ 7) (hlen : rows[i].length ≤ 256) (K : Nat) (hb : ∀ k, K ≤ k → rillmeterref11_SameRows.l0 k rows rows ((i + 1 : Nat) : Int) = some true) : ∀ (d k j : Nat), rows[i].length - j = d → j ≤ rows[i].length → K + d + 1 ≤ k →
    rillmeterref11_SameRows.l1 k rows rows i j = some true := by
  have e : rd_L1 rows (i : Int) = rows[i] := by
    show rows.getD i [] = rows[i]
    simp [List.getD_eq_getElem?_getD, g]
  intro d
  induction d with
  | zero =>
    intro k j h0 hi hk
    obtain ⟨k, rfl⟩ : ∃ m, k = m + 1 := ⟨k - 1, by omega⟩
    simp only [rillmeterref11_SameRows.l1]
    rw [if_pos (by omega), if_pos (by omega), e, if_neg (by omega), i64_in ((i : Int) + 1) (by omega) (by omega), show (i : Int) + 1 = ((i + 1 : Nat) : Int) by omega, hb k (by omega)]
  | succ d ih =>
    intro k j h0 hi hk
    obtain ⟨k, rfl⟩ : ∃ m, k = m + 1 := ⟨k - 1, by omega⟩
    simp only [rillmeterref11_SameRows.l1]
    rw [if_pos (by omega), if_pos (by omega), e, if_pos (by omega), if_pos (by omega), if_pos (by omega), if_pos (by omega), if_pos trivial, i64_in ((j : Int) + 1) (by omega) (by omega), show (j : Int) + 1 = ((j + 1 : Nat) : Int) by omega]
    exact ih k (j + 1) (by omega) (by omega) (by omega)

set_option maxRecDepth 100000 in
theorem same_l0 (rows : List (List Int)) (h7 : rows.length ≤ 7) (hlen : ∀ r ∈ rows, r.length ≤ 256) : ∀ (d k i : Nat), rows.length - i = d → i ≤ rows.length → d * 260 + 1 ≤ k →
    rillmeterref11_SameRows.l0 k rows rows i = some true := by
  intro d
  induction d with
  | zero =>
    intro k i h0 hi hk
    obtain ⟨k, rfl⟩ : ∃ m, k = m + 1 := ⟨k - 1, by omega⟩
    simp only [rillmeterref11_SameRows.l0]
    rw [if_neg (by omega)]
  | succ d ih =>
    intro k i h0 hi hk
    obtain ⟨k, rfl⟩ : ∃ m, k = m + 1 := ⟨k - 1, by omega⟩
    have g : i < rows.length := by omega
    have hl := hlen _ (List.getElem_mem g)
    simp only [rillmeterref11_SameRows.l0]
    rw [if_pos (by omega), if_pos (by omega), if_pos (by omega), if_pos trivial]
    exact same_l1 rows i g h7 hl (d * 260 + 1) (fun k hk => ih k (i + 1) (by omega) (by omega) hk) rows[i].length k 0 (by omega) (by omega) (by omega)

theorem same_spec (k : Nat) (rows : List (List Int)) (h7 : rows.length ≤ 7) (hlen : ∀ r ∈ rows, r.length ≤ 256) (hk : 2000 ≤ k) : rillmeterref11_SameRows.f k rows rows = some true := by
  unfold rillmeterref11_SameRows.f
  rw [if_pos rfl]
  exact same_l0 rows h7 hlen rows.length k 0 (by omega) (by omega) (by omega)

theorem equal_spec (k : Nat) (s most : Int) (rows : List (List Int)) (h7 : rows.length ≤ 7) (hlen : ∀ r ∈ rows, r.length ≤ 256) (hk : 2000 ≤ k) : rillmeterref11_Equal.f k s most rows s most rows = some true := by
  unfold rillmeterref11_Equal.f
  rw [if_pos rfl, if_pos rfl, same_spec k rows h7 hlen hk]
  rfl

theorem min_l0 (l : List Int) (hl : l.length ≤ 256) : ∀ (d k i : Nat) (m : Int), l.length - i = d → i ≤ l.length → d < k →
    ∃ t, slices_Min_int_int.l0 k l m i = some t ∧ ∀ c, c ≤ t ↔ (c ≤ m ∧ ∀ j, i ≤ j → j < l.length → c ≤ l.getD j 0) := by
  intro d
  induction d with
  | zero =>
    intro k i m h0 hi hk
    obtain ⟨k, rfl⟩ : ∃ m, k = m + 1 := ⟨k - 1, by omega⟩
    simp only [slices_Min_int_int.l0]
    rw [if_neg (by omega)]
    exact ⟨m, rfl, fun c => ⟨fun h => ⟨h, fun j a b => by omega⟩, fun h => h.1⟩⟩
  | succ d ih =>
    intro k i m h0 hi hk
    obtain ⟨k, rfl⟩ : ∃ m, k = m + 1 := ⟨k - 1, by omega⟩
    have g : i < l.length := by omega
    have e : rd l (i : Int) = l.getD i 0 := rfl
    have hm := mn_le m (l.getD i 0)
    obtain ⟨t, ht, ht2⟩ := ih k (i + 1) (mn m (l.getD i 0)) (by omega) (by omega) (by omega)
    simp only [slices_Min_int_int.l0]
    rw [if_pos (by omega), if_pos (by omega), e, i64_in ((i : Int) + 1) (by omega) (by omega), show (i : Int) + 1 = ((i + 1 : Nat) : Int) by omega]
    refine ⟨t, ht, fun c => (ht2 c).trans ⟨fun h => ⟨by have := h.1; omega, fun j a b => ?_⟩, fun h => ⟨?_, fun j a b => h.2 j (by omega) b⟩⟩⟩
    · by_cases e' : j = i
      · subst e'; have := h.1; omega
      · exact h.2 j (by omega) b
    · have := h.1; have := h.2 i (Nat.le_refl _) g; omega

theorem min_spec (k : Nat) (l : List Int) (h1 : 1 ≤ l.length) (hl : l.length ≤ 256) (hk : 258 ≤ k) : ∃ t, slices_Min_int_int.f k l = some t ∧ ∀ c, c ≤ t ↔ ∀ j, j < l.length → c ≤ l.getD j 0 := by
  obtain ⟨t, ht, ht2⟩ := min_l0 l hl (l.length - 1) k 1 (l.getD 0 0) (by omega) (by omega) (by omega)
  unfold slices_Min_int_int.f
  rw [if_pos (by omega)]
  refine ⟨t, ht, fun c => (ht2 c).trans ⟨fun h j b => ?_, fun h => ⟨h 0 (by omega), fun j _ b => h j b⟩⟩⟩
  by_cases e : j = 0
  · subst e; exact h.1
  · exact h.2 j (by omega) b

theorem mx_ge (a b : Int) : a ≤ mx a b ∧ b ≤ mx a b ∧ (mx a b = a ∨ mx a b = b) := by
  unfold mx
  split <;> omega

theorem max_l0 (l : List Int) (hl : l.length ≤ 256) : ∀ (d k i : Nat) (m : Int), l.length - i = d → i ≤ l.length → d < k →
    ∃ t, slices_Max_int_int.l0 k l m i = some t ∧ ∀ c, t ≤ c ↔ (m ≤ c ∧ ∀ j, i ≤ j → j < l.length → l.getD j 0 ≤ c) := by
  intro d
  induction d with
  | zero =>
    intro k i m h0 hi hk
    obtain ⟨k, rfl⟩ : ∃ m, k = m + 1 := ⟨k - 1, by omega⟩
    simp only [slices_Max_int_int.l0]
    rw [if_neg (by omega)]
    exact ⟨m, rfl, fun c => ⟨fun h => ⟨h, fun j a b => by omega⟩, fun h => h.1⟩⟩
  | succ d ih =>
    intro k i m h0 hi hk
    obtain ⟨k, rfl⟩ : ∃ m, k = m + 1 := ⟨k - 1, by omega⟩
    have g : i < l.length := by omega
    have e : rd l (i : Int) = l.getD i 0 := rfl
    have hm := mx_ge m (l.getD i 0)
    obtain ⟨t, ht, ht2⟩ := ih k (i + 1) (mx m (l.getD i 0)) (by omega) (by omega) (by omega)
    simp only [slices_Max_int_int.l0]
    rw [if_pos (by omega), if_pos (by omega), e, i64_in ((i : Int) + 1) (by omega) (by omega), show (i : Int) + 1 = ((i + 1 : Nat) : Int) by omega]
    refine ⟨t, ht, fun c => (ht2 c).trans ⟨fun h => ⟨by have := h.1; omega, fun j a b => ?_⟩, fun h => ⟨?_, fun j a b => h.2 j (by omega) b⟩⟩⟩
    · by_cases e' : j = i
      · subst e'; have := h.1; omega
      · exact h.2 j (by omega) b
    · have := h.1; have := h.2 i (Nat.le_refl _) g; omega

theorem max_spec (k : Nat) (l : List Int) (h1 : 1 ≤ l.length) (hl : l.length ≤ 256) (hk : 258 ≤ k) : ∃ t, slices_Max_int_int.f k l = some t ∧ ∀ c, t ≤ c ↔ ∀ j, j < l.length → l.getD j 0 ≤ c := by
  obtain ⟨t, ht, ht2⟩ := max_l0 l hl (l.length - 1) k 1 (l.getD 0 0) (by omega) (by omega) (by omega)
  unfold slices_Max_int_int.f
  rw [if_pos (by omega)]
  refine ⟨t, ht, fun c => (ht2 c).trans ⟨fun h j b => ?_, fun h => ⟨h 0 (by omega), fun j _ b => h j b⟩⟩⟩
  by_cases e : j = 0
  · subst e; exact h.1
  · exact h.2 j (by omega) b

def rowB (most : Int) (rows : List (List Int)) (r : List Int) : Bool := decide (rowOk most (colsOf rows) r)

theorem right_l0 (s most : Int) (rows : List (List Int)) (h1 : 1 ≤ rows.length) (h7 : rows.length ≤ 7) : ∀ (d k i : Nat), rows.length - i = d → i ≤ rows.length → d + 260 ≤ k →
    least_Right.l0 k rows rows.length i s most rows = some ((rows.drop i).all (rowB most rows)) := by
  intro d
  induction d with
  | zero =>
    intro k i h0 hi hk
    obtain ⟨k, rfl⟩ : ∃ m, k = m + 1 := ⟨k - 1, by omega⟩
    simp only [least_Right.l0]
    rw [if_neg (by omega), List.drop_of_length_le (by omega)]
    rfl
  | succ d ih =>
    intro k i h0 hi hk
    obtain ⟨k, rfl⟩ : ∃ m, k = m + 1 := ⟨k - 1, by omega⟩
    have g : i < rows.length := by omega
    have hb := ih k (i + 1) (by omega) (by omega) (by omega)
    have e : rd_L1 rows (i : Int) = rows[i] := by
      show rows.getD i [] = rows[i]
      simp [List.getD_eq_getElem?_getD, g]
    have e0 : ((rd_L1 rows 0).length : Int) = (colsOf rows : Int) := rfl
    rw [List.drop_eq_getElem_cons g, List.all_cons]
    simp only [least_Right.l0]
    rw [if_pos (by omega), if_pos (by omega), if_pos (by omega), e, e0, i64_in ((i : Int) + 1) (by omega) (by omega), show (i : Int) + 1 = ((i + 1 : Nat) : Int) by omega]
    generalize rows[i] = r
    by_cases c1 : (r.length : Int) < 1
    · rw [if_pos c1, rowB, decide_eq_false (fun o => by have := o.1; omega)]; rfl
    · rw [if_neg c1]
      by_cases c2 : (r.length : Int) > 256
      · rw [if_pos c2, rowB, decide_eq_false (fun o => by have := o.2.1; omega)]; rfl
      · rw [if_neg c2, if_pos (by omega)]
        by_cases c3 : (r.length : Int) = (colsOf rows : Int)
        · rw [if_pos c3]
          obtain ⟨t, ht, ht2⟩ := min_spec k r (by omega) (by omega) (by omega)
          obtain ⟨u, hu, hu2⟩ := max_spec k r (by omega) (by omega) (by omega)
          rw [ht]; simp only [Option.bind_some]
          by_cases c4 : t < 0
          · rw [if_pos c4, rowB, decide_eq_false (fun o => by have := (ht2 0).2 (fun j hj => (o.2.2.2 _ (getD_num r j hj)).1); omega)]; rfl
          · rw [if_neg c4, hu]; simp only [Option.bind_some]
            by_cases c5 : u > most
            · rw [if_pos c5, rowB, decide_eq_false (fun o => by have := (hu2 most).2 (fun j hj => (o.2.2.2 _ (getD_num r j hj)).2); omega)]; rfl
            · rw [if_neg c5, rowB, decide_eq_true, hb]; rfl
              refine ⟨by omega, by omega, by omega, fun x hx => ?_⟩
              obtain ⟨n, hn, hn2⟩ := List.mem_iff_getElem.1 hx
              have A := (ht2 0).1 (by omega) n hn
              have B := (hu2 most).1 (by omega) n hn
              have E : r.getD n 0 = x := by simp [List.getD_eq_getElem?_getD, hn, hn2]
              omega
        · rw [if_neg c3, rowB, decide_eq_false (fun o => by have := o.2.2.1; omega)]; rfl

theorem all_rows (most : Int) (rows : List (List Int)) (h1 : 1 ≤ most) (h2 : most ≤ 1099511627776) (h3 : 1 ≤ rows.length) (h4 : rows.length ≤ 7) : rows.all (rowB most rows) = decide (rightL most rows) := by
  rw [Bool.eq_iff_iff, List.all_eq_true, decide_eq_true_iff]
  unfold rowB rightL
  exact ⟨fun h => ⟨h1, h2, h3, h4, fun r hr => of_decide_eq_true (h r hr)⟩, fun h r hr => decide_eq_true (h.2.2.2.2 r hr)⟩

theorem right_spec (k : Nat) (s most : Int) (rows : List (List Int)) (hk : 300 ≤ k) : least_Right.f k s most rows = some (decide (rightL most rows)) := by
  obtain ⟨k, rfl⟩ : ∃ m, k = m + 1 := ⟨k - 1, by omega⟩
  unfold least_Right.f
  by_cases c1 : most < 1
  · rw [if_pos c1, decide_eq_false (fun o => by have := o.1; omega)]; rfl
  · rw [if_neg c1]
    by_cases c2 : most > 1099511627776
    · rw [if_pos c2, decide_eq_false (fun o => by have := o.2.1; omega)]; rfl
    · rw [if_neg c2]
      by_cases c3 : (rows.length : Int) < 1
      · rw [if_pos c3, decide_eq_false (fun o => by have := o.2.2.1; omega)]; rfl
      · rw [if_neg c3]
        by_cases c4 : (rows.length : Int) > 7
        · rw [decide_eq_true c4, decide_eq_false (fun o => by have := o.2.2.2.1; omega)]; rfl
        · rw [decide_eq_false c4]
          simp only [least_Right.j0]
          rw [if_neg (by decide)]
          have h := right_l0 s most rows (by omega) (by omega) rows.length k 0 (by omega) (by omega) (by omega)
          rw [List.drop_zero, all_rows most rows (by omega) (by omega) (by omega) (by omega)] at h
          exact h

theorem clone_nums (l : List Int) (h : l.length < 17592186044416) : slices_Clone_int_int.f l = some l := by
  unfold slices_Clone_int_int.f
  simp only [Option.bind_some, List.length_nil, List.nil_append]
  rw [if_pos (by omega)]

theorem getD_set (l : List (List Int)) (i j : Nat) (v : List Int) (h : i < l.length) : (l.set i v).getD j [] = if i = j then v else l.getD j [] := by
  by_cases e : i = j
  · subst e
    rw [if_pos rfl, List.getD_eq_getElem?_getD, List.getElem?_set_self h]
    rfl
  · rw [if_neg e, List.getD_eq_getElem?_getD, List.getElem?_set_ne e, ← List.getD_eq_getElem?_getD]

theorem clone_l0 (s most : Int) (rows : List (List Int)) (hl : rows.length ≤ 7) (hr : ∀ r ∈ rows, r.length ≤ 256) : ∀ (d k i : Nat) (cur : List (List Int)), rows.length - i = d → i ≤ rows.length → cur.length = rows.length → (∀ j, j < i → cur.getD j [] = rows.getD j []) → d < k →
    least_clone.l0 k cur rows rows.length i s most rows = some (s, most, rows) := by
  intro d
  induction d with
  | zero =>
    intro k i cur h0 hi hc hj hk
    obtain ⟨k, rfl⟩ : ∃ m, k = m + 1 := ⟨k - 1, by omega⟩
    simp only [least_clone.l0]
    rw [if_neg (by omega), ext_rows cur rows hc (fun j h => hj j (by omega))]
  | succ d ih =>
    intro k i cur h0 hi hc hj hk
    obtain ⟨k, rfl⟩ : ∃ m, k = m + 1 := ⟨k - 1, by omega⟩
    have g : i < rows.length := by omega
    have e : rd_L1 rows (i : Int) = rows.getD i [] := rfl
    have hm := hr _ (getD_row rows i g)
    simp only [least_clone.l0]
    rw [if_pos (by omega), if_pos (by omega), if_pos (by omega), e, clone_nums _ (by omega)]
    simp only [Option.bind_some]
    rw [if_pos (by omega), i64_in ((i : Int) + 1) (by omega) (by omega), show (i : Int) + 1 = ((i + 1 : Nat) : Int) by omega]
    refine ih k (i + 1) _ (by omega) (by omega) (by rw [List.length_set]; exact hc) (fun j hj2 => ?_) (by omega)
    show (cur.set i _).getD j [] = _
    rw [getD_set cur i j _ (by omega)]
    by_cases e' : i = j
    · rw [if_pos e', e']
    · rw [if_neg e']; exact hj j (by omega)

theorem clone_spec (k : Nat) (s most : Int) (rows : List (List Int)) (hl : rows.length ≤ 7) (hr : ∀ r ∈ rows, r.length ≤ 256) (hk : 10 ≤ k) : least_clone.f k s most rows = some (s, most, rows) := by
  unfold least_clone.f
  rw [if_pos (by omega), if_pos (by omega)]
  exact clone_l0 s most rows hl hr rows.length k 0 _ (by omega) (by omega) (by simp) (fun j h => by omega) (by omega)

theorem of_spec (a : Int) (h0 : 0 ≤ a) (h1 : a < 18446744073709551616) : field_Of.f a = some (a % 2305843009213693951) := by
  unfold field_Of.f
  rw [and_p a h0 h1, u64_in _ (by omega) (by omega)]
  split
  · rw [u64_in _ (by omega) (by omega)]
    exact congrArg some (by omega)
  · exact congrArg some (by omega)

theorem add_spec (a b : Int) (h0 : 0 ≤ a) (h1 : a < 18446744073709551616) (g0 : 0 ≤ b) (g1 : b < 18446744073709551616) :
    field_Add.f a b = some ((a + b) % 2305843009213693951) := by
  unfold field_Add.f
  rw [of_spec a h0 h1, of_spec b g0 g1]
  simp only [Option.bind_some]
  rw [u64_in _ (by omega) (by omega), of_spec _ (by omega) (by omega)]
  simp only [Option.bind_some]
  exact congrArg some (by omega)

theorem mul64_spec (a b : Int) (h0 : 0 ≤ a) (h1 : a < 18446744073709551616) (g0 : 0 ≤ b) (g1 : b < 18446744073709551616) :
    bits_Mul64.f a b = some (a * b / 18446744073709551616, a * b % 18446744073709551616) := by
  unfold bits_Mul64.f
  have hh := halves a b
  obtain ⟨p0, p1⟩ := mul_bd (a := a / 4294967296) (b := b / 4294967296) (by omega) (by omega) (by omega) (by omega)
  obtain ⟨q0, q1⟩ := mul_bd (a := a / 4294967296) (b := b % 4294967296) (by omega) (by omega) (by omega) (by omega)
  obtain ⟨r0, r1⟩ := mul_bd (a := a % 4294967296) (b := b / 4294967296) (by omega) (by omega) (by omega) (by omega)
  obtain ⟨s0, s1⟩ := mul_bd (a := a % 4294967296) (b := b % 4294967296) (by omega) (by omega) (by omega) (by omega)
  rw [and_32 a h0 h1, and_32 b g0 g1]
  generalize a / 4294967296 * (b / 4294967296) = p at *
  generalize a / 4294967296 * (b % 4294967296) = q at *
  generalize a % 4294967296 * (b / 4294967296) = r at *
  generalize a % 4294967296 * (b % 4294967296) = s at *
  generalize a * b = m at *
  clear h0 h1 g0 g1
  rw [u64_in p (by omega) (by omega), u64_in q (by omega) (by omega), u64_in r (by omega) (by omega), u64_in s (by omega) (by omega)]
  rw [u64_in (q + s / 4294967296) (by omega) (by omega)]
  rw [and_32 _ (by omega) (by omega)]
  rw [u64_in (p + _) (by omega) (by omega), u64_in (_ + r) (by omega) (by omega), wrap_u64 m]
  rw [u64_in _ (by omega) (by omega)]
  exact congrArg some (Prod.ext (by show _ = _; omega) rfl)

theorem mul_spec (a b : Int) (h0 : 0 ≤ a) (h1 : a < 18446744073709551616) (g0 : 0 ≤ b) (g1 : b < 18446744073709551616) :
    field_Mul.f a b = some (a * b % 2305843009213693951) := by
  unfold field_Mul.f
  rw [of_spec a h0 h1, of_spec b g0 g1, Int.mul_emod]
  simp only [Option.bind_some]
  have x0 : 0 ≤ a % 2305843009213693951 := by omega
  have x1 : a % 2305843009213693951 ≤ 2305843009213693950 := by omega
  have y0 : 0 ≤ b % 2305843009213693951 := by omega
  have y1 : b % 2305843009213693951 ≤ 2305843009213693950 := by omega
  generalize a % 2305843009213693951 = x at *
  generalize b % 2305843009213693951 = y at *
  rw [mul64_spec x y x0 (by omega) y0 (by omega)]
  simp only [Option.bind_some]
  have hm : 0 ≤ x * y ∧ x * y ≤ 2305843009213693950 * 2305843009213693950 := ⟨Int.mul_nonneg x0 y0, Int.mul_le_mul x1 y1 y0 (by omega)⟩
  generalize x * y = m at *
  obtain ⟨m0, m1⟩ := hm
  rw [and_p _ (by omega) (by omega)]
  rw [u64_in (_ * 8) (by omega) (by omega)]
  rw [or_3 _ _ (by omega) (by omega) (by omega) (by omega) (by omega)]
  rw [u64_in _ (by omega) (by omega), of_spec _ (by omega) (by omega)]
  simp only [Option.bind_some]
  exact congrArg some (by omega)

theorem sq_half (x n : Int) (h0 : 0 ≤ n) : (x * x % 2305843009213693951) ^ (n / 2).toNat % 2305843009213693951 = x ^ (2 * (n.toNat / 2)) % 2305843009213693951 := by
  rw [pow_emod, Int.pow_mul, show (n / 2).toNat = n.toNat / 2 by omega, show x ^ 2 = x * x by grind]

theorem pow_l0 (d : Nat) : ∀ (k : Nat) (x n out : Int), 0 ≤ x → x < 2305843009213693951 → 0 ≤ n → n < 18446744073709551616 → n < 2 ^ d → 0 ≤ out → out < 2305843009213693951 → d < k →
    field_Pow.l0 k x n out = some (out * x ^ n.toNat % 2305843009213693951) := by
  induction d with
  | zero =>
    intro k x n out x0 x1 n0 n1 nd o0 o1 hk
    obtain ⟨k, rfl⟩ : ∃ m, k = m + 1 := ⟨k - 1, by omega⟩
    have hn : n = 0 := by simp at nd; omega
    simp only [field_Pow.l0]
    rw [if_neg (by omega), hn]
    exact congrArg some (by simp; omega)
  | succ d ih =>
    intro k x n out x0 x1 n0 n1 nd o0 o1 hk
    obtain ⟨k, rfl⟩ : ∃ m, k = m + 1 := ⟨k - 1, by omega⟩
    simp only [field_Pow.l0]
    by_cases hp : n > 0
    · rw [if_pos hp, and_1 n n0 n1, mul_spec x x x0 (by omega) x0 (by omega), mul_spec out x o0 (by omega) x0 (by omega)]
      simp only [Option.bind_some]
      have hd : n / 2 < 2 ^ d := by rw [Int.pow_succ] at nd; omega
      split
      · rw [ih k _ (n / 2) _ (by omega) (by omega) (by omega) (by omega) hd (by omega) (by omega) (by omega)]
        have e : n.toNat = 2 * (n.toNat / 2) + 1 := by omega
        refine congrArg some ?_
        rw [Int.mul_emod, sq_half x n n0, ← Int.mul_emod]
        rw [Int.mul_emod, Int.emod_emod, ← Int.mul_emod]
        conv => rhs; rw [e, Int.pow_succ, Int.mul_comm _ x, ← Int.mul_assoc]
      · rw [ih k _ (n / 2) _ (by omega) (by omega) (by omega) (by omega) hd o0 o1 (by omega)]
        have e : n.toNat = 2 * (n.toNat / 2) := by omega
        refine congrArg some ?_
        rw [Int.mul_emod, sq_half x n n0, ← Int.mul_emod]
        conv => rhs; rw [e]
    · have hn : n = 0 := by omega
      rw [if_neg hp, hn]
      exact congrArg some (by simp; omega)

theorem pow_spec (k : Nat) (a n : Int) (h0 : 0 ≤ a) (h1 : a < 18446744073709551616) (g0 : 0 ≤ n) (g1 : n < 18446744073709551616) (hk : 65 ≤ k) :
    field_Pow.f k a n = some (a ^ n.toNat % 2305843009213693951) := by
  unfold field_Pow.f
  rw [of_spec a h0 h1]
  simp only [Option.bind_some]
  rw [pow_l0 64 k _ n 1 (by omega) (by omega) g0 g1 (by omega) (by omega) (by omega) (by omega), Int.one_mul, pow_emod]

theorem sum_step (s : ByteArray) (a n i x j j' : Int) (k : Nat) (hj : j' = j + 1) (hs : s.size ≤ 140737488351232) (i0 : 0 ≤ i) (i1 : i ≤ s.size) (j0 : 0 ≤ j) (j1 : j < 4) (x0 : 0 ≤ x) (x1 : x < 72057594037927936) :
    hash_Sum.l1 (k + 1) s a n i x j = hash_Sum.l1 k s a n i (x * 256 + bt s (i + j)) j' := by
  subst hj
  have hb := bt_range s (i + j)
  conv => lhs; unfold hash_Sum.l1
  rw [if_pos j1, i64_in (i + j) (by omega) (by omega), i64_in (j + 1) (by omega) (by omega), u64_in (x * 256) (by omega) (by omega), u64_in (bt s (i + j)) (by omega) (by omega)]
  by_cases h : i + j < (s.size : Int)
  · rw [if_pos h, if_pos (by omega), or_8 (x * 256) _ (by omega) (by omega) (by omega) (by omega) (by omega)]
  · rw [if_neg h, bt_out s (i + j) (by omega), Int.add_zero]

theorem sum_word (s : ByteArray) (a n i : Int) (k : Nat) (hs : s.size ≤ 140737488351232) (i0 : 0 ≤ i) (i1 : i ≤ s.size) :
    hash_Sum.l1 (k + 4) s a n i 0 0 = hash_Sum.l1 k s a n i (wordAt s i) 4 := by
  have h0 := bt_range s i
  have h1 := bt_range s (i + 1)
  have h2 := bt_range s (i + 2)
  rw [sum_step s a n i 0 0 1 (k + 3) (by omega) hs i0 i1 (by omega) (by omega) (by omega) (by omega), Int.add_zero, Int.zero_mul, Int.zero_add,
    sum_step s a n i _ 1 2 (k + 2) (by omega) hs i0 i1 (by omega) (by omega) (by omega) (by omega),
    sum_step s a n i _ 2 3 (k + 1) (by omega) hs i0 i1 (by omega) (by omega) (by omega) (by omega),
    sum_step s a n i _ 3 4 k (by omega) hs i0 i1 (by omega) (by omega) (by omega) (by omega)]
  rfl

theorem sum_l0 (s : ByteArray) (a : Int) (hs : s.size ≤ 140737488351232) (a0 : 0 ≤ a) (a1 : a < 18446744073709551616) : ∀ (m k : Nat) (n i : Int), 0 ≤ i → (s.size : Int) ≤ i + 4 * m → i < (s.size : Int) + 4 → (0 < m → i + 4 * m < (s.size : Int) + 4) →
    0 ≤ n → n < 18446744073709551616 → 6 * m + 66 ≤ k →
    hash_Sum.l0 k s a n i = some ((roll s a m n i * a) ^ 17 % 2305843009213693951) := by
  intro m
  induction m with
  | zero =>
    intro k n i i0 i1 i2 i3 n0 n1 hk
    obtain ⟨k, rfl⟩ : ∃ m, k = m + 1 := ⟨k - 1, by omega⟩
    unfold hash_Sum.l0
    rw [if_neg (by omega), mul_spec n a n0 n1 a0 a1]
    simp only [Option.bind_some]
    rw [pow_spec k _ 17 (by omega) (by omega) (by omega) (by omega) (by omega), show (17 : Int).toNat = 17 from rfl, pow_emod]
    rfl
  | succ m ih =>
    intro k n i i0 i1 i2 i3 n0 n1 hk
    obtain ⟨k, rfl⟩ : ∃ m, k = m + 1 := ⟨k - 1, by omega⟩
    obtain ⟨k, rfl⟩ : ∃ m, k = m + 4 := ⟨k - 4, by omega⟩
    have hw := wordAt_range s i
    have i4 : i < (s.size : Int) := by omega
    unfold hash_Sum.l0
    rw [if_pos i4, sum_word s a n i k hs i0 (by omega)]
    obtain ⟨k, rfl⟩ : ∃ m, k = m + 1 := ⟨k - 1, by omega⟩
    unfold hash_Sum.l1
    rw [if_neg (by omega), mul_spec n a n0 n1 a0 a1, u64_in _ (by omega) (by omega)]
    simp only [Option.bind_some]
    rw [add_spec _ _ (by omega) (by omega) (by omega) (by omega), i64_in (i + 4) (by omega) (by omega)]
    simp only [Option.bind_some]
    rw [ih k _ (i + 4) (by omega) (by omega) (by omega) (by omega) (by omega) (by omega) (by omega)]
    simp only [roll]
    have e : (n * a % 2305843009213693951 + (wordAt s i + 1)) % 2305843009213693951 = (n * a + wordAt s i + 1) % 2305843009213693951 := by omega
    rw [e]

theorem sum_spec (k : Nat) (seed : Int) (s : ByteArray) (hs : s.size ≤ 140737488351232) (h0 : 0 ≤ seed) (h1 : seed < 18446744073709551616) (hk : 6 * words s + 66 ≤ k) :
    hash_Sum.f k seed s = some (hsum seed s) := by
  unfold hash_Sum.f
  rw [add_spec seed 2 h0 h1 (by omega) (by omega), u64_in _ (by omega) (by omega)]
  simp only [Option.bind_some]
  have hw : words s = (s.size + 3) / 4 := rfl
  exact sum_l0 s _ hs (by omega) (by omega) (words s) k s.size 0 (by omega) (by omega) (by omega) (by omega) (by omega) (by omega) hk

theorem cell_spec (k : Nat) (seed : Int) (key : ByteArray) (n : Int) (hs : key.size ≤ 140737488351232) (h0 : 0 ≤ seed) (h1 : seed < 18446744073709551616) (hn : n < 9223372036854775808) (hk : 6 * words key + 66 ≤ k) :
    hash_Cell.f k seed key n = some (hcell seed key n) := by
  unfold hash_Cell.f hcell
  by_cases a : n < 1
  · rw [if_pos a, if_pos a]
  · rw [if_neg a, if_neg a, sum_spec k seed key hs h0 h1 hk]
    simp only [Option.bind_some]
    have r := hsum_range seed key
    have r1 := Int.emod_nonneg (hsum seed key) (b := n) (by omega)
    have r2 := Int.emod_lt_of_pos (hsum seed key) (b := n) (by omega)
    rw [u64_in n (by omega) (by omega), if_neg (by omega), Int.tmod_eq_emod_of_nonneg r.1, i64_in _ (by omega) (by omega)]

theorem row_spec (seed i : Int) (h0 : 0 ≤ seed) (h1 : seed < 18446744073709551616) (hi : i < 9223372036854775808) : hash_Row.f seed i = some (hrow seed i) := by
  unfold hash_Row.f hrow hmid
  have e : mx i 0 = if i < 0 then 0 else i := rfl
  rw [e, add_spec seed 3 h0 h1 (by omega) (by omega)]
  generalize hj : (if i < 0 then (0 : Int) else i) = j
  have hj0 : 0 ≤ j ∧ j < 9223372036854775808 := by rw [← hj]; split <;> omega
  simp only [Option.bind_some]
  rw [u64_in j (by omega) (by omega), add_spec j 2 (by omega) (by omega) (by omega) (by omega)]
  simp only [Option.bind_some]
  rw [mul_spec _ _ (by omega) (by omega) (by omega) (by omega)]
  simp only [Option.bind_some]
  rw [add_spec _ 5 (by omega) (by omega) (by omega) (by omega)]
  simp only [Option.bind_some]
  rw [mul_spec _ _ (by omega) (by omega) (by omega) (by omega)]
  rfl

theorem addf_l0 (s most n : Int) (key : ByteArray) (rows : List (List Int)) (hs0 : 0 ≤ s) (hs1 : s < 18446744073709551616) (h : rightL most rows) (hn : 0 ≤ n) (hn2 : n ≤ 1099511627776) (hkey : key.size ≤ 1000) : ∀ (d k i : Nat) (cur : List (List Int)), rows.length - i = d → i ≤ rows.length → cur.length = rows.length → (∀ j, j < i → cur.getD j [] = freshRow s most key n j (rows.getD j [])) → (∀ j, i ≤ j → cur.getD j [] = rows.getD j []) → d + 2000 ≤ k →
    least_Add.l0 k key n cur rows.length i s most = some (s, most, addRows s most key n rows, 0) := by
  have hw := words_le key 250 (by omega)
  intro d
  induction d with
  | zero =>
    intro k i cur h0 hi hc hj hj2 hk
    obtain ⟨k, rfl⟩ : ∃ m, k = m + 1 := ⟨k - 1, by omega⟩
    simp only [least_Add.l0]
    rw [if_neg (by omega), ext_rows cur (addRows s most key n rows) (by rw [addRows_length]; exact hc) (fun j h => by rw [hj j (by omega), addRows_get s most key n rows j (by omega)])]
  | succ d ih =>
    intro k i cur h0 hi hc hj hj2 hk
    obtain ⟨k, rfl⟩ : ∃ m, k = m + 1 := ⟨k - 1, by omega⟩
    have g : i < rows.length := by omega
    have h7 := h.2.2.2.1
    have e : rd_L1 cur (i : Int) = rows.getD i [] := hj2 i (Nat.le_refl _)
    have hr := hrow_range s i
    have ho := h.2.2.2.2 _ (getD_row rows i g)
    have hce := hcell_range (hrow s i) key (rows.getD i []).length (by have := ho.1; omega)
    have hlen := ho.2.1
    simp only [least_Add.l0]
    rw [if_pos (by omega), if_pos (by omega), row_spec s i hs0 hs1 (by omega)]
    simp only [Option.bind_some]
    rw [e, cell_spec k _ key _ (by omega) hr.1 (by omega) (by omega) (by omega)]
    simp only [Option.bind_some]
    rw [if_pos hce.1, if_pos hce.2]
    have hv : rd (rows.getD i []) (hcell (hrow s i) key (rows.getD i []).length) = (rows.getD i []).getD (cellAt s key i (rows.getD i [])).toNat 0 := rfl
    have hvr := ho.2.2.2 _ (getD_num (rows.getD i []) (cellAt s key i (rows.getD i [])).toNat (by unfold cellAt; omega))
    have hm := h.2.1
    rw [hv, i64_in _ (by omega) (by omega), i64_in ((i : Int) + 1) (by omega) (by omega), show (i : Int) + 1 = ((i + 1 : Nat) : Int) by omega]
    refine ih k (i + 1) _ (by omega) (by omega) (by rw [List.length_set]; exact hc) (fun j hj3 => ?_) (fun j hj3 => ?_) (by omega)
    · show (cur.set i (freshRow s most key n i (rows.getD i []))).getD j [] = _
      rw [getD_set cur i j _ (by omega)]
      by_cases e' : i = j
      · rw [if_pos e', e']
      · rw [if_neg e']; exact hj j (by omega)
    · show (cur.set i _).getD j [] = _
      rw [getD_set cur i j _ (by omega), if_neg (by omega)]
      exact hj2 j (by omega)

theorem addf_spec (k : Nat) (s most n : Int) (key : ByteArray) (rows : List (List Int)) (hs0 : 0 ≤ s) (hs1 : s < 18446744073709551616) (hkey : key.size ≤ 1000) (hk : 2100 ≤ k) :
    least_Add.f k s most rows key n = some (if rightL most rows ∧ 0 ≤ n ∧ n ≤ 1099511627776 then (s, most, addRows s most key n rows, 0) else (0, 0, [], 1)) := by
  obtain ⟨k, rfl⟩ : ∃ m, k = m + 1 := ⟨k - 1, by omega⟩
  unfold least_Add.f
  rw [right_spec _ s most rows (by omega)]
  simp only [Option.bind_some]
  by_cases r : rightL most rows
  · rw [if_pos (decide_eq_true r)]
    by_cases c1 : n < 0
    · rw [if_pos c1, if_neg (fun o => by have := o.2.1; omega)]; rfl
    · rw [if_neg c1]
      by_cases c2 : n > 1099511627776
      · rw [decide_eq_true c2, if_neg (fun o => by have := o.2.2; omega)]; rfl
      · rw [decide_eq_false c2, if_pos ⟨r, by omega, by omega⟩]
        simp only [least_Add.j0]
        rw [if_neg (by decide), clone_spec k s most rows r.2.2.2.1 (fun x hx => (r.2.2.2.2 x hx).2.1) (by omega)]
        simp only [Option.bind_some]
        have h7 := r.2.2.2.1
        exact addf_l0 s most n key rows hs0 hs1 r (by omega) (by omega) hkey rows.length k 0 rows (by omega) (by omega) rfl (fun j h => by omega) (fun j h => rfl) (by omega)
  · rw [if_neg (by rw [decide_eq_false r]; decide), if_neg (fun o => r o.1)]; rfl

theorem getf_l0 (s most : Int) (key : ByteArray) (rows : List (List Int)) (hs0 : 0 ≤ s) (hs1 : s < 18446744073709551616) (h : rightL most rows) (hkey : key.size ≤ 1000) : ∀ (d k i : Nat) (m : Int), rows.length - i = d → i ≤ rows.length → d + 2000 ≤ k →
    least_Get.l0 k key m rows rows.length i s most rows = some (downTo (valAt s key rows) d i m, decide (downTo (valAt s key rows) d i m < most)) := by
  have hw := words_le key 250 (by omega)
  intro d
  induction d with
  | zero =>
    intro k i m h0 hi hk
    obtain ⟨k, rfl⟩ : ∃ m, k = m + 1 := ⟨k - 1, by omega⟩
    simp only [least_Get.l0]
    rw [if_neg (by omega)]
    rfl
  | succ d ih =>
    intro k i m h0 hi hk
    obtain ⟨k, rfl⟩ : ∃ m, k = m + 1 := ⟨k - 1, by omega⟩
    have g : i < rows.length := by omega
    have h7 := h.2.2.2.1
    have e : rd_L1 rows (i : Int) = rows.getD i [] := rfl
    have hr := hrow_range s i
    have ho := h.2.2.2.2 _ (getD_row rows i g)
    have hce := hcell_range (hrow s i) key (rows.getD i []).length (by have := ho.1; omega)
    have hlen := ho.2.1
    simp only [least_Get.l0]
    rw [if_pos (by omega), if_pos (by omega), if_pos (by omega), row_spec s i hs0 hs1 (by omega)]
    simp only [Option.bind_some]
    rw [e, cell_spec k _ key _ (by omega) hr.1 (by omega) (by omega) (by omega)]
    simp only [Option.bind_some]
    rw [if_pos hce.1, if_pos hce.2, i64_in ((i : Int) + 1) (by omega) (by omega), show (i : Int) + 1 = ((i + 1 : Nat) : Int) by omega]
    exact ih k (i + 1) _ (by omega) (by omega) (by omega)

theorem getf_spec (k : Nat) (s most : Int) (key : ByteArray) (rows : List (List Int)) (hs0 : 0 ≤ s) (hs1 : s < 18446744073709551616) (hkey : key.size ≤ 1000) (hk : 2100 ≤ k) :
    least_Get.f k s most rows key = some (if rightL most rows then (getL s most key rows, decide (getL s most key rows < most)) else (0, false)) := by
  unfold least_Get.f
  rw [right_spec _ s most rows (by omega)]
  simp only [Option.bind_some]
  by_cases r : rightL most rows
  · rw [if_pos (decide_eq_true r), if_pos r]
    have h7 := r.2.2.2.1
    exact getf_l0 s most key rows hs0 hs1 r hkey rows.length k 0 most (by omega) (by omega) (by omega)
  · rw [if_neg (by rw [decide_eq_false r]; decide), if_neg r]

theorem awake_spec (k : Nat) (hk : 400 ≤ k) : rillmeterlaw11_awake.f k = some true :=
  at_rounds (g := fun k => rillmeterlaw11_awake.f k) rillmeterlaw11_awake.mono hk (by decide +kernel)

def numB (most : Int) (x : Int) : Bool := decide (0 ≤ x ∧ x ≤ most)

theorem rright_l1 (s most : Int) (rows : List (List Int)) (i : Nat) (g : i < rows.length) (h7 : rows.length ≤ 7) (hlen : rows[i].length ≤ 256) (K : Nat) (b : Bool) (hb : ∀ k, K ≤ k → rillmeterref11_Right.l0 k ((i + 1 : Nat) : Int) s most rows = some b) : ∀ (d k j : Nat), rows[i].length - j = d → j ≤ rows[i].length → K + d + 1 ≤ k →
    rillmeterref11_Right.l1 k i rows[i].length j s most rows = some ((rows[i].drop j).all (numB most) && b) := by
  have e : rd_L1 rows (i : Int) = rows[i] := by
    show rows.getD i [] = rows[i]
    simp [List.getD_eq_getElem?_getD, g]
  intro d
  induction d with
  | zero =>
    intro k j h0 hi hk
    obtain ⟨k, rfl⟩ : ∃ m, k = m + 1 := ⟨k - 1, by omega⟩
    simp only [rillmeterref11_Right.l1]
    rw [if_neg (by omega), List.drop_of_length_le (by omega), i64_in ((i : Int) + 1) (by omega) (by omega), show (i : Int) + 1 = ((i + 1 : Nat) : Int) by omega, hb k (by omega)]
    rfl
  | succ d ih =>
    intro k j h0 hi hk
    obtain ⟨k, rfl⟩ : ∃ m, k = m + 1 := ⟨k - 1, by omega⟩
    have gj : j < rows[i].length := by omega
    rw [List.drop_eq_getElem_cons gj, List.all_cons]
    simp only [rillmeterref11_Right.l1]
    rw [if_pos (by omega), if_pos (by omega), if_pos (by omega), if_pos (by omega), e, if_pos (by omega), rd_eq _ j gj, i64_in ((j : Int) + 1) (by omega) (by omega), show (j : Int) + 1 = ((j + 1 : Nat) : Int) by omega]
    by_cases c1 : rows[i][j] < 0
    · rw [if_pos c1, numB, decide_eq_false (fun o => by have := o.1; omega)]; rfl
    · rw [if_neg c1]
      by_cases c2 : rows[i][j] > most
      · rw [if_pos c2, numB, decide_eq_false (fun o => by have := o.2; omega)]; rfl
      · rw [if_neg c2, ih k (j + 1) (by omega) (by omega) (by omega), numB, decide_eq_true ⟨by omega, by omega⟩, Bool.true_and]

set_option maxRecDepth 100000 in
theorem rright_l0 (s most : Int) (rows : List (List Int)) (h1 : 1 ≤ rows.length) (h7 : rows.length ≤ 7) : ∀ (d k i : Nat), rows.length - i = d → i ≤ rows.length → d * 260 + 1 ≤ k →
    rillmeterref11_Right.l0 k i s most rows = some ((rows.drop i).all (rowB most rows)) := by
  intro d
  induction d with
  | zero =>
    intro k i h0 hi hk
    obtain ⟨k, rfl⟩ : ∃ m, k = m + 1 := ⟨k - 1, by omega⟩
    simp only [rillmeterref11_Right.l0]
    rw [if_neg (by omega), List.drop_of_length_le (by omega)]
    rfl
  | succ d ih =>
    intro k i h0 hi hk
    obtain ⟨k, rfl⟩ : ∃ m, k = m + 2 := ⟨k - 2, by omega⟩
    have g : i < rows.length := by omega
    have e : rd_L1 rows (i : Int) = rows[i] := by
      show rows.getD i [] = rows[i]
      simp [List.getD_eq_getElem?_getD, g]
    have e0 : ((rd_L1 rows 0).length : Int) = (colsOf rows : Int) := rfl
    rw [List.drop_eq_getElem_cons g, List.all_cons]
    simp only [rillmeterref11_Right.l0, rillmeterref11_Right.j2]
    rw [if_pos (by omega), if_pos (by omega), e, e0]
    by_cases c1 : (rows[i].length : Int) = 0
    · rw [if_pos c1, if_pos trivial, rowB, decide_eq_false (fun o => by have := o.1; omega)]; rfl
    · rw [if_neg c1]
      by_cases c2 : (rows[i].length : Int) > 256
      · rw [if_pos c2, if_pos trivial, rowB, decide_eq_false (fun o => by have := o.2.1; omega)]; rfl
      · rw [if_neg c2, if_pos (by omega)]
        by_cases c3 : (rows[i].length : Int) = (colsOf rows : Int)
        · have c3b : ((rows[i].length : Int) != (colsOf rows : Int)) = false := by simp [c3]
          rw [c3b, if_neg (by decide)]
          have hx : ∀ k', d * 260 + 1 ≤ k' → rillmeterref11_Right.l0 k' ((i + 1 : Nat) : Int) s most rows = some ((rows.drop (i + 1)).all (rowB most rows)) := fun k' hk' => ih k' (i + 1) (by omega) (by omega) hk'
          have hle : rows[i].length ≤ 256 := by omega
          have hfu : d * 260 + 1 + rows[i].length + 1 ≤ k := by omega
          have h := rright_l1 s most rows i g h7 hle (d * 260 + 1) _ hx rows[i].length k 0 rfl (Nat.zero_le _) hfu
          have ee : rowB most rows rows[i] = (rows[i].drop 0).all (numB most) := by
            rw [List.drop_zero, Bool.eq_iff_iff, List.all_eq_true]
            unfold rowB numB
            rw [decide_eq_true_iff]
            unfold rowOk
            exact ⟨fun h x hx => decide_eq_true (h.2.2.2 x hx), fun h => ⟨by omega, by omega, by omega, fun x hx => of_decide_eq_true (h x hx)⟩⟩
          rw [ee]
          exact h
        · have c3b : ((rows[i].length : Int) != (colsOf rows : Int)) = true := by simpa using c3
          rw [c3b, if_pos rfl, rowB, decide_eq_false (fun o => by have := o.2.2.1; omega)]; rfl

theorem rright_spec (k : Nat) (s most : Int) (rows : List (List Int)) (hk : 2000 ≤ k) : rillmeterref11_Right.f k s most rows = some (decide (rightL most rows)) := by
  obtain ⟨k, rfl⟩ : ∃ m, k = m + 1 := ⟨k - 1, by omega⟩
  unfold rillmeterref11_Right.f
  by_cases c1 : most < 1
  · rw [if_pos c1, decide_eq_false (fun o => by have := o.1; omega)]; rfl
  · rw [if_neg c1]
    by_cases c2 : most > 1099511627776
    · rw [if_pos c2, decide_eq_false (fun o => by have := o.2.1; omega)]; rfl
    · rw [if_neg c2]
      by_cases c3 : (rows.length : Int) = 0
      · rw [if_pos c3, decide_eq_false (fun o => by have := o.2.2.1; omega)]; rfl
      · rw [if_neg c3]
        by_cases c4 : (rows.length : Int) > 7
        · rw [decide_eq_true c4, decide_eq_false (fun o => by have := o.2.2.2.1; omega)]; rfl
        · rw [decide_eq_false c4]
          simp only [rillmeterref11_Right.j0]
          rw [if_neg (by decide)]
          have h := rright_l0 s most rows (by omega) (by omega) rows.length k 0 (by omega) (by omega) (by omega)
          rw [List.drop_zero, all_rows most rows (by omega) (by omega) (by omega) (by omega)] at h
          exact h

theorem news_l1 (e N s most : Int) (rows : List (List Int)) (i c : Nat) (hi : i ≤ 10) (hc : c ≤ 256) {R : Bool} : ∀ (d j : Nat), c - j = d → j ≤ c → Evt (fun k => rillmeterlaw11_LeastNews.l0 k e N ((i + 1 : Nat) : Int) s most rows) R →
    Evt (fun k => rillmeterlaw11_LeastNews.l1 k e N (i : Int) (List.replicate c 0) (c : Int) (j : Int) s most rows) R := by
  intro d
  induction d with
  | zero =>
    intro j h0 hj h
    refine Evt.step h (fun k => ?_)
    simp only [rillmeterlaw11_LeastNews.l1]
    rw [if_neg (by omega), i64_in ((i : Int) + 1) (by omega) (by omega), show (i : Int) + 1 = ((i + 1 : Nat) : Int) by omega]
  | succ d ih =>
    intro j h0 hj h
    refine Evt.step (ih (j + 1) (by omega) (by omega) h) (fun k => ?_)
    simp only [rillmeterlaw11_LeastNews.l1]
    have e0 : rd (List.replicate c (0 : Int)) (j : Int) = 0 := by
      unfold rd
      rw [Int.toNat_natCast, List.getD_eq_getElem?_getD, List.getElem?_replicate, if_pos (by omega)]; rfl
    rw [if_pos (by omega), if_pos (by omega), if_pos (by rw [List.length_replicate]; omega), if_pos e0, i64_in ((j : Int) + 1) (by omega) (by omega), show (j : Int) + 1 = ((j + 1 : Nat) : Int) by omega]

theorem news_l0 (s most : Int) (n c : Nat) (hn : n ≤ 7) (hc : c ≤ 256) : ∀ (d i : Nat), n - i = d → i ≤ n →
    Evt (fun k => rillmeterlaw11_LeastNews.l0 k 0 (n : Int) (i : Int) s most (List.replicate n (List.replicate c 0))) true := by
  have aw : Evt (fun k => rillmeterlaw11_awake.f k) true := Evt.ge 400 (fun k hk => awake_spec k hk)
  intro d
  induction d with
  | zero =>
    intro i h0 hi
    refine Evt.step (Evt.bind (g := fun _ t => some t) aw (Evt.now fun _ => rfl)) (fun k => ?_)
    simp only [rillmeterlaw11_LeastNews.l0]
    rw [if_neg (by omega)]
    exact if_pos trivial
  | succ d ih =>
    intro i h0 hi
    have er : rd_L1 (List.replicate n (List.replicate c (0 : Int))) (i : Int) = List.replicate c 0 := by
      unfold rd_L1
      rw [Int.toNat_natCast, List.getD_eq_getElem?_getD, List.getElem?_replicate, if_pos (by omega)]; rfl
    have h := news_l1 0 (n : Int) s most (List.replicate n (List.replicate c 0)) i c (by omega) hc c 0 (by omega) (by omega) (ih (i + 1) (by omega) (by omega))
    refine Evt.step h (fun k => ?_)
    simp only [rillmeterlaw11_LeastNews.l0]
    rw [if_pos (by omega), if_pos (by omega), if_pos (by rw [List.length_replicate]; omega), er, List.length_replicate]
    rfl

theorem LeastNews : rillmeterlaw11_LeastNews.Pure := by
  intro s n c most hs hn hc hm
  have aw : Evt (fun k => rillmeterlaw11_awake.f k) true := Evt.ge 400 (fun k hk => awake_spec k hk)
  have news : Evt (fun k => least_New.f k s n c most) _ := Evt.ge 20 (fun k hk => new_spec k s n c most hk)
  refine Evt.some_ ?_
  by_cases v : 1 ≤ n ∧ n ≤ 7 ∧ 1 ≤ c ∧ c ≤ 256 ∧ 1 ≤ most ∧ most ≤ 1099511627776
  · rw [if_pos v] at news
    obtain ⟨N, rfl⟩ : ∃ N : Nat, n = (N : Int) := ⟨n.toNat, by omega⟩
    obtain ⟨C, rfl⟩ : ∃ C : Nat, c = (C : Int) := ⟨c.toNat, by omega⟩
    rw [Int.toNat_natCast, Int.toNat_natCast] at news
    have hR := new_right N C most (by omega) (by omega) (by omega) (by omega) v.2.2.2.2.1 v.2.2.2.2.2
    have right : Evt (fun k => rillmeterref11_Right.f k s most (List.replicate N (List.replicate C 0))) true := Evt.ge 2000 (fun k hk => by rw [rright_spec k s most _ hk, decide_eq_true hR])
    have e0 : rd_L1 (List.replicate N (List.replicate C (0 : Int))) 0 = List.replicate C 0 := by
      unfold rd_L1
      rw [show (0 : Int).toNat = 0 from rfl, List.getD_eq_getElem?_getD, List.getElem?_replicate, if_pos (by omega)]; rfl
    have h1 : Evt (fun k => rillmeterlaw11_LeastNews.j1 k 0 (!true) s most (List.replicate N (List.replicate C 0))) true := by
      refine Evt.step (news_l0 s most N C (by omega) (by omega) N 0 (by omega) (by omega)) (fun k => ?_)
      simp only [rillmeterlaw11_LeastNews.j1]
      rw [if_neg (by decide), List.length_replicate]
      rfl
    have h0 : Evt (fun k => rillmeterlaw11_LeastNews.j0 k s (N : Int) (C : Int) most 0 false s most (List.replicate N (List.replicate C 0))) true := by
      refine Evt.step (Evt.bind (f := fun k => rillmeterref11_Right.f k s most (List.replicate N (List.replicate C 0))) (g := fun k t238 => rillmeterlaw11_LeastNews.j1 k 0 (!t238) s most (List.replicate N (List.replicate C 0))) right h1) (fun k => ?_)
      simp only [rillmeterlaw11_LeastNews.j0]
      rw [if_neg (by decide), if_pos (by rw [List.length_replicate]), if_pos (by rw [List.length_replicate]; omega), e0, if_pos (by rw [List.length_replicate]), if_pos trivial, if_pos trivial]
      unfold rillmeterlaw11_ref.f
      rfl
    refine (Evt.bind (f := fun k => least_New.f k s (N : Int) (C : Int) most) (g := fun k (bt218 : Int × Int × List (List Int) × Int) => (if (N : Int) < 1 then (rillmeterlaw11_LeastNews.j0 k s (N : Int) (C : Int) most bt218.2.2.2 true bt218.1 bt218.2.1 bt218.2.2.1) else (if (N : Int) > 7 then (rillmeterlaw11_LeastNews.j0 k s (N : Int) (C : Int) most bt218.2.2.2 true bt218.1 bt218.2.1 bt218.2.2.1) else (if (C : Int) < 1 then (rillmeterlaw11_LeastNews.j0 k s (N : Int) (C : Int) most bt218.2.2.2 true bt218.1 bt218.2.1 bt218.2.2.1) else (if (C : Int) > 256 then (rillmeterlaw11_LeastNews.j0 k s (N : Int) (C : Int) most bt218.2.2.2 true bt218.1 bt218.2.1 bt218.2.2.1) else (if most < 1 then (rillmeterlaw11_LeastNews.j0 k s (N : Int) (C : Int) most bt218.2.2.2 true bt218.1 bt218.2.1 bt218.2.2.1) else (rillmeterlaw11_LeastNews.j0 k s (N : Int) (C : Int) most bt218.2.2.2 (decide (most > 1099511627776)) bt218.1 bt218.2.1 bt218.2.2.1))))))) news (h0.eq (fun k => ?_))).eq (fun k => rfl)
    rw [if_neg (by omega), if_neg (by omega), if_neg (by omega), if_neg (by omega), if_neg (by omega), decide_eq_false (by omega)]
  · rw [if_neg v] at news
    have eq : Evt (fun k => rillmeterref11_Equal.f k 0 0 [] 0 0 []) true := Evt.ge 2000 (fun k hk => equal_spec k 0 0 [] (by simp) (by simp) hk)
    have h0 : Evt (fun k => rillmeterlaw11_LeastNews.j0 k s n c most 1 true 0 0 []) true := by
      refine Evt.step (Evt.bind (f := fun k => rillmeterref11_Equal.f k 0 0 [] 0 0 []) (g := fun k t230 => (if t230 = true then (if (1 : Int) = 1 then ((rillmeterlaw11_awake.f k).bind fun t231 => (some t231)) else (some false)) else (some false))) eq (Evt.eq (g := fun k => (rillmeterlaw11_awake.f k).bind fun t231 => (some t231)) (Evt.bind (g := fun _ t => some t) aw (Evt.now fun _ => rfl)) (fun k => by rw [if_pos rfl, if_pos rfl]))) (fun k => ?_)
      simp only [rillmeterlaw11_LeastNews.j0]
      unfold rillmeterlaw11_ref.f
      first | rfl | (rw [if_pos trivial]; rfl)
    refine (Evt.bind (f := fun k => least_New.f k s n c most) (g := fun k (bt218 : Int × Int × List (List Int) × Int) => (if n < 1 then (rillmeterlaw11_LeastNews.j0 k s n c most bt218.2.2.2 true bt218.1 bt218.2.1 bt218.2.2.1) else (if n > 7 then (rillmeterlaw11_LeastNews.j0 k s n c most bt218.2.2.2 true bt218.1 bt218.2.1 bt218.2.2.1) else (if c < 1 then (rillmeterlaw11_LeastNews.j0 k s n c most bt218.2.2.2 true bt218.1 bt218.2.1 bt218.2.2.1) else (if c > 256 then (rillmeterlaw11_LeastNews.j0 k s n c most bt218.2.2.2 true bt218.1 bt218.2.1 bt218.2.2.1) else (if most < 1 then (rillmeterlaw11_LeastNews.j0 k s n c most bt218.2.2.2 true bt218.1 bt218.2.1 bt218.2.2.1) else (rillmeterlaw11_LeastNews.j0 k s n c most bt218.2.2.2 (decide (most > 1099511627776)) bt218.1 bt218.2.1 bt218.2.2.1))))))) news (h0.eq (fun k => ?_))).eq (fun k => rfl)
    by_cases c1 : n < 1
    · rw [if_pos c1]
    · by_cases c2 : n > 7
      · rw [if_neg c1, if_pos c2]
      · by_cases c3 : c < 1
        · rw [if_neg c1, if_neg c2, if_pos c3]
        · by_cases c4 : c > 256
          · rw [if_neg c1, if_neg c2, if_neg c3, if_pos c4]
          · by_cases c5 : most < 1
            · rw [if_neg c1, if_neg c2, if_neg c3, if_neg c4, if_pos c5]
            · rw [if_neg c1, if_neg c2, if_neg c3, if_neg c4, if_neg c5, decide_eq_true (by omega)]

end Go.Proofs.Yteendbdmkijpkaa.Pure
