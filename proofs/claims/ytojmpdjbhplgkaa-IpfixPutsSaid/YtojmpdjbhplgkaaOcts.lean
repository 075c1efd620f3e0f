/- Numbers as bytes: the number that bytes are, a text's end from a place on. Conditions stand in each lemma. -/
import Derived.Test.YtojmpdjbhplgkaaWMore
import Derived.Test.YtojmpdjbhplgkaaBits
namespace Go.Proofs.Ytojmpdjbhplgkaa.Octs
open Go Go.RowKit Go.Proofs.YtojmpdjbhplgkaaW.PrintWords Go.Proofs.Ytojmpdjbhplgkaa.Bits
set_option linter.unusedSimpArgs false
set_option linter.unusedVariables false

theorem bt_nat (s : ByteArray) (i : Nat) (h : i < s.size) : bt s (i : Int) = ((s[i]'h).toNat : Int) := by
  have := bt_at s (i : Int) (by simpa using h)
  simpa using this.symm
theorem bytes_ext {x y : ByteArray} (h : x.size = y.size) (e : ∀ i : Nat, i < x.size → bt x (i : Int) = bt y (i : Int)) : x = y := by
  apply ByteArray.ext
  apply Array.ext h
  intro i h1 h2
  have := e i h1
  rw [bt_nat x i h1, bt_nat y i h2] at this
  have h3 : (x[i]'h1).toNat = (y[i]'h2).toNat := by omega
  exact UInt8.toNat_inj.1 h3
theorem bt_extract (x : ByteArray) (s e i : Nat) (h : s + i < e) (he : e ≤ x.size) : bt (x.extract s e) (i : Int) = bt x ((s + i : Nat) : Int) := by
  rw [bt_nat _ i (by rw [ByteArray.size_extract]; omega), bt_nat _ (s + i) (by omega)]
  congr 2
  simp [ByteArray.getElem_extract]
theorem bt_left (x y : ByteArray) (i : Nat) (h : i < x.size) : bt (x ++ y) (i : Int) = bt x (i : Int) := by
  rw [bt_nat _ i (by rw [ByteArray.size_append]; omega), bt_nat _ i h]
  simp [ByteArray.getElem_eq_getElem_data, Array.getElem_append, h]
theorem bt_right (x y : ByteArray) (i : Nat) (h : i < y.size) : bt (x ++ y) ((x.size + i : Nat) : Int) = bt y (i : Int) := by
  rw [bt_nat _ (x.size + i) (by rw [ByteArray.size_append]; omega), bt_nat _ i h]
  simp [ByteArray.getElem_eq_getElem_data, Array.getElem_append]
theorem bt_nums (l : List Int) (i : Nat) (h : i < l.length) (h0 : 0 ≤ l.getD i 0) (h1 : l.getD i 0 < 256) : bt (strOfNums l) (i : Int) = l.getD i 0 := by
  rw [bt_nat _ i (by rw [strOfNums_size]; exact h)]
  rw [List.getD_eq_getElem?_getD, List.getElem?_eq_getElem h] at h0 h1 ⊢
  simp only [Option.getD_some] at h0 h1 ⊢
  simp [strOfNums, ByteArray.getElem_eq_getElem_data]
  omega
theorem ex_app_left (x y : ByteArray) : (x ++ y).extract 0 x.size = x := by
  apply ByteArray.ext; simp
theorem ex_app_right (x y : ByteArray) : (x ++ y).extract x.size (x ++ y).size = y := by
  refine bytes_ext (by rw [ByteArray.size_extract, ByteArray.size_append]; omega) (fun i hi => ?_)
  rw [ByteArray.size_extract, ByteArray.size_append] at hi
  rw [bt_extract _ _ _ _ (by rw [ByteArray.size_append]; omega) (Nat.le_refl _), bt_right _ _ _ (by omega)]
theorem ex_all (x : ByteArray) : x.extract 0 x.size = x := by
  apply ByteArray.ext; simp
theorem ex_ex (x : ByteArray) (a b c d : Nat) (hb : b ≤ x.size) (h : a + d ≤ b) (hd : c ≤ d) : (x.extract a b).extract c d = x.extract (a + c) (a + d) := by
  refine bytes_ext (by simp only [ByteArray.size_extract]; omega) (fun i hi => ?_)
  simp only [ByteArray.size_extract] at hi
  rw [bt_extract _ _ _ _ (by omega) (by rw [ByteArray.size_extract]; omega), bt_extract _ _ _ _ (by omega) hb, bt_extract _ _ _ _ (by omega) (by omega)]
  congr 1; omega
theorem app_ex (x : ByteArray) (a b c : Nat) (h1 : a ≤ b) (h2 : b ≤ c) (h3 : c ≤ x.size) : x.extract a b ++ x.extract b c = x.extract a c := by
  refine bytes_ext (by simp only [ByteArray.size_append, ByteArray.size_extract]; omega) (fun i hi => ?_)
  simp only [ByteArray.size_append, ByteArray.size_extract] at hi
  rw [bt_extract x a c i (by omega) h3]
  by_cases h : i < b - a
  · rw [bt_left _ _ _ (by rw [ByteArray.size_extract]; omega), bt_extract _ _ _ _ (by omega) (by omega)]
  · have e : i = (x.extract a b).size + (i - (b - a)) := by rw [ByteArray.size_extract]; omega
    rw [e, bt_right _ _ _ (by rw [ByteArray.size_extract]; omega), bt_extract _ _ _ _ (by omega) (by omega), ← e]
    congr 1; omega
theorem app_nil (x : ByteArray) : x ++ (⟨#[]⟩ : ByteArray) = x := by
  apply ByteArray.ext; simp
theorem nil_app (x : ByteArray) : (⟨#[]⟩ : ByteArray) ++ x = x := by
  apply ByteArray.ext; simp
theorem size_zero {x : ByteArray} (h : x.size = 0) : x = ⟨#[]⟩ := by
  apply ByteArray.ext
  exact Array.eq_empty_of_size_eq_zero h

theorem loop_len (s : ByteArray) : ∀ (d i : Nat) (r : List UInt8), i + d = s.size → (ByteArray.toList.loop s i r).length = d + r.length := by
  intro d
  induction d with
  | zero =>
    intro i r h
    unfold ByteArray.toList.loop
    rw [if_neg (by omega)]
    simp
  | succ d ih =>
    intro i r h
    unfold ByteArray.toList.loop
    rw [if_pos (by omega), ih (i + 1) _ (by omega)]
    simp
    omega
theorem toList_nil {s : ByteArray} (h : s.toList = []) : s = ⟨#[]⟩ := by
  have h1 := loop_len s s.size 0 [] (by omega)
  rw [show ByteArray.toList.loop s 0 [] = s.toList from rfl, h] at h1
  exact size_zero (by simpa using h1.symm)
theorem toList_nil_iff (s : ByteArray) : s.toList = [] ↔ s.size = 0 := by
  constructor
  · intro h; rw [toList_nil h]; rfl
  · intro h; rw [size_zero h]; simp

/-- the number that the first i bytes are -/
def pre (x : ByteArray) : Nat → Int
  | 0 => 0
  | i + 1 => 256 * pre x i + bt x (i : Int)
theorem pre_range (x : ByteArray) : ∀ i, 0 ≤ pre x i ∧ pre x i < 2 ^ (8 * i) := by
  intro i
  induction i with
  | zero => exact ⟨Int.le_refl _, by simp [pre]⟩
  | succ i ih =>
    have := bt_range x (i : Int)
    rw [pre, show 8 * (i + 1) = 8 * i + 8 by omega, Int.pow_add]
    generalize (2 : Int) ^ (8 * i) = p at *
    omega
theorem pre_le (x : ByteArray) {i : Nat} (h : i ≤ 7) : 0 ≤ pre x i ∧ pre x i < 72057594037927936 := by
  have h1 := pre_range x i
  have h2 : (2 : Int) ^ (8 * i) ≤ 2 ^ 56 := by
    have := Nat.pow_le_pow_right (show 0 < 2 by decide) (show 8 * i ≤ 56 by omega)
    exact_mod_cast this
  have h3 : (2 : Int) ^ 56 = 72057594037927936 := by decide
  omega
theorem pre_1 (x : ByteArray) : 0 ≤ pre x 1 ∧ pre x 1 ≤ 255 := by
  have h := bt_range x ((0 : Nat) : Int)
  simp only [pre]; omega
theorem pre_2 (x : ByteArray) : 0 ≤ pre x 2 ∧ pre x 2 ≤ 65535 := by
  have h := bt_range x ((1 : Nat) : Int)
  have h1 := pre_1 x
  rw [pre]; omega
theorem pre_4 (x : ByteArray) : 0 ≤ pre x 4 ∧ pre x 4 ≤ 4294967295 := by
  have h := bt_range x ((2 : Nat) : Int)
  have h3 := bt_range x ((3 : Nat) : Int)
  have h1 := pre_2 x
  rw [pre, pre]; omega
theorem pre_congr (x y : ByteArray) : ∀ i : Nat, (∀ j : Nat, j < i → bt x (j : Int) = bt y (j : Int)) → pre x i = pre y i := by
  intro i
  induction i with
  | zero => intro _; rfl
  | succ i ih =>
    intro h
    rw [pre, pre, ih (fun j hj => h j (by omega)), h i (by omega)]
/-- the bytes' leading part is the number without its lower bytes -/
theorem pre_div (x : ByteArray) (i : Nat) : ∀ d, pre x (i + d) / 2 ^ (8 * d) = pre x i := by
  intro d
  induction d with
  | zero => simp
  | succ d ih =>
    have hb := bt_range x ((i + d : Nat) : Int)
    rw [← Nat.add_assoc, pre, show 8 * (d + 1) = 8 + 8 * d by omega, Int.pow_add, ← Int.ediv_ediv_of_nonneg (by decide)]
    rw [show (256 * pre x (i + d) + bt x ((i + d : Nat) : Int)) / 2 ^ 8 = pre x (i + d) by omega]
    exact ih

/-- the bytes of a number, the highest first -/
def beB (n : Int) (b : Nat) : List Int := (List.range b).map fun i => n / 2 ^ (8 * (b - 1 - i)) % 256
def beS (n : Int) (b : Nat) : ByteArray := strOfNums (beB n b)
theorem beS_size (n : Int) (b : Nat) : (beS n b).size = b := by simp [beS, strOfNums_size, beB]
theorem bt_beS (n : Int) (b i : Nat) (h : i < b) : bt (beS n b) (i : Int) = n / 2 ^ (8 * (b - 1 - i)) % 256 := by
  have e : (beB n b).getD i 0 = n / 2 ^ (8 * (b - 1 - i)) % 256 := by simp [beB, List.getD_eq_getElem?_getD, h]
  rw [beS, bt_nums _ _ (by simp [beB, h]) (by rw [e]; omega) (by rw [e]; omega), e]
theorem pre_beS (n : Int) (b : Nat) (h0 : 0 ≤ n) (h1 : n < 2 ^ (8 * b)) : ∀ i, i ≤ b → pre (beS n b) i = n / 2 ^ (8 * (b - i)) := by
  intro i
  induction i with
  | zero => intro _; rw [pre, Nat.sub_zero, Int.ediv_eq_zero_of_lt h0 h1]
  | succ i ih =>
    intro h
    rw [pre, ih (by omega), bt_beS _ _ _ (by omega), show 8 * (b - i) = 8 * (b - (i + 1)) + 8 by omega, show b - 1 - i = b - (i + 1) by omega, Int.pow_add, ← Int.ediv_ediv_of_nonneg (Int.le_of_lt (Int.pow_pos (by decide)))]
    omega
theorem pre_of (n : Int) (b : Nat) (h0 : 0 ≤ n) (h1 : n < 2 ^ (8 * b)) : pre (beS n b) b = n := by
  rw [pre_beS n b h0 h1 b (Nat.le_refl _)]; simp
theorem beS_pre (x : ByteArray) (b : Nat) (h : x.size = b) : beS (pre x b) b = x := by
  refine bytes_ext (by rw [beS_size, h]) (fun i hi => ?_)
  rw [beS_size] at hi
  rw [bt_beS _ _ _ hi]
  have e : pre x b / 2 ^ (8 * (b - 1 - i)) = pre x (i + 1) := by
    have := pre_div x (i + 1) (b - 1 - i)
    rw [show i + 1 + (b - 1 - i) = b by omega] at this
    exact this
  have := bt_range x (i : Int)
  rw [e, pre]; omega
theorem pre_app (n : Int) (b : Nat) (y : ByteArray) (h0 : 0 ≤ n) (h1 : n < 2 ^ (8 * b)) : pre (beS n b ++ y) b = n := by
  rw [← pre_of n b h0 h1, beS_pre _ _ (beS_size n b)]
  exact pre_congr _ _ _ (fun j hj => bt_left _ _ _ (by rw [beS_size]; exact hj))
theorem ex_app_left' (x y : ByteArray) (n : Nat) (h : x.size = n) : (x ++ y).extract 0 n = x := by subst h; exact ex_app_left x y
theorem ex_app_right' (x y : ByteArray) (n : Nat) (h : x.size = n) : (x ++ y).extract n (x ++ y).size = y := by subst h; exact ex_app_right x y
/-- a text's end from a place on -/
def suf (x : ByteArray) (a : Nat) : ByteArray := x.extract a x.size
theorem suf_size (x : ByteArray) (a : Nat) : (suf x a).size = x.size - a := by rw [suf, ByteArray.size_extract]; omega
theorem suf_zero (x : ByteArray) : suf x 0 = x := ex_all x
theorem suf_ex (x : ByteArray) (a c d : Nat) (h : a + d ≤ x.size) (hd : c ≤ d) : (suf x a).extract c d = x.extract (a + c) (a + d) := ex_ex x a x.size c d (Nat.le_refl _) h hd
theorem suf_suf (x : ByteArray) (a b : Nat) (h : a + b ≤ x.size) : (suf x a).extract b (suf x a).size = suf x (a + b) := by
  rw [suf_size, suf_ex x a b (x.size - a) (by omega) (by omega), show a + (x.size - a) = x.size by omega]; rfl
theorem pre_ex (x : ByteArray) (a n : Nat) (h : a + n ≤ x.size) : pre (x.extract a (a + n)) n = pre (suf x a) n := by
  refine pre_congr _ _ _ (fun j hj => ?_)
  rw [suf, bt_extract _ _ _ _ (by omega) h, bt_extract _ _ _ _ (by omega) (Nat.le_refl _)]
end Go.Proofs.Ytojmpdjbhplgkaa.Octs
