/- The numbers modulo the prime are a field; rows of such numbers. -/
import Derived.Test.YtoplnkbhgpamaaaNum
import Derived.Test.YtoplnkbhgpamaaaLinNum
import Derived.Test.YtoplnkbhgpamaaaEvs
import Derived.Test.YtoplnkbhgpamaaaWMore
namespace Go.Proofs.Ytoplnkbhgpamaaa.LinField
open Go Go.RowKit Go.Proofs.YtoplnkbhgpamaaaW.PrintWords Go.Proofs.Ytoplnkbhgpamaaa.Lin Go.Proofs.Ytoplnkbhgpamaaa.Num Go.Proofs.Ytoplnkbhgpamaaa.Evs
set_option linter.unusedSimpArgs false
set_option linter.unusedVariables false

theorem field_of {n : Nat} [NeZero n] (hn : (n : Int) = 2305843009213693951) : Fld n := by
  have one : (1 : Fin n) ≠ 0 := by
    rw [← fi_one, ← fi_zero]
    intro h
    have h2 := fi_eq.1 h
    rw [hn] at h2
    omega
  refine ⟨one, fun a ha => ?_⟩
  obtain ⟨x, x0, x1, rfl⟩ := fi_surj a
  obtain ⟨e, he⟩ : ∃ e : Nat, e = 2305843009213693949 := ⟨_, rfl⟩
  have h1 : x % 2305843009213693951 ≠ 0 := by
    intro h
    exact ha (fi_eq_zero.2 (by rw [hn]; exact h))
  have h2 := inverse_int x e he x0 h1
  refine ⟨fi (x ^ e % 2305843009213693951), ?_⟩
  rw [← fi_mul, ← fi_one, fi_eq, hn, h2]
  omega

theorem field_is : ∃ n : Nat, ∃ _ : NeZero n, (n : Int) = 2305843009213693951 ∧ Fld n := by
  refine ⟨2305843009213693951, ⟨by decide⟩, rfl, ?_⟩
  exact @field_of _ ⟨by decide⟩ rfl

/-- rows of w numbers, each modulo the prime -/
def RowsP (w : Nat) (m : List (List Int)) : Prop := ∀ r ∈ m, r.length = w ∧ ∀ x ∈ r, 0 ≤ x ∧ x < 2305843009213693951

theorem rd_nat (xs : List Int) (j : Nat) : rd xs (j : Int) = xs.getD j 0 := by unfold rd; rw [Int.toNat_natCast]

theorem getD_mem {α : Type} (d : α) (l : List α) (i : Nat) (h : i < l.length) : l.getD i d ∈ l := by
  rw [List.getD_eq_getElem?_getD, List.getElem?_eq_getElem h]
  exact List.getElem_mem h

theorem RowsP.len {w : Nat} {m : List (List Int)} (h : RowsP w m) (i : Nat) (hi : i < m.length) : (m.getD i []).length = w := (h _ (getD_mem [] m i hi)).1
theorem RowsP.num {w : Nat} {m : List (List Int)} (h : RowsP w m) (i j : Nat) (hi : i < m.length) (hj : j < w) : 0 ≤ (m.getD i []).getD j 0 ∧ (m.getD i []).getD j 0 < 2305843009213693951 :=
  (h _ (getD_mem [] m i hi)).2 _ (getD_mem 0 _ j (by rw [h.len i hi]; exact hj))

theorem set_getD_self {α : Type} (d : α) (l : List α) (i : Nat) (v : α) (h : i < l.length) : (l.set i v).getD i d = v := by
  rw [List.getD_eq_getElem?_getD, List.getElem?_set_self h]; rfl
theorem set_getD_ne {α : Type} (d : α) (l : List α) (i j : Nat) (v : α) (h : i ≠ j) : (l.set i v).getD j d = l.getD j d := by
  rw [List.getD_eq_getElem?_getD, List.getElem?_set_ne h, ← List.getD_eq_getElem?_getD]

theorem RowsP.set {w : Nat} {m : List (List Int)} (h : RowsP w m) (i : Nat) (r : List Int) (hr : r.length = w ∧ ∀ x ∈ r, 0 ≤ x ∧ x < 2305843009213693951) : RowsP w (m.set i r) := by
  intro q hq
  rcases List.mem_or_eq_of_mem_set hq with h1 | h1
  · exact h q h1
  · rw [h1]; exact hr

theorem RowsP.mapIdx {w : Nat} {m : List (List Int)} (h : RowsP w m) (g : Nat → List Int → List Int) (hg : ∀ i, i < m.length → (g i (m.getD i [])).length = w ∧ ∀ x ∈ g i (m.getD i []), 0 ≤ x ∧ x < 2305843009213693951) : RowsP w (m.mapIdx g) := by
  intro q hq
  obtain ⟨i, hi⟩ := List.mem_iff_getElem?.1 hq
  rw [List.getElem?_mapIdx] at hi
  obtain ⟨x, hx, rfl⟩ := Option.map_eq_some_iff.1 hi
  have hl := (List.getElem?_eq_some_iff.1 hx).1
  rw [← getD_of [] m i x hx]
  exact hg i hl

/-- row k times a number -/
def normR (v : Int) (r : List Int) : List Int := r.mapIdx fun _ x => x * v % 2305843009213693951
/-- a row without f times another -/
def elimR (f : Int) (b r : List Int) : List Int := r.mapIdx fun j x => (x - f * b.getD j 0 % 2305843009213693951) % 2305843009213693951
/-- each other row without so much of row k that it has nought at c -/
def elimG (k c : Nat) (b : List Int) (r : Nat) (row : List Int) : List Int := if r = k then row else if row.getD c 0 = 0 then row else elimR (row.getD c 0) b row

theorem mod_ok (x : Int) : 0 ≤ x % 2305843009213693951 ∧ x % 2305843009213693951 < 2305843009213693951 := by omega

theorem normR_ok (v : Int) (r : List Int) : (normR v r).length = r.length ∧ ∀ x ∈ normR v r, 0 ≤ x ∧ x < 2305843009213693951 := by
  refine ⟨by simp [normR], fun x hx => ?_⟩
  obtain ⟨i, hi⟩ := List.mem_iff_getElem?.1 hx
  unfold normR at hi
  rw [List.getElem?_mapIdx] at hi
  obtain ⟨y, _, rfl⟩ := Option.map_eq_some_iff.1 hi
  exact mod_ok _
theorem elimR_ok (f : Int) (b r : List Int) : (elimR f b r).length = r.length ∧ ∀ x ∈ elimR f b r, 0 ≤ x ∧ x < 2305843009213693951 := by
  refine ⟨by simp [elimR], fun x hx => ?_⟩
  obtain ⟨i, hi⟩ := List.mem_iff_getElem?.1 hx
  unfold elimR at hi
  rw [List.getElem?_mapIdx] at hi
  obtain ⟨y, _, rfl⟩ := Option.map_eq_some_iff.1 hi
  exact mod_ok _

section
variable {n : Nat} [NeZero n] (hn : (n : Int) = 2305843009213693951)
include hn

theorem fi_P (a : Int) : (fi (a % 2305843009213693951) : Fin n) = fi a := by rw [← hn]; exact fi_mod a

theorem vec_norm (v : Int) (r : List Int) (j : Nat) : (vec (normR v r) : Vec n) j = fi v * vec r j := by
  by_cases h : j < r.length
  · unfold normR
    rw [vec_mapIdx _ _ _ h, fi_P hn, fi_mul]
    show _ * _ = _ * fi (r.getD j 0)
    grind
  · rw [vec_far _ _ (by rw [(normR_ok v r).1]; omega), vec_far _ _ (by omega)]; grind

theorem vec_elim (f : Int) (b r : List Int) (hl : b.length ≤ r.length) (j : Nat) : (vec (elimR f b r) : Vec n) j = vec r j - fi f * vec b j := by
  by_cases h : j < r.length
  · unfold elimR
    rw [vec_mapIdx _ _ _ h, fi_P hn, fi_sub, fi_P hn, fi_mul]
    rfl
  · rw [vec_far _ _ (by rw [(elimR_ok f b r).1]; omega), vec_far _ _ (by omega), vec_far b _ (by omega)]; grind

theorem vec_zero_iff (r : List Int) (j : Nat) (h : 0 ≤ r.getD j 0 ∧ r.getD j 0 < 2305843009213693951) : (vec r : Vec n) j = 0 ↔ r.getD j 0 = 0 := by
  unfold vec
  rw [fi_eq_zero, hn]
  omega

/-- one column done: what the loops do to the rows -/
theorem clear_step (F : Fld n) {L : List (Vec n)} {m : List (List Int)} {w : Nat} (hm : RowsP w m) {qs : List Nat} {c p : Nat} (h : Clear L (m.map vec) qs c) (hc : c < w)
    (hp : qs.length ≤ p) (hpl : p < m.length) (hv : (m.getD p []).getD c 0 ≠ 0) (v : Int) (hinv : (m.getD p []).getD c 0 * v % 2305843009213693951 = 1) {b : List Int} (hb : b = normR v (m.getD p []))
    {m2 : List (List Int)} (hm2 : m2 = ((m.set qs.length (m.getD p [])).set p (m.getD qs.length [])).set qs.length b) :
    Clear L ((m2.mapIdx (elimG qs.length c b)).map vec) (qs ++ [c]) (c + 1) ∧ RowsP w (m2.mapIdx (elimG qs.length c b)) ∧ m2.length = m.length := by
  have hkl : qs.length < m.length := by omega
  have hbl : b.length = w := by rw [hb, (normR_ok _ _).1, hm.len p hpl]
  have hb_ok : b.length = w ∧ ∀ x ∈ b, 0 ≤ x ∧ x < 2305843009213693951 := ⟨hbl, by rw [hb]; exact (normR_ok _ _).2⟩
  have rowP : ∀ i, i < m.length → (m.getD i []).length = w ∧ ∀ x ∈ m.getD i [], 0 ≤ x ∧ x < 2305843009213693951 := fun i hi => hm _ (getD_mem [] m i hi)
  have hm2r : RowsP w m2 := by rw [hm2]; exact ((hm.set _ _ (rowP p hpl)).set _ _ (rowP _ hkl)).set _ _ hb_ok
  have hl2 : m2.length = m.length := by rw [hm2]; simp
  -- the rows of m2
  have row2 : ∀ r, r < m.length → r ≠ qs.length → m2.getD r [] = if r = p then m.getD qs.length [] else m.getD r [] := by
    intro r hr hrk
    rw [hm2, set_getD_ne [] _ _ _ _ (Ne.symm hrk)]
    by_cases e : r = p
    · subst e
      rw [if_pos rfl, set_getD_self [] _ _ _ (by simp; omega)]
    · rw [if_neg e, set_getD_ne [] _ _ _ _ (Ne.symm e), set_getD_ne [] _ _ _ _ (Ne.symm hrk)]
  have rowk : m2.getD qs.length [] = b := by rw [hm2, set_getD_self [] _ _ _ (by simp; omega)]
  have okG : ∀ i, i < m2.length → (elimG qs.length c b i (m2.getD i [])).length = w ∧ ∀ x ∈ elimG qs.length c b i (m2.getD i []), 0 ≤ x ∧ x < 2305843009213693951 := by
    intro i hi
    have h1 := hm2r _ (getD_mem [] m2 i hi)
    unfold elimG
    split
    · exact h1
    · split
      · exact h1
      · exact ⟨by rw [(elimR_ok _ _ _).1]; exact h1.1, (elimR_ok _ _ _).2⟩
  have getv : ∀ (l : List (List Int)) (i : Nat) (v : Vec n), (l.map vec)[i]? = some v ↔ i < l.length ∧ v = vec (l.getD i []) := by
    intro l i v
    rw [List.getElem?_map]
    constructor
    · intro h
      obtain ⟨x, hx, rfl⟩ := Option.map_eq_some_iff.1 h
      exact ⟨(List.getElem?_eq_some_iff.1 hx).1, by rw [getD_of [] l i x hx]⟩
    · rintro ⟨hl, rfl⟩
      rw [getD_some [] l i hl]; rfl
  have getG : ∀ i, i < m2.length → (m2.mapIdx (elimG qs.length c b)).getD i [] = elimG qs.length c b i (m2.getD i []) := by
    intro i hi
    rw [List.getD_eq_getElem?_getD, List.getElem?_mapIdx, getD_some [] m2 i hi]; rfl
  refine ⟨?_, hm2r.mapIdx _ okG, hl2⟩
  refine h.some (p := p) (w := vec (m.getD p [])) (b := vec b) (a := fi ((m.getD p []).getD c 0)) (a' := fi v) hp ?_ ?_ rfl ?_ (by simp [hl2]) ?_ ?_
  · exact (getv m p _).2 ⟨hpl, rfl⟩
  · rw [← fi_mul, ← fi_one, fi_eq, hn, hinv]; omega
  · intro j; rw [hb]; exact vec_norm hn v _ j
  · refine (getv _ _ _).2 ⟨by simp [hl2]; omega, ?_⟩
    rw [getG _ (by omega), rowk]
    unfold elimG
    rw [if_pos rfl]
  · intro r u hrk hu
    have hu2 : r < m.length ∧ u = vec (m2.getD r []) := by
      split at hu
      · rename_i e
        obtain ⟨_, rfl⟩ := (getv _ _ _).1 hu
        exact ⟨by omega, by rw [row2 r (by omega) hrk, if_pos e]⟩
      · rename_i e
        obtain ⟨h1, rfl⟩ := (getv _ _ _).1 hu
        have h1' : r < m.length := h1
        exact ⟨h1', by rw [row2 r h1' hrk, if_neg e]⟩
    obtain ⟨hr, rfl⟩ := hu2
    refine (getv _ _ _).2 ⟨by simp [hl2]; exact hr, ?_⟩
    rw [getG r (by omega)]
    have hrl : (m2.getD r []).length = w := hm2r.len r (by omega)
    unfold elimG
    rw [if_neg hrk]
    by_cases e : (m2.getD r []).getD c 0 = 0
    · rw [if_pos e]
      funext j
      have : (vec (m2.getD r []) : Vec n) c = 0 := by unfold vec; rw [e]; exact fi_zero
      rw [this]; grind
    · rw [if_neg e]
      funext j
      rw [vec_elim hn _ _ _ (by omega) j]
      rfl

end

/-- rows all of one length, and not too many -/
def evenL (l : List (List Int)) : Prop := l.length ≤ 32 ∧ ∀ r ∈ l, r.length = (l.getD 0 []).length ∧ r.length ≤ 32
instance (l : List (List Int)) : Decidable (evenL l) := by unfold evenL; infer_instance

def numsL (l : List (List Int)) : Prop := ∀ r ∈ l, ∀ x ∈ r, 0 ≤ x ∧ x < 18446744073709551616

/-- the sum of the first j products -/
def dotN (r x : List Int) : Nat → Int
  | 0 => 0
  | j + 1 => (dotN r x j + r.getD j 0 * x.getD j 0 % 2305843009213693951) % 2305843009213693951

theorem dotN_ok (r x : List Int) (j : Nat) : 0 ≤ dotN r x j ∧ dotN r x j < 2305843009213693951 := by
  cases j with
  | zero => exact ⟨Int.le_refl _, by show (0 : Int) < 2305843009213693951; decide⟩
  | succ j => exact mod_ok _

def dotV {n : Nat} [NeZero n] (v x : Vec n) : Nat → Fin n
  | 0 => 0
  | j + 1 => dotV v x j + v j * x j

theorem fi_dot {n : Nat} [NeZero n] (hn : (n : Int) = 2305843009213693951) (r x : List Int) : ∀ j, (fi (dotN r x j) : Fin n) = dotV (vec r) (vec x) j := by
  intro j
  induction j with
  | zero => exact fi_zero
  | succ j ih =>
    show fi ((dotN r x j + r.getD j 0 * x.getD j 0 % 2305843009213693951) % 2305843009213693951) = dotV (vec r) (vec x) j + vec r j * vec x j
    rw [fi_P hn, fi_add, fi_P hn, fi_mul, ih]
    rfl

theorem getD_nat {α : Type} (d : α) (l : List α) (j : Nat) (P : α → Prop) (h : ∀ x ∈ l, P x) (h0 : P d) : P (l.getD j d) := by
  by_cases hj : j < l.length
  · exact h _ (getD_mem d l j hj)
  · rw [List.getD_eq_getElem?_getD, List.getElem?_eq_none (by omega)]; exact h0

end Go.Proofs.Ytoplnkbhgpamaaa.LinField
