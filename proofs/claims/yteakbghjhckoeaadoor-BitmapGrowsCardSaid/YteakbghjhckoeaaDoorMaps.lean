/- Rows of bits in plain lists: a bit set, what is set, the sum over the rows that tells how many there were. The conditions stand in each lemma. -/
import Derived.Test.YteakbghjhckoeaaDoorWMore
import Derived.Test.YteakbghjhckoeaaDoorHash
namespace Go.Proofs.YteakbghjhckoeaaDoor.Maps
open Go Go.RowKit Go.Proofs.YteakbghjhckoeaaDoorW.PrintWords Go.Proofs.YteakbghjhckoeaaDoorW.PrintMore Go.Proofs.YteakbghjhckoeaaDoor.Hash
set_option linter.unusedSimpArgs false
set_option linter.unusedVariables false

def colsB (rows : List (List Bool)) : Nat := (rows.getD 0 []).length
def rowOkB (cols : Nat) (r : List Bool) : Prop := 1 ≤ r.length ∧ r.length ≤ 256 ∧ r.length = cols
def rightB (rows : List (List Bool)) : Prop := 1 ≤ rows.length ∧ rows.length ≤ 16 ∧ ∀ r ∈ rows, rowOkB (colsB rows) r
instance (cols : Nat) (r : List Bool) : Decidable (rowOkB cols r) := by unfold rowOkB; infer_instance
instance (rows : List (List Bool)) : Decidable (rightB rows) := by unfold rightB; infer_instance

theorem and3 {a b c : Prop} [Decidable a] [Decidable b] [Decidable c] [Decidable (a ∧ b ∧ c)] : (decide a && (decide b && decide c)) = decide (a ∧ b ∧ c) := by
  by_cases ha : a <;> by_cases hb : b <;> by_cases hc : c <;> simp [ha, hb, hc]

def bit (rows : List (List Bool)) (i c : Nat) : Bool := (rows.getD i []).getD c false

theorem rowB_mem (rows : List (List Bool)) (j : Nat) (h : j < rows.length) : rows.getD j [] ∈ rows := by
  rw [List.getD_eq_getElem?_getD, List.getElem?_eq_getElem h]
  exact List.getElem_mem h

theorem rowB_set (l : List (List Bool)) (i j : Nat) (v : List Bool) (h : i < l.length) : (l.set i v).getD j [] = if i = j then v else l.getD j [] := by
  by_cases e : i = j
  · subst e
    rw [if_pos rfl, List.getD_eq_getElem?_getD, List.getElem?_set_self h]
    rfl
  · rw [if_neg e, List.getD_eq_getElem?_getD, List.getElem?_set_ne e, ← List.getD_eq_getElem?_getD]

theorem bitB_set (l : List Bool) (i j : Nat) (v : Bool) (h : i < l.length) : (l.set i v).getD j false = if i = j then v else l.getD j false := by
  by_cases e : i = j
  · subst e
    rw [if_pos rfl, List.getD_eq_getElem?_getD, List.getElem?_set_self h]
    rfl
  · rw [if_neg e, List.getD_eq_getElem?_getD, List.getElem?_set_ne e, ← List.getD_eq_getElem?_getD]

theorem ext_rowsB (a b : List (List Bool)) (h : a.length = b.length) (hg : ∀ j, j < a.length → a.getD j [] = b.getD j []) : a = b := by
  apply List.ext_getElem h
  intro i h1 h2
  have e := hg i h1
  simpa [List.getD_eq_getElem?_getD, h1, h2] using e

theorem ext_bits (a b : List Bool) (h : a.length = b.length) (hg : ∀ j, j < a.length → a.getD j false = b.getD j false) : a = b := by
  apply List.ext_getElem h
  intro i h1 h2
  have e := hg i h1
  simpa [List.getD_eq_getElem?_getD, h1, h2] using e

theorem takeB {α : Type} (d : α) (l : List α) (j : Nat) (h : j < l.length) : l.take (j + 1) = l.take j ++ [l.getD j d] := by
  rw [List.take_add_one, List.getD_eq_getElem?_getD, List.getElem?_eq_getElem h]
  rfl

/-- with one bit set -/
def setB (rows : List (List Bool)) (i c : Nat) : List (List Bool) := rows.set i ((rows.getD i []).set c true)

theorem setB_length (rows : List (List Bool)) (i c : Nat) : (setB rows i c).length = rows.length := by simp [setB]

theorem setB_row (rows : List (List Bool)) (i c j : Nat) (h : i < rows.length) : ((setB rows i c).getD j []).length = (rows.getD j []).length := by
  unfold setB
  rw [rowB_set rows i j _ h]
  by_cases e : i = j
  · rw [if_pos e, List.length_set, e]
  · rw [if_neg e]

theorem setB_bit (rows : List (List Bool)) (i c j d : Nat) (h : i < rows.length) (hc : c < (rows.getD i []).length) : bit (setB rows i c) j d = (bit rows j d || decide (j = i ∧ d = c)) := by
  unfold bit setB
  rw [rowB_set rows i j _ h]
  by_cases e : i = j
  · subst e
    rw [if_pos rfl, bitB_set _ c d _ hc]
    by_cases e2 : c = d
    · rw [if_pos e2]; simp [e2]
    · rw [if_neg e2]
      have : ¬ (i = i ∧ d = c) := fun o => e2 o.2.symm
      rw [decide_eq_false this, Bool.or_false]
  · rw [if_neg e]
    have : ¬ (j = i ∧ d = c) := fun o => e o.1.symm
    rw [decide_eq_false this, Bool.or_false]

/-- alike in shapeB -/
def shapeB (a b : List (List Bool)) : Prop := a.length = b.length ∧ ∀ j, (a.getD j []).length = (b.getD j []).length

theorem shapeB_refl (a : List (List Bool)) : shapeB a a := ⟨rfl, fun _ => rfl⟩
theorem shapeB_symm {a b : List (List Bool)} (h : shapeB a b) : shapeB b a := ⟨h.1.symm, fun j => (h.2 j).symm⟩
theorem shapeB_trans {a b c : List (List Bool)} (h : shapeB a b) (g : shapeB b c) : shapeB a c := ⟨h.1.trans g.1, fun j => (h.2 j).trans (g.2 j)⟩
theorem shapeB_set (rows : List (List Bool)) (i c : Nat) (h : i < rows.length) : shapeB (setB rows i c) rows := ⟨setB_length rows i c, fun j => setB_row rows i c j h⟩

theorem shapeB_ext (a b : List (List Bool)) (h : shapeB a b) (hb : ∀ i c, bit a i c = bit b i c) : a = b :=
  ext_rowsB a b h.1 (fun j _ => ext_bits _ _ (h.2 j) (fun c _ => hb j c))

theorem shapeB_right {a b : List (List Bool)} (h : shapeB a b) (r : rightB b) : rightB a := by
  obtain ⟨r1, r2, r3⟩ := r
  refine ⟨by rw [h.1]; exact r1, by rw [h.1]; exact r2, fun x hx => ?_⟩
  obtain ⟨j, hj, rfl⟩ := List.mem_iff_getElem.1 hx
  have e : a[j] = a.getD j [] := by rw [List.getD_eq_getElem?_getD, List.getElem?_eq_getElem hj]; rfl
  have hr := r3 _ (rowB_mem b j (by rw [← h.1]; exact hj))
  have h0 : colsB a = colsB b := h.2 0
  rw [e, h0]
  have hl := h.2 j
  exact ⟨by rw [hl]; exact hr.1, by rw [hl]; exact hr.2.1, by rw [hl]; exact hr.2.2⟩

/- how many bits are set, and the sum over a row -/
def cnt : List Bool → Nat
  | [] => 0
  | x :: t => (if x = true then 1 else 0) + cnt t

theorem cnt_append (a b : List Bool) : cnt (a ++ b) = cnt a + cnt b := by
  induction a with
  | nil => simp [cnt]
  | cons x t ih => simp only [List.cons_append, cnt, ih]; omega

theorem cnt_le (a : List Bool) : cnt a ≤ a.length := by
  induction a with
  | nil => exact Nat.le_refl _
  | cons x t ih => simp only [cnt, List.length_cons]; split <;> omega

theorem cnt_take (l : List Bool) (j : Nat) (h : j < l.length) : cnt (l.take (j + 1)) = cnt (l.take j) + (if l.getD j false = true then 1 else 0) := by
  rw [takeB false l j h, cnt_append]
  simp [cnt]

def partB (b : Nat) : Nat → Int
  | 0 => 0
  | t + 1 => partB b t + (b : Int) * 65536 / ((b - t : Nat) : Int)

theorem partB_term (b t : Nat) (hb : b ≤ 256) (h : t < b) : 65536 ≤ (b : Int) * 65536 / ((b - t : Nat) : Int) ∧ (b : Int) * 65536 / ((b - t : Nat) : Int) ≤ 16777216 := by
  have h1 : (0 : Int) < ((b - t : Nat) : Int) := by omega
  constructor
  · rw [Int.le_ediv_iff_mul_le h1]
    omega
  · have h2 : (b : Int) * 65536 / ((b - t : Nat) : Int) ≤ (b : Int) * 65536 := Int.ediv_le_self _ (by omega)
    omega

theorem partB_range (b : Nat) (hb : b ≤ 256) : ∀ t, t ≤ b → (t : Int) * 65536 ≤ partB b t ∧ partB b t ≤ (t : Int) * 16777216 := by
  intro t
  induction t with
  | zero => intro _; simp [partB]
  | succ t ih =>
    intro h
    have hi := ih (by omega)
    have ht := partB_term b t hb (by omega)
    simp only [partB]
    omega

theorem partB_mono (b : Nat) (hb : b ≤ 256) (t : Nat) : ∀ d, t + d ≤ b → partB b t ≤ partB b (t + d) := by
  intro d
  induction d with
  | zero => intro _; exact Int.le_refl _
  | succ d ih =>
    intro h
    have hi := ih (by omega)
    have ht := partB_term b (t + d) hb (by omega)
    show partB b t ≤ partB b (t + d) + (b : Int) * 65536 / ((b - (t + d) : Nat) : Int)
    omega

def estRow (r : List Bool) : Int := partB r.length (cnt r)
def est : List (List Bool) → Int
  | [] => 0
  | r :: t => estRow r + est t

theorem estRow_range (r : List Bool) (h : r.length ≤ 256) : 0 ≤ estRow r ∧ estRow r ≤ 4294967296 := by
  have hc := cnt_le r
  have hp := partB_range r.length h (cnt r) hc
  unfold estRow
  omega

theorem est_range (rows : List (List Bool)) (h : ∀ r ∈ rows, r.length ≤ 256) : 0 ≤ est rows ∧ est rows ≤ (rows.length : Int) * 4294967296 := by
  induction rows with
  | nil => simp [est]
  | cons r t ih =>
    have h1 := estRow_range r (h r (List.mem_cons_self ..))
    have h2 := ih (fun x hx => h x (List.mem_cons_of_mem _ hx))
    simp only [est, List.length_cons]
    omega

end Go.Proofs.YteakbghjhckoeaaDoor.Maps
