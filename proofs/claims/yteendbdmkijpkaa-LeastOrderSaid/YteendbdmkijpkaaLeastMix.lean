/- Two counters of the same kind summed cell by cell, in plain lists. The conditions stand in each lemma. -/
import Derived.Test.YteendbdmkijpkaaLeast
namespace Go.Proofs.Yteendbdmkijpkaa.LeastMix
open Go Go.RowKit Go.Proofs.YteendbdmkijpkaaW.PrintWords Go.Proofs.YteendbdmkijpkaaW.PrintMore Go.Proofs.Yteendbdmkijpkaa.Hash Go.Proofs.Yteendbdmkijpkaa.Least
set_option linter.unusedSimpArgs false
set_option linter.unusedVariables false

/-- the sum of two rows, cell by cell, none above the most -/
def sumRow (most : Int) (r q : List Int) : List Int := (List.range r.length).map (fun c => mn (r.getD c 0 + q.getD c 0) most)

def sumRows (most : Int) (a b : List (List Int)) : List (List Int) := (List.range a.length).map (fun i => sumRow most (a.getD i []) (b.getD i []))

theorem sumRow_length (most : Int) (r q : List Int) : (sumRow most r q).length = r.length := by simp [sumRow]

theorem sumRow_get (most : Int) (r q : List Int) (c : Nat) (h : c < r.length) : (sumRow most r q).getD c 0 = mn (r.getD c 0 + q.getD c 0) most := by
  simp [sumRow, List.getD_eq_getElem?_getD, h]

theorem sumRows_length (most : Int) (a b : List (List Int)) : (sumRows most a b).length = a.length := by simp [sumRows]

theorem sumRows_get (most : Int) (a b : List (List Int)) (i : Nat) (h : i < a.length) : (sumRows most a b).getD i [] = sumRow most (a.getD i []) (b.getD i []) := by
  simp [sumRows, List.getD_eq_getElem?_getD, h]

theorem sumRows_cols (most : Int) (a b : List (List Int)) (h : 1 ≤ a.length) : colsOf (sumRows most a b) = colsOf a := by
  unfold colsOf
  rw [sumRows_get most a b 0 (by omega), sumRow_length]

/-- two counters are of one kind -/
def alike (sa ma : Int) (a : List (List Int)) (sb mb : Int) (b : List (List Int)) : Prop := rightL ma a ∧ rightL mb b ∧ sa = sb ∧ ma = mb ∧ a.length = b.length ∧ colsOf a = colsOf b
instance (sa ma : Int) (a : List (List Int)) (sb mb : Int) (b : List (List Int)) : Decidable (alike sa ma a sb mb b) := by unfold alike; infer_instance

theorem sumRow_ok (most : Int) (cols : Nat) (r q : List Int) (h : rowOk most cols r) (g : rowOk most cols q) (hm : 0 ≤ most) : rowOk most cols (sumRow most r q) := by
  obtain ⟨h1, h2, h3, h4⟩ := h
  obtain ⟨g1, g2, g3, g4⟩ := g
  have hl := sumRow_length most r q
  refine ⟨by omega, by omega, by omega, fun x hx => ?_⟩
  unfold sumRow at hx
  obtain ⟨c, hc, rfl⟩ := List.mem_map.1 hx
  have hc2 := List.mem_range.1 hc
  have h5 := h4 _ (getD_num r c hc2)
  have g5 := g4 _ (getD_num q c (by omega))
  have := mn_le (r.getD c 0 + q.getD c 0) most
  omega

theorem sumRows_right (most : Int) (a b : List (List Int)) (h : rightL most a) (g : rightL most b) (hl : a.length = b.length) (hc : colsOf a = colsOf b) : rightL most (sumRows most a b) := by
  obtain ⟨h1, h2, h3, h4, h5⟩ := h
  obtain ⟨_, _, g3, g4, g5⟩ := g
  refine ⟨h1, h2, by rw [sumRows_length]; exact h3, by rw [sumRows_length]; exact h4, fun r hr => ?_⟩
  rw [sumRows_cols most a b h3]
  unfold sumRows at hr
  obtain ⟨i, hi, rfl⟩ := List.mem_map.1 hr
  have hi2 := List.mem_range.1 hi
  exact sumRow_ok most _ _ _ (h5 _ (getD_row a i hi2)) (by rw [hc]; exact g5 _ (getD_row b i (by omega))) (by omega)

theorem take_one {α : Type} (d : α) (l : List α) (j : Nat) (h : j < l.length) : l.take (j + 1) = l.take j ++ [l.getD j d] := by
  rw [List.take_add_one, List.getD_eq_getElem?_getD, List.getElem?_eq_getElem h]
  rfl

theorem ext_nums (a b : List Int) (h : a.length = b.length) (hg : ∀ j, j < a.length → a.getD j 0 = b.getD j 0) : a = b := by
  apply List.ext_getElem h
  intro i h1 h2
  have e := hg i h1
  simpa [List.getD_eq_getElem?_getD, h1, h2] using e

end Go.Proofs.Yteendbdmkijpkaa.LeastMix
