/- A state of a call's own beside the one that came in: what is kept; a field that is stored twice. Conditions stand in each lemma. -/
import Derived.Test.YtojmpdjbhplgkaaWMore
namespace Go.Proofs.Ytojmpdjbhplgkaa.Two
open Go Go.RowKit Go.Proofs.YtojmpdjbhplgkaaW.PrintWords

/-- what a block that is new since w loses nothing of w's own -/
theorem keep2 {w W W1 : World} {g g2 : Nat} (h : KeepBut w W g none) (hk : KeepBut W W1 g2 none) (hg : w.heap.size ≤ g2) : KeepBut w W1 g none :=
  ⟨Nat.le_trans h.1 hk.1, fun i hi hne hr => (hk.2 i (Nat.lt_of_lt_of_le hi h.1) (by omega) (by simp)).trans (h.2 i hi hne hr)⟩
/-- a field that is stored twice -/
theorem dup2 {w : World} {g : Nat} {u : Value} (h : w.cell? ⟨g, 2, none⟩ = some u) (a b s t : Value) : ((((w.setCell ⟨g, 0, none⟩ a).setCell ⟨g, 1, none⟩ b).setCell ⟨g, 2, none⟩ s).setCell ⟨g, 2, none⟩ t).cell? ⟨g, 2, none⟩ = some t := by
  have h1 : (w.setCell ⟨g, 0, none⟩ a).cell? ⟨g, 2, none⟩ = some u := (World.cell?_setCell_other w ⟨g, 0, none⟩ ⟨g, 2, none⟩ a (by simp)).trans h
  have h2 : ((w.setCell ⟨g, 0, none⟩ a).setCell ⟨g, 1, none⟩ b).cell? ⟨g, 2, none⟩ = some u := (World.cell?_setCell_other _ ⟨g, 1, none⟩ ⟨g, 2, none⟩ b (by simp)).trans h1
  have h3 : (((w.setCell ⟨g, 0, none⟩ a).setCell ⟨g, 1, none⟩ b).setCell ⟨g, 2, none⟩ s).cell? ⟨g, 2, none⟩ = some s := World.cell?_setCell_same' _ _ _ (by rw [h2]; rfl)
  exact World.cell?_setCell_same' _ _ _ (by rw [h3]; rfl)

end Go.Proofs.Ytojmpdjbhplgkaa.Two
