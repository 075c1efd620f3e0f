/- The one pure statement of the law LeastOrder, and how its arguments are opened. No condition. -/
import Derived.Test.YteendbdmkijpkaaPLeastOrderx6
import Derived.Test.YteendbdmkijpkaaOpen
import Derived.KernelRfl
namespace Go.Proofs.Yteendbdmkijpkaa.PLeastOrder
open Go Go.RowKit Go.Proofs.YteendbdmkijpkaaW.PrintWords Go.Proofs.Yteendbdmkijpkaa.Open
def rillmeterlaw11_LeastOrder.Pure : Prop := ∀ (a0 : Int) (a1 : Int) (a2 : Int) (a3 : Int) (l4 : List S48) (l5 : List S48), (Lit.int .u64 a0).wf = true → (Lit.int .i64 a1).wf = true → (Lit.int .i64 a2).wf = true → (Lit.int .i64 a3).wf = true → (l4.length ≤ maxLen ∧ ∀ y0 ∈ l4, (y0.f0.size ≤ maxLen ∧ (Lit.int .i64 y0.f1).wf = true)) → (l5.length ≤ maxLen ∧ ∀ y0 ∈ l5, (y0.f0.size ≤ maxLen ∧ (Lit.int .i64 y0.f1).wf = true)) → ∃ k, rillmeterlaw11_LeastOrder.f k a0 a1 a2 a3 l4 l5 = some true
theorem opens_T48 {H : Type} {enc : TypeId × Value → H} {W : World} : Opens enc Try.prog W 48 k48 (fun x => (x.f0.size ≤ maxLen ∧ (Lit.int .i64 x.f1).wf = true)) := by
  intro fuel cs x h
  obtain ⟨hl, n, hf⟩ := fields_of Try.underlying48 h
  obtain ⟨c0, c1, rfl⟩ := list_2 (hl.trans (by kernel_rfl : Try.prog.cellsOf 48 = 2))
  obtain ⟨z0, e0⟩ := field_at hf 0 rfl (ty := 9) (off := 0) (sz := 1) rfl rfl (by kernel_rfl)
  obtain ⟨y0, k0_, o0⟩ := (opens_string Try.underlying9) n _ _ e0
  obtain ⟨z1, e1⟩ := field_at hf 1 rfl (ty := 3) (off := 1) (sz := 1) rfl rfl (by kernel_rfl)
  obtain ⟨y1, k1_, o1⟩ := (opens_int Try.underlying3) n _ _ e1
  exact ⟨⟨y0, y1⟩, ⟨_, _, rfl, k0_, k1_⟩, ⟨o0, o1⟩⟩
end Go.Proofs.Yteendbdmkijpkaa.PLeastOrder
