/- The one pure statement of the law LeastMerges, and how its arguments are opened. No condition. -/
import Derived.Test.YteendbdmkijpkaaPLeastMergesx8
import Derived.Test.YteendbdmkijpkaaOpen
import Derived.KernelRfl
namespace Go.Proofs.Yteendbdmkijpkaa.PLeastMerges
open Go Go.RowKit Go.Proofs.YteendbdmkijpkaaW.PrintWords Go.Proofs.Yteendbdmkijpkaa.Open
def rillmeterlaw11_LeastMerges.Pure : Prop := ∀ (a0_0 : Int) (a0_1 : Int) (l0_2 : List (List Int)) (a1_0 : Int) (a1_1 : Int) (l1_2 : List (List Int)), (Lit.int .u64 a0_0).wf = true → (Lit.int .i64 a0_1).wf = true → (l0_2.length ≤ maxLen ∧ ∀ y0 ∈ l0_2, (y0.length ≤ maxLen ∧ ∀ y1 ∈ y0, (Lit.int .i64 y1).wf = true)) → (Lit.int .u64 a1_0).wf = true → (Lit.int .i64 a1_1).wf = true → (l1_2.length ≤ maxLen ∧ ∀ y0 ∈ l1_2, (y0.length ≤ maxLen ∧ ∀ y1 ∈ y0, (Lit.int .i64 y1).wf = true)) → ∃ k, rillmeterlaw11_LeastMerges.f k a0_0 a0_1 l0_2 a1_0 a1_1 l1_2 = some true
end Go.Proofs.Yteendbdmkijpkaa.PLeastMerges
