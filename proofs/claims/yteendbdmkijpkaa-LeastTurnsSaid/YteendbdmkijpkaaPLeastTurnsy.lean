/- The one pure statement of the law LeastTurns, and how its arguments are opened. No condition. -/
import Derived.Test.YteendbdmkijpkaaPLeastTurnsx11
import Derived.Test.YteendbdmkijpkaaOpen
import Derived.KernelRfl
namespace Go.Proofs.Yteendbdmkijpkaa.PLeastTurns
open Go Go.RowKit Go.Proofs.YteendbdmkijpkaaW.PrintWords Go.Proofs.Yteendbdmkijpkaa.Open
def rillmeterlaw11_LeastTurns.Pure : Prop := ∀ (a0_0 : Int) (a0_1 : Int) (l0_2 : List (List Int)) (a1 : ByteArray) (a2 : Int), (Lit.int .u64 a0_0).wf = true → (Lit.int .i64 a0_1).wf = true → (l0_2.length ≤ maxLen ∧ ∀ y0 ∈ l0_2, (y0.length ≤ maxLen ∧ ∀ y1 ∈ y0, (Lit.int .i64 y1).wf = true)) → a1.size ≤ 140737488351232 → (Lit.int .i64 a2).wf = true → ∃ k, rillmeterlaw11_LeastTurns.f k a0_0 a0_1 l0_2 a1 a2 = some true
end Go.Proofs.Yteendbdmkijpkaa.PLeastTurns
