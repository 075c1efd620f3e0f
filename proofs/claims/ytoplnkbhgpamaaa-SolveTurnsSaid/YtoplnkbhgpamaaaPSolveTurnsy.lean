/- The one pure statement of the law SolveTurns, and how its arguments are opened. No condition. -/
import Derived.Test.YtoplnkbhgpamaaaPSolveTurnsx7
import Derived.Test.YtoplnkbhgpamaaaOpen
import Derived.KernelRfl
namespace Go.Proofs.Ytoplnkbhgpamaaa.PSolveTurns
open Go Go.RowKit Go.Proofs.YtoplnkbhgpamaaaW.PrintWords Go.Proofs.Ytoplnkbhgpamaaa.Open
def rillmeterlaw03_SolveTurns.Pure : Prop := ∀ (l0 : List (List Int)) (l1 : List Int), (l0.length ≤ maxLen ∧ ∀ y0 ∈ l0, (y0.length ≤ maxLen ∧ ∀ y1 ∈ y0, (Lit.int .u64 y1).wf = true)) → (l1.length ≤ maxLen ∧ ∀ y0 ∈ l1, (Lit.int .u64 y0).wf = true) → ∃ k, rillmeterlaw03_SolveTurns.f k l0 l1 = some true
end Go.Proofs.Ytoplnkbhgpamaaa.PSolveTurns
