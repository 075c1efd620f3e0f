/- The one pure statement of the law SolveRanks, and how its arguments are opened. No condition. -/
import Derived.Test.YtoplnkbhgpamaaaPSolveRanksx12
import Derived.Test.YtoplnkbhgpamaaaOpen
import Derived.KernelRfl
namespace Go.Proofs.Ytoplnkbhgpamaaa.PSolveRanks
open Go Go.RowKit Go.Proofs.YtoplnkbhgpamaaaW.PrintWords Go.Proofs.Ytoplnkbhgpamaaa.Open
def rillmeterlaw03_SolveRanks.Pure : Prop := ∀ (l0 : List (List Int)), (l0.length ≤ maxLen ∧ ∀ y0 ∈ l0, (y0.length ≤ maxLen ∧ ∀ y1 ∈ y0, (Lit.int .u64 y1).wf = true)) → ∃ k, rillmeterlaw03_SolveRanks.f k l0 = some true
end Go.Proofs.Ytoplnkbhgpamaaa.PSolveRanks
