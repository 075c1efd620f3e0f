/- The one pure statement of the law BloomTurns, and how its arguments are opened. No condition. -/
import Derived.Test.YtmlcafnnhpfpaaaPBloomTurnsx6
import Derived.Test.YtmlcafnnhpfpaaaOpen
import Derived.KernelRfl
namespace Go.Proofs.Ytmlcafnnhpfpaaa.PBloomTurns
open Go Go.RowKit Go.Proofs.YtmlcafnnhpfpaaaW.PrintWords Go.Proofs.Ytmlcafnnhpfpaaa.Open
def rillmeterlaw10_BloomTurns.Pure : Prop := ∀ (a0_0 : Int) (a0_1 : Int) (l0_2 : List Bool) (a1 : ByteArray), (Lit.int .u64 a0_0).wf = true → (Lit.int .i64 a0_1).wf = true → (l0_2.length ≤ maxLen ∧ ∀ y0 ∈ l0_2, True) → a1.size ≤ 140737488351232 → ∃ k, rillmeterlaw10_BloomTurns.f k a0_0 a0_1 l0_2 a1 = some true
end Go.Proofs.Ytmlcafnnhpfpaaa.PBloomTurns
