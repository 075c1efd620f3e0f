/- The one pure statement of the law BloomKeeps, and how its arguments are opened. No condition. -/
import Derived.Test.YtmlcafnnhpfpaaaPBloomKeepsx7
import Derived.Test.YtmlcafnnhpfpaaaOpen
import Derived.KernelRfl
namespace Go.Proofs.Ytmlcafnnhpfpaaa.PBloomKeeps
open Go Go.RowKit Go.Proofs.YtmlcafnnhpfpaaaW.PrintWords Go.Proofs.Ytmlcafnnhpfpaaa.Open
def rillmeterlaw10_BloomKeeps.Pure : Prop := ∀ (a0 : Int) (a1 : Int) (a2 : Int) (l3 : List ByteArray) (l4 : List ByteArray), (Lit.int .u64 a0).wf = true → (Lit.int .i64 a1).wf = true → (Lit.int .i64 a2).wf = true → (l3.length ≤ maxLen ∧ ∀ y0 ∈ l3, y0.size ≤ maxLen) → (l4.length ≤ maxLen ∧ ∀ y0 ∈ l4, y0.size ≤ maxLen) → ∃ k, rillmeterlaw10_BloomKeeps.f k a0 a1 a2 l3 l4 = some true
end Go.Proofs.Ytmlcafnnhpfpaaa.PBloomKeeps
