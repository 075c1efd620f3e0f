/- The one pure statement of the law BloomMerges, and how its arguments are opened. No condition. -/
import Derived.Test.YtmlcafnnhpfpaaaPBloomMergesx5
import Derived.Test.YtmlcafnnhpfpaaaOpen
import Derived.KernelRfl
namespace Go.Proofs.Ytmlcafnnhpfpaaa.PBloomMerges
open Go Go.RowKit Go.Proofs.YtmlcafnnhpfpaaaW.PrintWords Go.Proofs.Ytmlcafnnhpfpaaa.Open
def rillmeterlaw10_BloomMerges.Pure : Prop := ∀ (a0_0 : Int) (a0_1 : Int) (l0_2 : List Bool) (a1_0 : Int) (a1_1 : Int) (l1_2 : List Bool), (Lit.int .u64 a0_0).wf = true → (Lit.int .i64 a0_1).wf = true → (l0_2.length ≤ maxLen ∧ ∀ y0 ∈ l0_2, True) → (Lit.int .u64 a1_0).wf = true → (Lit.int .i64 a1_1).wf = true → (l1_2.length ≤ maxLen ∧ ∀ y0 ∈ l1_2, True) → ∃ k, rillmeterlaw10_BloomMerges.f k a0_0 a0_1 l0_2 a1_0 a1_1 l1_2 = some true
end Go.Proofs.Ytmlcafnnhpfpaaa.PBloomMerges
