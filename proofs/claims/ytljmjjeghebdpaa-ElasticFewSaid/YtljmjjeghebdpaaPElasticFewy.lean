/- The one pure statement of the law ElasticFew, and how its arguments are opened. No condition. -/
import Derived.Test.YtljmjjeghebdpaaPElasticFewx13
import Derived.Test.YtljmjjeghebdpaaOpen
import Derived.KernelRfl
namespace Go.Proofs.Ytljmjjeghebdpaa.PElasticFew
open Go Go.RowKit Go.Proofs.YtljmjjeghebdpaaW.PrintWords Go.Proofs.Ytljmjjeghebdpaa.Open
def rillmeterlaw15_ElasticFew.Pure : Prop := ∀ (a0_0 : Int) (a0_1 : Int) (a0_2 : Int) (a0_3 : Int) (a0_4 : Int) (a0_5 : Int) (l1 : List ByteArray), (Lit.int .u64 a0_0).wf = true → (Lit.int .i64 a0_1).wf = true → (Lit.int .i64 a0_2).wf = true → (Lit.int .i64 a0_3).wf = true → (Lit.int .i64 a0_4).wf = true → (Lit.int .i64 a0_5).wf = true → (l1.length ≤ maxLen ∧ ∀ y0 ∈ l1, y0.size ≤ maxLen) → ∃ k, rillmeterlaw15_ElasticFew.f k a0_0 a0_1 a0_2 a0_3 a0_4 a0_5 l1 = some true
end Go.Proofs.Ytljmjjeghebdpaa.PElasticFew
