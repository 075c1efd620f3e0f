/- The one pure statement of the law ElasticSeen, and how its arguments are opened. No condition. -/
import Derived.Test.YtljmjjeghebdpaaPElasticSeenx17
import Derived.Test.YtljmjjeghebdpaaOpen
import Derived.KernelRfl
namespace Go.Proofs.Ytljmjjeghebdpaa.PElasticSeen
open Go Go.RowKit Go.Proofs.YtljmjjeghebdpaaW.PrintWords Go.Proofs.Ytljmjjeghebdpaa.Open
def rillmeterlaw15_ElasticSeen.Pure : Prop := ∀ (a0_0 : Int) (a0_1 : Int) (a0_2 : Int) (a0_3 : Int) (a0_4 : Int) (a0_5 : Int) (l1 : List ByteArray) (a2 : Int), (Lit.int .u64 a0_0).wf = true → (Lit.int .i64 a0_1).wf = true → (Lit.int .i64 a0_2).wf = true → (Lit.int .i64 a0_3).wf = true → (Lit.int .i64 a0_4).wf = true → (Lit.int .i64 a0_5).wf = true → (l1.length ≤ maxLen ∧ ∀ y0 ∈ l1, y0.size ≤ maxLen) → (Lit.int .i64 a2).wf = true → ∃ k, rillmeterlaw15_ElasticSeen.f k a0_0 a0_1 a0_2 a0_3 a0_4 a0_5 l1 a2 = some true
end Go.Proofs.Ytljmjjeghebdpaa.PElasticSeen
