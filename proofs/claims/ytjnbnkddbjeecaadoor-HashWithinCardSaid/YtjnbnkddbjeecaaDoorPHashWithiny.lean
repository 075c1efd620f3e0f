/- The one pure statement of the law HashWithin, and how its arguments are opened. No condition. -/
import Derived.Test.YtjnbnkddbjeecaaDoorPHashWithinx2
import Derived.Test.YtjnbnkddbjeecaaDoorOpen
import Derived.KernelRfl
namespace Go.Proofs.YtjnbnkddbjeecaaDoor.PHashWithin
open Go Go.RowKit Go.Proofs.YtjnbnkddbjeecaaDoorW.PrintWords Go.Proofs.YtjnbnkddbjeecaaDoor.Open
def rillmeterlaw02_HashWithin.Pure : Prop := ∀ (a0 : Int) (a1 : ByteArray) (a2 : Int) (a3 : Int), (Lit.int .u64 a0).wf = true → a1.size ≤ 140737488351232 → (Lit.int .i64 a2).wf = true → (Lit.int .i64 a3).wf = true → ∃ k, rillmeterlaw02_HashWithin.f k a0 a1 a2 a3 = some true
end Go.Proofs.YtjnbnkddbjeecaaDoor.PHashWithin
