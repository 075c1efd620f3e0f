/- The one pure statement of the law BitmapSets, and how its arguments are opened. No condition. -/
import Derived.Test.YteakbghjhckoeaaDoorPBitmapSetsx4
import Derived.Test.YteakbghjhckoeaaDoorOpen
import Derived.KernelRfl
namespace Go.Proofs.YteakbghjhckoeaaDoor.PBitmapSets
open Go Go.RowKit Go.Proofs.YteakbghjhckoeaaDoorW.PrintWords Go.Proofs.YteakbghjhckoeaaDoor.Open
def rillmeterlaw13_BitmapSets.Pure : Prop := ∀ (a0 : Int) (a1 : Int) (a2 : Int) (l3 : List ByteArray), (Lit.int .u64 a0).wf = true → (Lit.int .i64 a1).wf = true → (Lit.int .i64 a2).wf = true → (l3.length ≤ maxLen ∧ ∀ y0 ∈ l3, y0.size ≤ maxLen) → ∃ k, rillmeterlaw13_BitmapSets.f k a0 a1 a2 l3 = some true
end Go.Proofs.YteakbghjhckoeaaDoor.PBitmapSets
