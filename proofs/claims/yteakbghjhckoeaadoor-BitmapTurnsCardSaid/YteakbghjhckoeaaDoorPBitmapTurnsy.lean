/- The one pure statement of the law BitmapTurns, and how its arguments are opened. No condition. -/
import Derived.Test.YteakbghjhckoeaaDoorPBitmapTurnsx8
import Derived.Test.YteakbghjhckoeaaDoorOpen
import Derived.KernelRfl
namespace Go.Proofs.YteakbghjhckoeaaDoor.PBitmapTurns
open Go Go.RowKit Go.Proofs.YteakbghjhckoeaaDoorW.PrintWords Go.Proofs.YteakbghjhckoeaaDoor.Open
def rillmeterlaw13_BitmapTurns.Pure : Prop := ∀ (a0_0 : Int) (l0_1 : List (List Bool)) (a1 : ByteArray), (Lit.int .u64 a0_0).wf = true → (l0_1.length ≤ maxLen ∧ ∀ y0 ∈ l0_1, (y0.length ≤ maxLen ∧ ∀ y1 ∈ y0, True)) → a1.size ≤ 140737488351232 → ∃ k, rillmeterlaw13_BitmapTurns.f k a0_0 l0_1 a1 = some true
end Go.Proofs.YteakbghjhckoeaaDoor.PBitmapTurns
