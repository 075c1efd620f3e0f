/- The one pure statement of the law BitmapMerges, and how its arguments are opened. No condition. -/
import Derived.Test.YteakbghjhckoeaaDoorPBitmapMergesx5
import Derived.Test.YteakbghjhckoeaaDoorOpen
import Derived.KernelRfl
namespace Go.Proofs.YteakbghjhckoeaaDoor.PBitmapMerges
open Go Go.RowKit Go.Proofs.YteakbghjhckoeaaDoorW.PrintWords Go.Proofs.YteakbghjhckoeaaDoor.Open
def rillmeterlaw13_BitmapMerges.Pure : Prop := ∀ (a0_0 : Int) (l0_1 : List (List Bool)) (a1_0 : Int) (l1_1 : List (List Bool)), (Lit.int .u64 a0_0).wf = true → (l0_1.length ≤ maxLen ∧ ∀ y0 ∈ l0_1, (y0.length ≤ maxLen ∧ ∀ y1 ∈ y0, True)) → (Lit.int .u64 a1_0).wf = true → (l1_1.length ≤ maxLen ∧ ∀ y0 ∈ l1_1, (y0.length ≤ maxLen ∧ ∀ y1 ∈ y0, True)) → ∃ k, rillmeterlaw13_BitmapMerges.f k a0_0 l0_1 a1_0 l1_1 = some true
end Go.Proofs.YteakbghjhckoeaaDoor.PBitmapMerges
