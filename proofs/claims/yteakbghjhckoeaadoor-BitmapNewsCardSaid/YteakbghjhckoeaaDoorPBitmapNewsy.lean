/- The one pure statement of the law BitmapNews, and how its arguments are opened. No condition. -/
import Derived.Test.YteakbghjhckoeaaDoorPBitmapNewsx5
import Derived.Test.YteakbghjhckoeaaDoorOpen
import Derived.KernelRfl
namespace Go.Proofs.YteakbghjhckoeaaDoor.PBitmapNews
open Go Go.RowKit Go.Proofs.YteakbghjhckoeaaDoorW.PrintWords Go.Proofs.YteakbghjhckoeaaDoor.Open
def rillmeterlaw13_BitmapNews.Pure : Prop := ∀ (a0 : Int) (a1 : Int) (a2 : Int), (Lit.int .u64 a0).wf = true → (Lit.int .i64 a1).wf = true → (Lit.int .i64 a2).wf = true → ∃ k, rillmeterlaw13_BitmapNews.f k a0 a1 a2 = some true
end Go.Proofs.YteakbghjhckoeaaDoor.PBitmapNews
