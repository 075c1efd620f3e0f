import Derived.SizedLaws
import Derived.ChangeSlices
namespace Go.Proofs.YtljmjjeghebdpaaW.PrintWords
open Go.ChangeShapes Go.WideShapes
end Go.Proofs.YtljmjjeghebdpaaW.PrintWords
