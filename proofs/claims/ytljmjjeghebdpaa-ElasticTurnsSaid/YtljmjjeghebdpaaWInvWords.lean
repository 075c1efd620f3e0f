import Derived.Test.YtljmjjeghebdpaaWInv
import Derived.Test.YtljmjjeghebdpaaWFootNe
namespace Go.Proofs.YtljmjjeghebdpaaW.PrintWords
open Go.RowKit
end Go.Proofs.YtljmjjeghebdpaaW.PrintWords
namespace Go.Proofs.YtljmjjeghebdpaaW.PrintLast
section
variable {ops:Array Oper} {a:Act} {o og:Oper} {g:Nat} {t:Tmp} {u:Bool}
end
end Go.Proofs.YtljmjjeghebdpaaW.PrintLast
