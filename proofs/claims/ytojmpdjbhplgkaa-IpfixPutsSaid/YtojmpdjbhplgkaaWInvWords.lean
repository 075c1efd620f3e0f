import Derived.Test.YtojmpdjbhplgkaaWInv
import Derived.Test.YtojmpdjbhplgkaaWFootNe
namespace Go.Proofs.YtojmpdjbhplgkaaW.PrintWords
open Go.RowKit
end Go.Proofs.YtojmpdjbhplgkaaW.PrintWords
namespace Go.Proofs.YtojmpdjbhplgkaaW.PrintLast
section
variable {ops : Array Oper} {a : Act} {o og : Oper} {g : Nat} {t : Tmp} {u : Bool}
end
end Go.Proofs.YtojmpdjbhplgkaaW.PrintLast
