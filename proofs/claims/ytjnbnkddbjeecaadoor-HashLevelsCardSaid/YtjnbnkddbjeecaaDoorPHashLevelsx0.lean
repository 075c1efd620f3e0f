/- The functions that a law uses, each as a plain function, with the proof that a call of the Go function comes to its answer. Condition of each: the arguments read as the data that it names, and the plain function has an answer. Written by a program of this session (standin.py). -/
import Derived.Test.YtjnbnkddbjeecaaDoorProg
import Derived.Below
import Derived.Deep.Draws
import Derived.Deep.AppendLies
import Derived.Maps.AppendAt
import Derived.OwnWalk
import Derived.Laws.BytesArg
import Derived.Laws.MakeOwn
import Derived.Laws.OwnMore
import Derived.Deep.OwnRows
import Derived.Tactics
import Derived.Lib.ConvBytes
import Derived.Laws.Slices
import Derived.WalkKit
import Derived.KernelRfl
import Derived.RowKit3
import Derived.Deep.LoopGhost
import Derived.Deep.QuietTactic
import Derived.BigQuiet
import Derived.WideLaws
import Derived.Deep.DeepCutAuto
import Derived.Deep.CutBlock
import Derived.Deep.RegionHeld3
import Derived.Laws.Rows
import Derived.Lib.AppendStr
import Derived.ArgAppend
import Derived.Laws.IdiomCopy
import Derived.OrdersHeld
import Derived.Laws.BitsLemmas
import Derived.RowKit
import Derived.Test.YtjnbnkddbjeecaaDoorWWords
import Derived.Test.YtjnbnkddbjeecaaDoorWLast
import Derived.Test.YtjnbnkddbjeecaaDoorWTab
import Derived.Test.YtjnbnkddbjeecaaDoorWFour
import Derived.Test.YtjnbnkddbjeecaaDoorWQPut
import Derived.Test.YtjnbnkddbjeecaaDoorWApart
import Derived.Test.YtjnbnkddbjeecaaDoorWArr
import Derived.Test.YtjnbnkddbjeecaaDoorWZeros
import Derived.Test.YtjnbnkddbjeecaaDoorWFoot
import Derived.Test.YtjnbnkddbjeecaaDoorWKept
import Derived.Test.YtjnbnkddbjeecaaDoorWShare
import Derived.Test.YtjnbnkddbjeecaaDoorWN
import Derived.Test.YtjnbnkddbjeecaaDoorWFootNe
import Derived.Test.YtjnbnkddbjeecaaDoorWAt
import Derived.Test.YtjnbnkddbjeecaaDoorWEqStruct
import Derived.Test.YtjnbnkddbjeecaaDoorWRepsOne
import Derived.Test.YtjnbnkddbjeecaaDoorWInv
import Derived.Test.YtjnbnkddbjeecaaDoorWInvWords
import Derived.Test.YtjnbnkddbjeecaaDoorWGuard
import Derived.Test.YtjnbnkddbjeecaaDoorWNEv
import Derived.Test.YtjnbnkddbjeecaaDoorWMore
namespace Go.Proofs.YtjnbnkddbjeecaaDoor.PHashLevels
open Go.RowKit Go.Proofs.YtjnbnkddbjeecaaDoorW.PrintWords Go.Proofs.YtjnbnkddbjeecaaDoorW.PrintLast Go.Proofs.YtjnbnkddbjeecaaDoorW.PrintMore
attribute [local go_sem] max2_int min2_int max_two min_two max_three min_three max_four min_four   -- for this text's walks alone
set_option linter.unusedVariables false
set_option linter.unusedSimpArgs false



def errW : Option Int → Value
  | none => .nilIface
  | some c => .iface 0 (.int .i64 c)
theorem errW_none : errW none = .nilIface := rfl
theorem errW_some (c : Int) : errW (some c) = .iface 0 (.int .i64 c) := rfl

-- the values' own types

end Go.Proofs.YtjnbnkddbjeecaaDoor.PHashLevels
