/-
  No cell of these rows narrows 'for every input' (looked for: loops, veiled, ifaces, maps, wideKeys, modest, calm, conditions, laid).
  DERIVED. THE GIVEN ROWS OF THIS SEAT. 6 by the template 'for every input the law returns true; each argument reads behind the call as it read before'; 0 by the template 'total and deterministic' (their statements: YtoplnkbhgpamaaaTotals.lean).
  GIVEN WITH THE SEED: the statements are not yours to turn. If you find one false, say at which input.
  Laid BY PROGRAM, IN A SANDBOX (cutbox-rows.mjs): the forced cells as the released guide's own fill.sh prints them over the translation c21cbd2a18eeb122… (all of the seat's roots in one cut). By AI agents, Wed Nov 11 2026. No macro, syntax, notation, axiom, sorry.
-/
import Derived.Test.YtoplnkbhgpamaaaChecked
import GoSem.Claim
import GoSem.ClaimJoined
import GoSem.ClaimMapViews
import Derived.JoinedTies
import Derived.KernelRfl
namespace Go.Proofs.Ytoplnkbhgpamaaa
/- THE CELL 'sum', in the pinned program and in every row, IS THE sha256 OF THE DUMP (.gsa) THAT YtoplnkbhgpamaaaProg.lean LOADS. Nothing in Lean hashes anything: it is a label: what it is worth is what the hold of that sum in a sandbox is worth. -/
noncomputable def Try.pinned : Pinned := { name := "ytoplnkbhgpamaaa", sum := "c21cbd2a18eeb12215d0c5c14385217ba065207c2845a2023cbccf47dfdfee1b", checked := Try.checked }
namespace Rows
def none {H : Type} : Left H := { results := [], args := [] }

/-- 'rillmeterlaw03.SolveRanks': WHATEVER THE INPUT: true; the input reads as it did. -/
def solveRanksSpec : ChangeSpec := { name := "solveRanks", fn := fun _ => fun
  | [d] => { results := [.lit (.bool true)], args := [d] }
  | _ => none }
def solveRanksRow : OpenClaim := { program := "ytoplnkbhgpamaaa", sum := "c21cbd2a18eeb12215d0c5c14385217ba065207c2845a2023cbccf47dfdfee1b", func := "rillmeter/rillmeterlaw03.SolveRanks", spec := "solveRanks", unfollowed := true, recurses := true, apart := false }
def SolveRanksSaid : Prop := solveRanksRow.holds Try.pinned (OpenSpec.ofChange solveRanksSpec)

/-- ITS FALSE NEIGHBOUR: 'it returns false'. Refute it at one input. -/
def solveRanksWrong : ChangeSpec := { name := "solveRanks", fn := fun _ => fun
  | [d] => { results := [.lit (.bool false)], args := [d] }
  | _ => none }
def SolveRanksWrongFalsely : Prop := solveRanksRow.holds Try.pinned (OpenSpec.ofChange solveRanksWrong)

/-- 'rillmeterlaw03.SolveTells': WHATEVER THE INPUT: true; the input reads as it did. -/
def solveTellsSpec : ChangeSpec := { name := "solveTells", fn := fun _ => fun
  | [d1, d2] => { results := [.lit (.bool true)], args := [d1, d2] }
  | _ => none }
def solveTellsRow : OpenClaim := { program := "ytoplnkbhgpamaaa", sum := "c21cbd2a18eeb12215d0c5c14385217ba065207c2845a2023cbccf47dfdfee1b", func := "rillmeter/rillmeterlaw03.SolveTells", spec := "solveTells", unfollowed := true, recurses := true, apart := false }
def SolveTellsSaid : Prop := solveTellsRow.holds Try.pinned (OpenSpec.ofChange solveTellsSpec)

/-- ITS FALSE NEIGHBOUR: 'it returns false'. Refute it at one input. -/
def solveTellsWrong : ChangeSpec := { name := "solveTells", fn := fun _ => fun
  | [d1, d2] => { results := [.lit (.bool false)], args := [d1, d2] }
  | _ => none }
def SolveTellsWrongFalsely : Prop := solveTellsRow.holds Try.pinned (OpenSpec.ofChange solveTellsWrong)

/-- 'rillmeterlaw03.SolveTurns': WHATEVER THE INPUT: true; the input reads as it did. -/
def solveTurnsSpec : ChangeSpec := { name := "solveTurns", fn := fun _ => fun
  | [d1, d2] => { results := [.lit (.bool true)], args := [d1, d2] }
  | _ => none }
def solveTurnsRow : OpenClaim := { program := "ytoplnkbhgpamaaa", sum := "c21cbd2a18eeb12215d0c5c14385217ba065207c2845a2023cbccf47dfdfee1b", func := "rillmeter/rillmeterlaw03.SolveTurns", spec := "solveTurns", unfollowed := true, recurses := true, apart := false }
def SolveTurnsSaid : Prop := solveTurnsRow.holds Try.pinned (OpenSpec.ofChange solveTurnsSpec)

/-- ITS FALSE NEIGHBOUR: 'it returns false'. Refute it at one input. -/
def solveTurnsWrong : ChangeSpec := { name := "solveTurns", fn := fun _ => fun
  | [d1, d2] => { results := [.lit (.bool false)], args := [d1, d2] }
  | _ => none }
def SolveTurnsWrongFalsely : Prop := solveTurnsRow.holds Try.pinned (OpenSpec.ofChange solveTurnsWrong)

/-- 'rillmeterlaw03.SolveTimes': WHATEVER THE INPUT: true; the input reads as it did. -/
def solveTimesSpec : ChangeSpec := { name := "solveTimes", fn := fun _ => fun
  | [d1, d2] => { results := [.lit (.bool true)], args := [d1, d2] }
  | _ => none }
def solveTimesRow : OpenClaim := { program := "ytoplnkbhgpamaaa", sum := "c21cbd2a18eeb12215d0c5c14385217ba065207c2845a2023cbccf47dfdfee1b", func := "rillmeter/rillmeterlaw03.SolveTimes", spec := "solveTimes", unfollowed := true, recurses := true, apart := false }
def SolveTimesSaid : Prop := solveTimesRow.holds Try.pinned (OpenSpec.ofChange solveTimesSpec)

/-- ITS FALSE NEIGHBOUR: 'it returns false'. Refute it at one input. -/
def solveTimesWrong : ChangeSpec := { name := "solveTimes", fn := fun _ => fun
  | [d1, d2] => { results := [.lit (.bool false)], args := [d1, d2] }
  | _ => none }
def SolveTimesWrongFalsely : Prop := solveTimesRow.holds Try.pinned (OpenSpec.ofChange solveTimesWrong)

/-- 'rillmeterlaw03.SolveBack': WHATEVER THE INPUT: true; the input reads as it did. -/
def solveBackSpec : ChangeSpec := { name := "solveBack", fn := fun _ => fun
  | [d1, d2] => { results := [.lit (.bool true)], args := [d1, d2] }
  | _ => none }
def solveBackRow : OpenClaim := { program := "ytoplnkbhgpamaaa", sum := "c21cbd2a18eeb12215d0c5c14385217ba065207c2845a2023cbccf47dfdfee1b", func := "rillmeter/rillmeterlaw03.SolveBack", spec := "solveBack", unfollowed := true, recurses := true, apart := false }
def SolveBackSaid : Prop := solveBackRow.holds Try.pinned (OpenSpec.ofChange solveBackSpec)

/-- ITS FALSE NEIGHBOUR: 'it returns false'. Refute it at one input. -/
def solveBackWrong : ChangeSpec := { name := "solveBack", fn := fun _ => fun
  | [d1, d2] => { results := [.lit (.bool false)], args := [d1, d2] }
  | _ => none }
def SolveBackWrongFalsely : Prop := solveBackRow.holds Try.pinned (OpenSpec.ofChange solveBackWrong)

/-- 'rillmeterlaw03.SolveSums': WHATEVER THE INPUT: true; the input reads as it did. -/
def solveSumsSpec : ChangeSpec := { name := "solveSums", fn := fun _ => fun
  | [d1, d2, d3] => { results := [.lit (.bool true)], args := [d1, d2, d3] }
  | _ => none }
def solveSumsRow : OpenClaim := { program := "ytoplnkbhgpamaaa", sum := "c21cbd2a18eeb12215d0c5c14385217ba065207c2845a2023cbccf47dfdfee1b", func := "rillmeter/rillmeterlaw03.SolveSums", spec := "solveSums", unfollowed := true, recurses := true, apart := false }
def SolveSumsSaid : Prop := solveSumsRow.holds Try.pinned (OpenSpec.ofChange solveSumsSpec)

/-- ITS FALSE NEIGHBOUR: 'it returns false'. Refute it at one input. -/
def solveSumsWrong : ChangeSpec := { name := "solveSums", fn := fun _ => fun
  | [d1, d2, d3] => { results := [.lit (.bool false)], args := [d1, d2, d3] }
  | _ => none }
def SolveSumsWrongFalsely : Prop := solveSumsRow.holds Try.pinned (OpenSpec.ofChange solveSumsWrong)

/- THE SECOND FORM. 'bulk': how many values and letters a reading holds, each counted each time it is reached (what is shared counts as often as it is met; a slice's spare places count too). A statement '..UptoSaid' is the law's where the arguments, and the package variables that the reading takes, are together of bulk at most 1048576: NARROWER than '..Said'. Prove '..Said' where nothing that the law and all that it calls make is longer than what came in: it says more and counts as full. Else prove '..UptoSaid'. A law counts once. -/
mutual
def uptoBulk {H : Type} : DataW H → Nat
  | .lit (.string bytes) => bytes.length + 1
  | .lit _ => 1
  | .nil => 1
  | .ptr d => uptoBulk d + 1
  | .slice elems spare => uptoBulkAll elems + uptoBulkAll spare + 1
  | .agg parts => uptoBulkAll parts + 1
  | .iface _ d => uptoBulk d + 1
  | .map entries => uptoBulkEntries entries + 1
  | .held _ => 1
def uptoBulkAll {H : Type} : List (DataW H) → Nat
  | [] => 0
  | d :: r => uptoBulk d + uptoBulkAll r
def uptoBulkEntries {H : Type} : List (Lit × DataW H) → Nat
  | [] => 0
  | x :: r => uptoBulkEntry x + uptoBulkEntries r
def uptoBulkEntry {H : Type} : Lit × DataW H → Nat
  | (.string bytes, d) => bytes.length + uptoBulk d + 1
  | (_, d) => uptoBulk d + 1
 end
def uptoSmall : (H : Type) → List (DataW H) → Bool := fun _ ds => decide (uptoBulkAll ds ≤ 1048576)
def OpenSpec.upto (s : _root_.Go.ChangeSpec) : _root_.Go.OpenSpec := { _root_.Go.OpenSpec.ofChange s with cond := some uptoSmall }

/-- 'rillmeterlaw03.SolveRanks', WHERE WHAT IT READS IS OF BULK AT MOST 1048576: true; the input reads as it did. -/
def solveRanksUptoRow : OpenClaim := { program := "ytoplnkbhgpamaaa", sum := "c21cbd2a18eeb12215d0c5c14385217ba065207c2845a2023cbccf47dfdfee1b", func := "rillmeter/rillmeterlaw03.SolveRanks", spec := "solveRanks", unfollowed := true, recurses := true, apart := false, narrowed := true }
def SolveRanksUptoSaid : Prop := solveRanksUptoRow.holds Try.pinned (OpenSpec.upto solveRanksSpec)

/-- 'rillmeterlaw03.SolveTells', WHERE WHAT IT READS IS OF BULK AT MOST 1048576: true; the input reads as it did. -/
def solveTellsUptoRow : OpenClaim := { program := "ytoplnkbhgpamaaa", sum := "c21cbd2a18eeb12215d0c5c14385217ba065207c2845a2023cbccf47dfdfee1b", func := "rillmeter/rillmeterlaw03.SolveTells", spec := "solveTells", unfollowed := true, recurses := true, apart := false, narrowed := true }
def SolveTellsUptoSaid : Prop := solveTellsUptoRow.holds Try.pinned (OpenSpec.upto solveTellsSpec)

/-- 'rillmeterlaw03.SolveTurns', WHERE WHAT IT READS IS OF BULK AT MOST 1048576: true; the input reads as it did. -/
def solveTurnsUptoRow : OpenClaim := { program := "ytoplnkbhgpamaaa", sum := "c21cbd2a18eeb12215d0c5c14385217ba065207c2845a2023cbccf47dfdfee1b", func := "rillmeter/rillmeterlaw03.SolveTurns", spec := "solveTurns", unfollowed := true, recurses := true, apart := false, narrowed := true }
def SolveTurnsUptoSaid : Prop := solveTurnsUptoRow.holds Try.pinned (OpenSpec.upto solveTurnsSpec)

/-- 'rillmeterlaw03.SolveTimes', WHERE WHAT IT READS IS OF BULK AT MOST 1048576: true; the input reads as it did. -/
def solveTimesUptoRow : OpenClaim := { program := "ytoplnkbhgpamaaa", sum := "c21cbd2a18eeb12215d0c5c14385217ba065207c2845a2023cbccf47dfdfee1b", func := "rillmeter/rillmeterlaw03.SolveTimes", spec := "solveTimes", unfollowed := true, recurses := true, apart := false, narrowed := true }
def SolveTimesUptoSaid : Prop := solveTimesUptoRow.holds Try.pinned (OpenSpec.upto solveTimesSpec)

/-- 'rillmeterlaw03.SolveBack', WHERE WHAT IT READS IS OF BULK AT MOST 1048576: true; the input reads as it did. -/
def solveBackUptoRow : OpenClaim := { program := "ytoplnkbhgpamaaa", sum := "c21cbd2a18eeb12215d0c5c14385217ba065207c2845a2023cbccf47dfdfee1b", func := "rillmeter/rillmeterlaw03.SolveBack", spec := "solveBack", unfollowed := true, recurses := true, apart := false, narrowed := true }
def SolveBackUptoSaid : Prop := solveBackUptoRow.holds Try.pinned (OpenSpec.upto solveBackSpec)

/-- 'rillmeterlaw03.SolveSums', WHERE WHAT IT READS IS OF BULK AT MOST 1048576: true; the input reads as it did. -/
def solveSumsUptoRow : OpenClaim := { program := "ytoplnkbhgpamaaa", sum := "c21cbd2a18eeb12215d0c5c14385217ba065207c2845a2023cbccf47dfdfee1b", func := "rillmeter/rillmeterlaw03.SolveSums", spec := "solveSums", unfollowed := true, recurses := true, apart := false, narrowed := true }
def SolveSumsUptoSaid : Prop := solveSumsUptoRow.holds Try.pinned (OpenSpec.upto solveSumsSpec)

end Rows
end Go.Proofs.Ytoplnkbhgpamaaa
