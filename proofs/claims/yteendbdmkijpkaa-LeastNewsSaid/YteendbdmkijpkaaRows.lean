/-
  No cell of these rows narrows 'for every input' (looked for: loops, veiled, ifaces, maps, wideKeys, modest, calm, conditions, laid).
  DERIVED. THE GIVEN ROWS OF THIS SEAT. 6 by the template 'for every input the law returns true; each argument reads behind the call as it read before'; 0 by the template 'total and deterministic' (their statements: YteendbdmkijpkaaTotals.lean).
  GIVEN WITH THE SEED: the statements are not yours to turn. If you find one false, say at which input.
  Laid BY PROGRAM, IN A SANDBOX (cutbox-rows.mjs): the forced cells as the released guide's own fill.sh prints them over the translation 59adfdf724792463… (all of the seat's roots in one cut). By AI agents, Wed Nov 11 2026. No macro, syntax, notation, axiom, sorry.
-/
import Derived.Test.YteendbdmkijpkaaChecked
import GoSem.Claim
import GoSem.ClaimJoined
import GoSem.ClaimMapViews
import Derived.JoinedTies
import Derived.KernelRfl
namespace Go.Proofs.Yteendbdmkijpkaa
/- THE CELL 'sum', in the pinned program and in every row, IS THE sha256 OF THE DUMP (.gsa) THAT YteendbdmkijpkaaProg.lean LOADS. Nothing in Lean hashes anything: it is a label: what it is worth is what the hold of that sum in a sandbox is worth. -/
noncomputable def Try.pinned : Pinned := { name := "yteendbdmkijpkaa", sum := "59adfdf724792463d364a83679850e078385397634cd9b64085429e0d21bb9ad", checked := Try.checked }
namespace Rows
def none {H : Type} : Left H := { results := [], args := [] }

/-- 'rillmeterlaw11.LeastNews': WHATEVER THE INPUT: true; the input reads as it did. -/
def leastNewsSpec : ChangeSpec := { name := "leastNews", fn := fun _ => fun
  | [d1, d2, d3, d4] => { results := [.lit (.bool true)], args := [d1, d2, d3, d4] }
  | _ => none }
def leastNewsRow : OpenClaim := { program := "yteendbdmkijpkaa", sum := "59adfdf724792463d364a83679850e078385397634cd9b64085429e0d21bb9ad", func := "rillmeter/rillmeterlaw11.LeastNews", spec := "leastNews", apart := false }
def LeastNewsSaid : Prop := leastNewsRow.holds Try.pinned (OpenSpec.ofChange leastNewsSpec)

/-- ITS FALSE NEIGHBOUR: 'it returns false'. Refute it at one input. -/
def leastNewsWrong : ChangeSpec := { name := "leastNews", fn := fun _ => fun
  | [d1, d2, d3, d4] => { results := [.lit (.bool false)], args := [d1, d2, d3, d4] }
  | _ => none }
def LeastNewsWrongFalsely : Prop := leastNewsRow.holds Try.pinned (OpenSpec.ofChange leastNewsWrong)

/-- 'rillmeterlaw11.LeastTurns': WHATEVER THE INPUT: true; the input reads as it did. -/
def leastTurnsSpec : ChangeSpec := { name := "leastTurns", fn := fun _ => fun
  | [d1, d2, d3] => { results := [.lit (.bool true)], args := [d1, d2, d3] }
  | _ => none }
def leastTurnsRow : OpenClaim := { program := "yteendbdmkijpkaa", sum := "59adfdf724792463d364a83679850e078385397634cd9b64085429e0d21bb9ad", func := "rillmeter/rillmeterlaw11.LeastTurns", spec := "leastTurns", recurses := true, apart := false }
def LeastTurnsSaid : Prop := leastTurnsRow.holds Try.pinned (OpenSpec.ofChange leastTurnsSpec)

/-- ITS FALSE NEIGHBOUR: 'it returns false'. Refute it at one input. -/
def leastTurnsWrong : ChangeSpec := { name := "leastTurns", fn := fun _ => fun
  | [d1, d2, d3] => { results := [.lit (.bool false)], args := [d1, d2, d3] }
  | _ => none }
def LeastTurnsWrongFalsely : Prop := leastTurnsRow.holds Try.pinned (OpenSpec.ofChange leastTurnsWrong)

/-- 'rillmeterlaw11.LeastBounds': WHATEVER THE INPUT: true; the input reads as it did. -/
def leastBoundsSpec : ChangeSpec := { name := "leastBounds", fn := fun _ => fun
  | [d1, d2, d3, d4, d5, d6] => { results := [.lit (.bool true)], args := [d1, d2, d3, d4, d5, d6] }
  | _ => none }
def leastBoundsRow : OpenClaim := { program := "yteendbdmkijpkaa", sum := "59adfdf724792463d364a83679850e078385397634cd9b64085429e0d21bb9ad", func := "rillmeter/rillmeterlaw11.LeastBounds", spec := "leastBounds", recurses := true, apart := false }
def LeastBoundsSaid : Prop := leastBoundsRow.holds Try.pinned (OpenSpec.ofChange leastBoundsSpec)

/-- ITS FALSE NEIGHBOUR: 'it returns false'. Refute it at one input. -/
def leastBoundsWrong : ChangeSpec := { name := "leastBounds", fn := fun _ => fun
  | [d1, d2, d3, d4, d5, d6] => { results := [.lit (.bool false)], args := [d1, d2, d3, d4, d5, d6] }
  | _ => none }
def LeastBoundsWrongFalsely : Prop := leastBoundsRow.holds Try.pinned (OpenSpec.ofChange leastBoundsWrong)

/-- 'rillmeterlaw11.LeastGrows': WHATEVER THE INPUT: true; the input reads as it did. -/
def leastGrowsSpec : ChangeSpec := { name := "leastGrows", fn := fun _ => fun
  | [d1, d2, d3, d4, d5, d6] => { results := [.lit (.bool true)], args := [d1, d2, d3, d4, d5, d6] }
  | _ => none }
def leastGrowsRow : OpenClaim := { program := "yteendbdmkijpkaa", sum := "59adfdf724792463d364a83679850e078385397634cd9b64085429e0d21bb9ad", func := "rillmeter/rillmeterlaw11.LeastGrows", spec := "leastGrows", apart := false }
def LeastGrowsSaid : Prop := leastGrowsRow.holds Try.pinned (OpenSpec.ofChange leastGrowsSpec)

/-- ITS FALSE NEIGHBOUR: 'it returns false'. Refute it at one input. -/
def leastGrowsWrong : ChangeSpec := { name := "leastGrows", fn := fun _ => fun
  | [d1, d2, d3, d4, d5, d6] => { results := [.lit (.bool false)], args := [d1, d2, d3, d4, d5, d6] }
  | _ => none }
def LeastGrowsWrongFalsely : Prop := leastGrowsRow.holds Try.pinned (OpenSpec.ofChange leastGrowsWrong)

/-- 'rillmeterlaw11.LeastMerges': WHATEVER THE INPUT: true; the input reads as it did. -/
def leastMergesSpec : ChangeSpec := { name := "leastMerges", fn := fun _ => fun
  | [d1, d2] => { results := [.lit (.bool true)], args := [d1, d2] }
  | _ => none }
def leastMergesRow : OpenClaim := { program := "yteendbdmkijpkaa", sum := "59adfdf724792463d364a83679850e078385397634cd9b64085429e0d21bb9ad", func := "rillmeter/rillmeterlaw11.LeastMerges", spec := "leastMerges", apart := false }
def LeastMergesSaid : Prop := leastMergesRow.holds Try.pinned (OpenSpec.ofChange leastMergesSpec)

/-- ITS FALSE NEIGHBOUR: 'it returns false'. Refute it at one input. -/
def leastMergesWrong : ChangeSpec := { name := "leastMerges", fn := fun _ => fun
  | [d1, d2] => { results := [.lit (.bool false)], args := [d1, d2] }
  | _ => none }
def LeastMergesWrongFalsely : Prop := leastMergesRow.holds Try.pinned (OpenSpec.ofChange leastMergesWrong)

/-- 'rillmeterlaw11.LeastOrder': WHATEVER THE INPUT: true; the input reads as it did. -/
def leastOrderSpec : ChangeSpec := { name := "leastOrder", fn := fun _ => fun
  | [d1, d2, d3, d4, d5, d6] => { results := [.lit (.bool true)], args := [d1, d2, d3, d4, d5, d6] }
  | _ => none }
def leastOrderRow : OpenClaim := { program := "yteendbdmkijpkaa", sum := "59adfdf724792463d364a83679850e078385397634cd9b64085429e0d21bb9ad", func := "rillmeter/rillmeterlaw11.LeastOrder", spec := "leastOrder", apart := false }
def LeastOrderSaid : Prop := leastOrderRow.holds Try.pinned (OpenSpec.ofChange leastOrderSpec)

/-- ITS FALSE NEIGHBOUR: 'it returns false'. Refute it at one input. -/
def leastOrderWrong : ChangeSpec := { name := "leastOrder", fn := fun _ => fun
  | [d1, d2, d3, d4, d5, d6] => { results := [.lit (.bool false)], args := [d1, d2, d3, d4, d5, d6] }
  | _ => none }
def LeastOrderWrongFalsely : Prop := leastOrderRow.holds Try.pinned (OpenSpec.ofChange leastOrderWrong)

/- THE SECOND FORM. 'bulk': how many values and letters a reading holds, each counted each time it is reached (what is shared counts as often as it is met; a slice's spare places count too). A statement '..UptoSaid' is the law's where the arguments, and the package variables that the reading takes, are together of bulk at most 1048576: NARROWER than '..Said'. Prove '..Said' where nothing that the law and all that it calls make is longer than what came in: it says more and counts as full. Else prove '..UptoSaid'. A law counts once. -/
mutual
def uptoBulk {H : Type} : DataW H → Nat
  | .lit (.string bytes) => bytes.length + 1
  | .lit _ => 1
  | .nil => 1
  | .ptr d => uptoBulk d + 1
  | .slice elems spare => uptoBulkAll elems + uptoBulkAll spare + 1
  | .agg parts => uptoBulkAll parts + 1
  | .iface _ d => uptoBulk d + 1
  | .map entries => uptoBulkEntries entries + 1
  | .held _ => 1
def uptoBulkAll {H : Type} : List (DataW H) → Nat
  | [] => 0
  | d :: r => uptoBulk d + uptoBulkAll r
def uptoBulkEntries {H : Type} : List (Lit × DataW H) → Nat
  | [] => 0
  | x :: r => uptoBulkEntry x + uptoBulkEntries r
def uptoBulkEntry {H : Type} : Lit × DataW H → Nat
  | (.string bytes, d) => bytes.length + uptoBulk d + 1
  | (_, d) => uptoBulk d + 1
 end
def uptoSmall : (H : Type) → List (DataW H) → Bool := fun _ ds => decide (uptoBulkAll ds ≤ 1048576)
def OpenSpec.upto (s : _root_.Go.ChangeSpec) : _root_.Go.OpenSpec := { _root_.Go.OpenSpec.ofChange s with cond := some uptoSmall }

/-- 'rillmeterlaw11.LeastNews', WHERE WHAT IT READS IS OF BULK AT MOST 1048576: true; the input reads as it did. -/
def leastNewsUptoRow : OpenClaim := { program := "yteendbdmkijpkaa", sum := "59adfdf724792463d364a83679850e078385397634cd9b64085429e0d21bb9ad", func := "rillmeter/rillmeterlaw11.LeastNews", spec := "leastNews", apart := false, narrowed := true }
def LeastNewsUptoSaid : Prop := leastNewsUptoRow.holds Try.pinned (OpenSpec.upto leastNewsSpec)

/-- 'rillmeterlaw11.LeastTurns', WHERE WHAT IT READS IS OF BULK AT MOST 1048576: true; the input reads as it did. -/
def leastTurnsUptoRow : OpenClaim := { program := "yteendbdmkijpkaa", sum := "59adfdf724792463d364a83679850e078385397634cd9b64085429e0d21bb9ad", func := "rillmeter/rillmeterlaw11.LeastTurns", spec := "leastTurns", recurses := true, apart := false, narrowed := true }
def LeastTurnsUptoSaid : Prop := leastTurnsUptoRow.holds Try.pinned (OpenSpec.upto leastTurnsSpec)

/-- 'rillmeterlaw11.LeastBounds', WHERE WHAT IT READS IS OF BULK AT MOST 1048576: true; the input reads as it did. -/
def leastBoundsUptoRow : OpenClaim := { program := "yteendbdmkijpkaa", sum := "59adfdf724792463d364a83679850e078385397634cd9b64085429e0d21bb9ad", func := "rillmeter/rillmeterlaw11.LeastBounds", spec := "leastBounds", recurses := true, apart := false, narrowed := true }
def LeastBoundsUptoSaid : Prop := leastBoundsUptoRow.holds Try.pinned (OpenSpec.upto leastBoundsSpec)

/-- 'rillmeterlaw11.LeastGrows', WHERE WHAT IT READS IS OF BULK AT MOST 1048576: true; the input reads as it did. -/
def leastGrowsUptoRow : OpenClaim := { program := "yteendbdmkijpkaa", sum := "59adfdf724792463d364a83679850e078385397634cd9b64085429e0d21bb9ad", func := "rillmeter/rillmeterlaw11.LeastGrows", spec := "leastGrows", apart := false, narrowed := true }
def LeastGrowsUptoSaid : Prop := leastGrowsUptoRow.holds Try.pinned (OpenSpec.upto leastGrowsSpec)

/-- 'rillmeterlaw11.LeastMerges', WHERE WHAT IT READS IS OF BULK AT MOST 1048576: true; the input reads as it did. -/
def leastMergesUptoRow : OpenClaim := { program := "yteendbdmkijpkaa", sum := "59adfdf724792463d364a83679850e078385397634cd9b64085429e0d21bb9ad", func := "rillmeter/rillmeterlaw11.LeastMerges", spec := "leastMerges", apart := false, narrowed := true }
def LeastMergesUptoSaid : Prop := leastMergesUptoRow.holds Try.pinned (OpenSpec.upto leastMergesSpec)

/-- 'rillmeterlaw11.LeastOrder', WHERE WHAT IT READS IS OF BULK AT MOST 1048576: true; the input reads as it did. -/
def leastOrderUptoRow : OpenClaim := { program := "yteendbdmkijpkaa", sum := "59adfdf724792463d364a83679850e078385397634cd9b64085429e0d21bb9ad", func := "rillmeter/rillmeterlaw11.LeastOrder", spec := "leastOrder", apart := false, narrowed := true }
def LeastOrderUptoSaid : Prop := leastOrderUptoRow.holds Try.pinned (OpenSpec.upto leastOrderSpec)

end Rows
end Go.Proofs.Yteendbdmkijpkaa
