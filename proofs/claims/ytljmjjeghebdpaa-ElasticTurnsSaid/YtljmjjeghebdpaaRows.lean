/-
  No cell of these rows narrows 'for every input' (looked for: loops, veiled, ifaces, maps, wideKeys, modest, calm, conditions, laid).
  DERIVED. THE GIVEN ROWS OF THIS SEAT. 5 by the template 'for every input the law returns true; each argument reads behind the call as it read before'; 0 by the template 'total and deterministic' (their statements: YtljmjjeghebdpaaTotals.lean).
  GIVEN WITH THE SEED: the statements are not yours to turn. If you find one false, say at which input.
  Laid BY PROGRAM, IN A SANDBOX (cutbox-rows.mjs): the forced cells as the released guide's own fill.sh prints them over the translation bc63c0a7d8fe373b… (all of the seat's roots in one cut). By AI agents, Wed Nov 11 2026. No macro, syntax, notation, axiom, sorry.
-/
import Derived.Test.YtljmjjeghebdpaaChecked
import GoSem.Claim
import GoSem.ClaimJoined
import GoSem.ClaimMapViews
import Derived.JoinedTies
import Derived.KernelRfl
namespace Go.Proofs.Ytljmjjeghebdpaa
/- THE CELL 'sum', in the pinned program and in every row, IS THE sha256 OF THE DUMP (.gsa) THAT YtljmjjeghebdpaaProg.lean LOADS. Nothing in Lean hashes anything: it is a label: what it is worth is what the hold of that sum in a sandbox is worth. -/
noncomputable def Try.pinned : Pinned := { name := "ytljmjjeghebdpaa", sum := "bc63c0a7d8fe373b6559ceac0cbf7cf99f58aab2274bea95e3e5eee394107453", checked := Try.checked }
namespace Rows
def none {H : Type} : Left H := { results := [], args := [] }

/-- 'rillmeterlaw15.ElasticTurns': WHATEVER THE INPUT: true; the input reads as it did. -/
def elasticTurnsSpec : ChangeSpec := { name := "elasticTurns", fn := fun _ => fun
  | [d1, d2, d3] => { results := [.lit (.bool true)], args := [d1, d2, d3] }
  | _ => none }
def elasticTurnsRow : OpenClaim := { program := "ytljmjjeghebdpaa", sum := "bc63c0a7d8fe373b6559ceac0cbf7cf99f58aab2274bea95e3e5eee394107453", func := "rillmeter/rillmeterlaw15.ElasticTurns", spec := "elasticTurns", inPlace := ["internal/bytealg.abigen_runtime_cmpstring"], unfollowed := true, recurses := true, apart := false }
def ElasticTurnsSaid : Prop := elasticTurnsRow.holds Try.pinned (OpenSpec.ofChange elasticTurnsSpec)

/-- ITS FALSE NEIGHBOUR: 'it returns false'. Refute it at one input. -/
def elasticTurnsWrong : ChangeSpec := { name := "elasticTurns", fn := fun _ => fun
  | [d1, d2, d3] => { results := [.lit (.bool false)], args := [d1, d2, d3] }
  | _ => none }
def ElasticTurnsWrongFalsely : Prop := elasticTurnsRow.holds Try.pinned (OpenSpec.ofChange elasticTurnsWrong)

/-- 'rillmeterlaw15.ElasticNews': WHATEVER THE INPUT: true; the input reads as it did. -/
def elasticNewsSpec : ChangeSpec := { name := "elasticNews", fn := fun _ => fun
  | [d1, d2, d3, d4, d5, d6] => { results := [.lit (.bool true)], args := [d1, d2, d3, d4, d5, d6] }
  | _ => none }
def elasticNewsRow : OpenClaim := { program := "ytljmjjeghebdpaa", sum := "bc63c0a7d8fe373b6559ceac0cbf7cf99f58aab2274bea95e3e5eee394107453", func := "rillmeter/rillmeterlaw15.ElasticNews", spec := "elasticNews", inPlace := ["internal/bytealg.abigen_runtime_cmpstring"], unfollowed := true, recurses := true, apart := false }
def ElasticNewsSaid : Prop := elasticNewsRow.holds Try.pinned (OpenSpec.ofChange elasticNewsSpec)

/-- ITS FALSE NEIGHBOUR: 'it returns false'. Refute it at one input. -/
def elasticNewsWrong : ChangeSpec := { name := "elasticNews", fn := fun _ => fun
  | [d1, d2, d3, d4, d5, d6] => { results := [.lit (.bool false)], args := [d1, d2, d3, d4, d5, d6] }
  | _ => none }
def ElasticNewsWrongFalsely : Prop := elasticNewsRow.holds Try.pinned (OpenSpec.ofChange elasticNewsWrong)

/-- 'rillmeterlaw15.ElasticBounds': WHATEVER THE INPUT: true; the input reads as it did. -/
def elasticBoundsSpec : ChangeSpec := { name := "elasticBounds", fn := fun _ => fun
  | [d1, d2, d3] => { results := [.lit (.bool true)], args := [d1, d2, d3] }
  | _ => none }
def elasticBoundsRow : OpenClaim := { program := "ytljmjjeghebdpaa", sum := "bc63c0a7d8fe373b6559ceac0cbf7cf99f58aab2274bea95e3e5eee394107453", func := "rillmeter/rillmeterlaw15.ElasticBounds", spec := "elasticBounds", inPlace := ["internal/bytealg.abigen_runtime_cmpstring"], unfollowed := true, recurses := true, apart := false }
def ElasticBoundsSaid : Prop := elasticBoundsRow.holds Try.pinned (OpenSpec.ofChange elasticBoundsSpec)

/-- ITS FALSE NEIGHBOUR: 'it returns false'. Refute it at one input. -/
def elasticBoundsWrong : ChangeSpec := { name := "elasticBounds", fn := fun _ => fun
  | [d1, d2, d3] => { results := [.lit (.bool false)], args := [d1, d2, d3] }
  | _ => none }
def ElasticBoundsWrongFalsely : Prop := elasticBoundsRow.holds Try.pinned (OpenSpec.ofChange elasticBoundsWrong)

/-- 'rillmeterlaw15.ElasticSeen': WHATEVER THE INPUT: true; the input reads as it did. -/
def elasticSeenSpec : ChangeSpec := { name := "elasticSeen", fn := fun _ => fun
  | [d1, d2, d3] => { results := [.lit (.bool true)], args := [d1, d2, d3] }
  | _ => none }
def elasticSeenRow : OpenClaim := { program := "ytljmjjeghebdpaa", sum := "bc63c0a7d8fe373b6559ceac0cbf7cf99f58aab2274bea95e3e5eee394107453", func := "rillmeter/rillmeterlaw15.ElasticSeen", spec := "elasticSeen", inPlace := ["internal/bytealg.abigen_runtime_cmpstring"], unfollowed := true, recurses := true, apart := false }
def ElasticSeenSaid : Prop := elasticSeenRow.holds Try.pinned (OpenSpec.ofChange elasticSeenSpec)

/-- ITS FALSE NEIGHBOUR: 'it returns false'. Refute it at one input. -/
def elasticSeenWrong : ChangeSpec := { name := "elasticSeen", fn := fun _ => fun
  | [d1, d2, d3] => { results := [.lit (.bool false)], args := [d1, d2, d3] }
  | _ => none }
def ElasticSeenWrongFalsely : Prop := elasticSeenRow.holds Try.pinned (OpenSpec.ofChange elasticSeenWrong)

/-- 'rillmeterlaw15.ElasticFew': WHATEVER THE INPUT: true; the input reads as it did. -/
def elasticFewSpec : ChangeSpec := { name := "elasticFew", fn := fun _ => fun
  | [d1, d2] => { results := [.lit (.bool true)], args := [d1, d2] }
  | _ => none }
def elasticFewRow : OpenClaim := { program := "ytljmjjeghebdpaa", sum := "bc63c0a7d8fe373b6559ceac0cbf7cf99f58aab2274bea95e3e5eee394107453", func := "rillmeter/rillmeterlaw15.ElasticFew", spec := "elasticFew", inPlace := ["internal/bytealg.abigen_runtime_cmpstring"], unfollowed := true, recurses := true, apart := false }
def ElasticFewSaid : Prop := elasticFewRow.holds Try.pinned (OpenSpec.ofChange elasticFewSpec)

/-- ITS FALSE NEIGHBOUR: 'it returns false'. Refute it at one input. -/
def elasticFewWrong : ChangeSpec := { name := "elasticFew", fn := fun _ => fun
  | [d1, d2] => { results := [.lit (.bool false)], args := [d1, d2] }
  | _ => none }
def ElasticFewWrongFalsely : Prop := elasticFewRow.holds Try.pinned (OpenSpec.ofChange elasticFewWrong)

/- THE SECOND FORM. 'bulk': how many values and letters a reading holds, each counted each time it is reached (what is shared counts as often as it is met; a slice's spare places count too). A statement '..UptoSaid' is the law's where the arguments, and the package variables that the reading takes, are together of bulk at most 1048576: NARROWER than '..Said'. Prove '..Said' where nothing that the law and all that it calls make is longer than what came in: it says more and counts as full. Else prove '..UptoSaid'. A law counts once. -/
mutual
def uptoBulk {H : Type} : DataW H → Nat
  | .lit (.string bytes) => bytes.length + 1
  | .lit _ => 1
  | .nil => 1
  | .ptr d => uptoBulk d + 1
  | .slice elems spare => uptoBulkAll elems + uptoBulkAll spare + 1
  | .agg parts => uptoBulkAll parts + 1
  | .iface _ d => uptoBulk d + 1
  | .map entries => uptoBulkEntries entries + 1
  | .held _ => 1
def uptoBulkAll {H : Type} : List (DataW H) → Nat
  | [] => 0
  | d :: r => uptoBulk d + uptoBulkAll r
def uptoBulkEntries {H : Type} : List (Lit × DataW H) → Nat
  | [] => 0
  | x :: r => uptoBulkEntry x + uptoBulkEntries r
def uptoBulkEntry {H : Type} : Lit × DataW H → Nat
  | (.string bytes, d) => bytes.length + uptoBulk d + 1
  | (_, d) => uptoBulk d + 1
 end
def uptoSmall : (H : Type) → List (DataW H) → Bool := fun _ ds => decide (uptoBulkAll ds ≤ 1048576)
def OpenSpec.upto (s : _root_.Go.ChangeSpec) : _root_.Go.OpenSpec := { _root_.Go.OpenSpec.ofChange s with cond := some uptoSmall }

/-- 'rillmeterlaw15.ElasticTurns', WHERE WHAT IT READS IS OF BULK AT MOST 1048576: true; the input reads as it did. -/
def elasticTurnsUptoRow : OpenClaim := { program := "ytljmjjeghebdpaa", sum := "bc63c0a7d8fe373b6559ceac0cbf7cf99f58aab2274bea95e3e5eee394107453", func := "rillmeter/rillmeterlaw15.ElasticTurns", spec := "elasticTurns", inPlace := ["internal/bytealg.abigen_runtime_cmpstring"], unfollowed := true, recurses := true, apart := false, narrowed := true }
def ElasticTurnsUptoSaid : Prop := elasticTurnsUptoRow.holds Try.pinned (OpenSpec.upto elasticTurnsSpec)

/-- 'rillmeterlaw15.ElasticNews', WHERE WHAT IT READS IS OF BULK AT MOST 1048576: true; the input reads as it did. -/
def elasticNewsUptoRow : OpenClaim := { program := "ytljmjjeghebdpaa", sum := "bc63c0a7d8fe373b6559ceac0cbf7cf99f58aab2274bea95e3e5eee394107453", func := "rillmeter/rillmeterlaw15.ElasticNews", spec := "elasticNews", inPlace := ["internal/bytealg.abigen_runtime_cmpstring"], unfollowed := true, recurses := true, apart := false, narrowed := true }
def ElasticNewsUptoSaid : Prop := elasticNewsUptoRow.holds Try.pinned (OpenSpec.upto elasticNewsSpec)

/-- 'rillmeterlaw15.ElasticBounds', WHERE WHAT IT READS IS OF BULK AT MOST 1048576: true; the input reads as it did. -/
def elasticBoundsUptoRow : OpenClaim := { program := "ytljmjjeghebdpaa", sum := "bc63c0a7d8fe373b6559ceac0cbf7cf99f58aab2274bea95e3e5eee394107453", func := "rillmeter/rillmeterlaw15.ElasticBounds", spec := "elasticBounds", inPlace := ["internal/bytealg.abigen_runtime_cmpstring"], unfollowed := true, recurses := true, apart := false, narrowed := true }
def ElasticBoundsUptoSaid : Prop := elasticBoundsUptoRow.holds Try.pinned (OpenSpec.upto elasticBoundsSpec)

/-- 'rillmeterlaw15.ElasticSeen', WHERE WHAT IT READS IS OF BULK AT MOST 1048576: true; the input reads as it did. -/
def elasticSeenUptoRow : OpenClaim := { program := "ytljmjjeghebdpaa", sum := "bc63c0a7d8fe373b6559ceac0cbf7cf99f58aab2274bea95e3e5eee394107453", func := "rillmeter/rillmeterlaw15.ElasticSeen", spec := "elasticSeen", inPlace := ["internal/bytealg.abigen_runtime_cmpstring"], unfollowed := true, recurses := true, apart := false, narrowed := true }
def ElasticSeenUptoSaid : Prop := elasticSeenUptoRow.holds Try.pinned (OpenSpec.upto elasticSeenSpec)

/-- 'rillmeterlaw15.ElasticFew', WHERE WHAT IT READS IS OF BULK AT MOST 1048576: true; the input reads as it did. -/
def elasticFewUptoRow : OpenClaim := { program := "ytljmjjeghebdpaa", sum := "bc63c0a7d8fe373b6559ceac0cbf7cf99f58aab2274bea95e3e5eee394107453", func := "rillmeter/rillmeterlaw15.ElasticFew", spec := "elasticFew", inPlace := ["internal/bytealg.abigen_runtime_cmpstring"], unfollowed := true, recurses := true, apart := false, narrowed := true }
def ElasticFewUptoSaid : Prop := elasticFewUptoRow.holds Try.pinned (OpenSpec.upto elasticFewSpec)

end Rows
end Go.Proofs.Ytljmjjeghebdpaa
