/-
  No cell of these rows narrows 'for every input' (looked for: loops, veiled, ifaces, maps, wideKeys, modest, calm, conditions, laid).
  DERIVED. THE GIVEN ROWS OF THIS SEAT. 7 by the template 'for every input the law returns true; each argument reads behind the call as it read before'; 0 by the template 'total and deterministic' (their statements: YtojmpdjbhplgkaaTotals.lean).
  GIVEN WITH THE SEED: the statements are not yours to turn. If you find one false, say at which input.
  Laid BY PROGRAM, IN A SANDBOX (cutbox-rows.mjs): the forced cells as the released guide's own fill.sh prints them over the translation 519506a582a052e7… (all of the seat's roots in one cut). By AI agents, Wed Nov 11 2026. No macro, syntax, notation, axiom, sorry.
-/
import Derived.Test.YtojmpdjbhplgkaaChecked
import GoSem.Claim
import GoSem.ClaimJoined
import GoSem.ClaimMapViews
import Derived.JoinedTies
import Derived.KernelRfl
namespace Go.Proofs.Ytojmpdjbhplgkaa
/- THE CELL 'sum', in the pinned program and in every row, IS THE sha256 OF THE DUMP (.gsa) THAT YtojmpdjbhplgkaaProg.lean LOADS. Nothing in Lean hashes anything: it is a label: what it is worth is what the hold of that sum in a sandbox is worth. -/
noncomputable def Try.pinned : Pinned := { name := "ytojmpdjbhplgkaa", sum := "519506a582a052e702d84f087703246b8fab43f39e129f775810fad5c5bce44d", checked := Try.checked }
namespace Rows
def none {H : Type} : Left H := { results := [], args := [] }

/-- 'rillmeterlaw22.IpfixLong': WHATEVER THE INPUT: true; the input reads as it did. -/
def ipfixLongSpec : ChangeSpec := { name := "ipfixLong", fn := fun _ => fun
  | [d] => { results := [.lit (.bool true)], args := [d] }
  | _ => none }
def ipfixLongRow : OpenClaim := { program := "ytojmpdjbhplgkaa", sum := "519506a582a052e702d84f087703246b8fab43f39e129f775810fad5c5bce44d", func := "rillmeter/rillmeterlaw22.IpfixLong", spec := "ipfixLong", inPlace := ["internal/abi.NoEscape"], unfollowed := true, recurses := true, apart := false }
def IpfixLongSaid : Prop := ipfixLongRow.holds Try.pinned (OpenSpec.ofChange ipfixLongSpec)

/-- ITS FALSE NEIGHBOUR: 'it returns false'. Refute it at one input. -/
def ipfixLongWrong : ChangeSpec := { name := "ipfixLong", fn := fun _ => fun
  | [d] => { results := [.lit (.bool false)], args := [d] }
  | _ => none }
def IpfixLongWrongFalsely : Prop := ipfixLongRow.holds Try.pinned (OpenSpec.ofChange ipfixLongWrong)

/-- 'rillmeterlaw22.IpfixRecords': WHATEVER THE INPUT: true; the input reads as it did. -/
def ipfixRecordsSpec : ChangeSpec := { name := "ipfixRecords", fn := fun _ => fun
  | [d1, d2, d3] => { results := [.lit (.bool true)], args := [d1, d2, d3] }
  | _ => none }
def ipfixRecordsRow : OpenClaim := { program := "ytojmpdjbhplgkaa", sum := "519506a582a052e702d84f087703246b8fab43f39e129f775810fad5c5bce44d", func := "rillmeter/rillmeterlaw22.IpfixRecords", spec := "ipfixRecords", inPlace := ["internal/abi.NoEscape"], unfollowed := true, recurses := true, apart := false }
def IpfixRecordsSaid : Prop := ipfixRecordsRow.holds Try.pinned (OpenSpec.ofChange ipfixRecordsSpec)

/-- ITS FALSE NEIGHBOUR: 'it returns false'. Refute it at one input. -/
def ipfixRecordsWrong : ChangeSpec := { name := "ipfixRecords", fn := fun _ => fun
  | [d1, d2, d3] => { results := [.lit (.bool false)], args := [d1, d2, d3] }
  | _ => none }
def IpfixRecordsWrongFalsely : Prop := ipfixRecordsRow.holds Try.pinned (OpenSpec.ofChange ipfixRecordsWrong)

/-- 'rillmeterlaw22.IpfixJoins': WHATEVER THE INPUT: true; the input reads as it did. -/
def ipfixJoinsSpec : ChangeSpec := { name := "ipfixJoins", fn := fun _ => fun
  | [d1, d2, d3] => { results := [.lit (.bool true)], args := [d1, d2, d3] }
  | _ => none }
def ipfixJoinsRow : OpenClaim := { program := "ytojmpdjbhplgkaa", sum := "519506a582a052e702d84f087703246b8fab43f39e129f775810fad5c5bce44d", func := "rillmeter/rillmeterlaw22.IpfixJoins", spec := "ipfixJoins", inPlace := ["internal/abi.NoEscape"], unfollowed := true, recurses := true, apart := false }
def IpfixJoinsSaid : Prop := ipfixJoinsRow.holds Try.pinned (OpenSpec.ofChange ipfixJoinsSpec)

/-- ITS FALSE NEIGHBOUR: 'it returns false'. Refute it at one input. -/
def ipfixJoinsWrong : ChangeSpec := { name := "ipfixJoins", fn := fun _ => fun
  | [d1, d2, d3] => { results := [.lit (.bool false)], args := [d1, d2, d3] }
  | _ => none }
def IpfixJoinsWrongFalsely : Prop := ipfixJoinsRow.holds Try.pinned (OpenSpec.ofChange ipfixJoinsWrong)

/-- 'rillmeterlaw22.IpfixPuts': WHATEVER THE INPUT: true; the input reads as it did. -/
def ipfixPutsSpec : ChangeSpec := { name := "ipfixPuts", fn := fun _ => fun
  | [d] => { results := [.lit (.bool true)], args := [d] }
  | _ => none }
def ipfixPutsRow : OpenClaim := { program := "ytojmpdjbhplgkaa", sum := "519506a582a052e702d84f087703246b8fab43f39e129f775810fad5c5bce44d", func := "rillmeter/rillmeterlaw22.IpfixPuts", spec := "ipfixPuts", inPlace := ["internal/abi.NoEscape"], unfollowed := true, recurses := true, apart := false }
def IpfixPutsSaid : Prop := ipfixPutsRow.holds Try.pinned (OpenSpec.ofChange ipfixPutsSpec)

/-- ITS FALSE NEIGHBOUR: 'it returns false'. Refute it at one input. -/
def ipfixPutsWrong : ChangeSpec := { name := "ipfixPuts", fn := fun _ => fun
  | [d] => { results := [.lit (.bool false)], args := [d] }
  | _ => none }
def IpfixPutsWrongFalsely : Prop := ipfixPutsRow.holds Try.pinned (OpenSpec.ofChange ipfixPutsWrong)

/-- 'rillmeterlaw22.IpfixTakes': WHATEVER THE INPUT: true; the input reads as it did. -/
def ipfixTakesSpec : ChangeSpec := { name := "ipfixTakes", fn := fun _ => fun
  | [d] => { results := [.lit (.bool true)], args := [d] }
  | _ => none }
def ipfixTakesRow : OpenClaim := { program := "ytojmpdjbhplgkaa", sum := "519506a582a052e702d84f087703246b8fab43f39e129f775810fad5c5bce44d", func := "rillmeter/rillmeterlaw22.IpfixTakes", spec := "ipfixTakes", inPlace := ["internal/abi.NoEscape"], unfollowed := true, recurses := true, apart := false }
def IpfixTakesSaid : Prop := ipfixTakesRow.holds Try.pinned (OpenSpec.ofChange ipfixTakesSpec)

/-- ITS FALSE NEIGHBOUR: 'it returns false'. Refute it at one input. -/
def ipfixTakesWrong : ChangeSpec := { name := "ipfixTakes", fn := fun _ => fun
  | [d] => { results := [.lit (.bool false)], args := [d] }
  | _ => none }
def IpfixTakesWrongFalsely : Prop := ipfixTakesRow.holds Try.pinned (OpenSpec.ofChange ipfixTakesWrong)

/-- 'rillmeterlaw22.IpfixBack': WHATEVER THE INPUT: true; the input reads as it did. -/
def ipfixBackSpec : ChangeSpec := { name := "ipfixBack", fn := fun _ => fun
  | [d] => { results := [.lit (.bool true)], args := [d] }
  | _ => none }
def ipfixBackRow : OpenClaim := { program := "ytojmpdjbhplgkaa", sum := "519506a582a052e702d84f087703246b8fab43f39e129f775810fad5c5bce44d", func := "rillmeter/rillmeterlaw22.IpfixBack", spec := "ipfixBack", inPlace := ["internal/abi.NoEscape"], unfollowed := true, recurses := true, apart := false }
def IpfixBackSaid : Prop := ipfixBackRow.holds Try.pinned (OpenSpec.ofChange ipfixBackSpec)

/-- ITS FALSE NEIGHBOUR: 'it returns false'. Refute it at one input. -/
def ipfixBackWrong : ChangeSpec := { name := "ipfixBack", fn := fun _ => fun
  | [d] => { results := [.lit (.bool false)], args := [d] }
  | _ => none }
def IpfixBackWrongFalsely : Prop := ipfixBackRow.holds Try.pinned (OpenSpec.ofChange ipfixBackWrong)

/-- 'rillmeterlaw22.IpfixCut': WHATEVER THE INPUT: true; the input reads as it did. -/
def ipfixCutSpec : ChangeSpec := { name := "ipfixCut", fn := fun _ => fun
  | [d1, d2] => { results := [.lit (.bool true)], args := [d1, d2] }
  | _ => none }
def ipfixCutRow : OpenClaim := { program := "ytojmpdjbhplgkaa", sum := "519506a582a052e702d84f087703246b8fab43f39e129f775810fad5c5bce44d", func := "rillmeter/rillmeterlaw22.IpfixCut", spec := "ipfixCut", inPlace := ["internal/abi.NoEscape"], unfollowed := true, recurses := true, apart := false }
def IpfixCutSaid : Prop := ipfixCutRow.holds Try.pinned (OpenSpec.ofChange ipfixCutSpec)

/-- ITS FALSE NEIGHBOUR: 'it returns false'. Refute it at one input. -/
def ipfixCutWrong : ChangeSpec := { name := "ipfixCut", fn := fun _ => fun
  | [d1, d2] => { results := [.lit (.bool false)], args := [d1, d2] }
  | _ => none }
def IpfixCutWrongFalsely : Prop := ipfixCutRow.holds Try.pinned (OpenSpec.ofChange ipfixCutWrong)

/- THE SECOND FORM. 'bulk': how many values and letters a reading holds, each counted each time it is reached (what is shared counts as often as it is met; a slice's spare places count too). A statement '..UptoSaid' is the law's where the arguments, and the package variables that the reading takes, are together of bulk at most 1048576: NARROWER than '..Said'. Prove '..Said' where nothing that the law and all that it calls make is longer than what came in: it says more and counts as full. Else prove '..UptoSaid'. A law counts once. -/
mutual
def uptoBulk {H : Type} : DataW H → Nat
  | .lit (.string bytes) => bytes.length + 1
  | .lit _ => 1
  | .nil => 1
  | .ptr d => uptoBulk d + 1
  | .slice elems spare => uptoBulkAll elems + uptoBulkAll spare + 1
  | .agg parts => uptoBulkAll parts + 1
  | .iface _ d => uptoBulk d + 1
  | .map entries => uptoBulkEntries entries + 1
  | .held _ => 1
def uptoBulkAll {H : Type} : List (DataW H) → Nat
  | [] => 0
  | d :: r => uptoBulk d + uptoBulkAll r
def uptoBulkEntries {H : Type} : List (Lit × DataW H) → Nat
  | [] => 0
  | x :: r => uptoBulkEntry x + uptoBulkEntries r
def uptoBulkEntry {H : Type} : Lit × DataW H → Nat
  | (.string bytes, d) => bytes.length + uptoBulk d + 1
  | (_, d) => uptoBulk d + 1
 end
def uptoSmall : (H : Type) → List (DataW H) → Bool := fun _ ds => decide (uptoBulkAll ds ≤ 1048576)
def OpenSpec.upto (s : _root_.Go.ChangeSpec) : _root_.Go.OpenSpec := { _root_.Go.OpenSpec.ofChange s with cond := some uptoSmall }

/-- 'rillmeterlaw22.IpfixLong', WHERE WHAT IT READS IS OF BULK AT MOST 1048576: true; the input reads as it did. -/
def ipfixLongUptoRow : OpenClaim := { program := "ytojmpdjbhplgkaa", sum := "519506a582a052e702d84f087703246b8fab43f39e129f775810fad5c5bce44d", func := "rillmeter/rillmeterlaw22.IpfixLong", spec := "ipfixLong", inPlace := ["internal/abi.NoEscape"], unfollowed := true, recurses := true, apart := false, narrowed := true }
def IpfixLongUptoSaid : Prop := ipfixLongUptoRow.holds Try.pinned (OpenSpec.upto ipfixLongSpec)

/-- 'rillmeterlaw22.IpfixRecords', WHERE WHAT IT READS IS OF BULK AT MOST 1048576: true; the input reads as it did. -/
def ipfixRecordsUptoRow : OpenClaim := { program := "ytojmpdjbhplgkaa", sum := "519506a582a052e702d84f087703246b8fab43f39e129f775810fad5c5bce44d", func := "rillmeter/rillmeterlaw22.IpfixRecords", spec := "ipfixRecords", inPlace := ["internal/abi.NoEscape"], unfollowed := true, recurses := true, apart := false, narrowed := true }
def IpfixRecordsUptoSaid : Prop := ipfixRecordsUptoRow.holds Try.pinned (OpenSpec.upto ipfixRecordsSpec)

/-- 'rillmeterlaw22.IpfixJoins', WHERE WHAT IT READS IS OF BULK AT MOST 1048576: true; the input reads as it did. -/
def ipfixJoinsUptoRow : OpenClaim := { program := "ytojmpdjbhplgkaa", sum := "519506a582a052e702d84f087703246b8fab43f39e129f775810fad5c5bce44d", func := "rillmeter/rillmeterlaw22.IpfixJoins", spec := "ipfixJoins", inPlace := ["internal/abi.NoEscape"], unfollowed := true, recurses := true, apart := false, narrowed := true }
def IpfixJoinsUptoSaid : Prop := ipfixJoinsUptoRow.holds Try.pinned (OpenSpec.upto ipfixJoinsSpec)

/-- 'rillmeterlaw22.IpfixPuts', WHERE WHAT IT READS IS OF BULK AT MOST 1048576: true; the input reads as it did. -/
def ipfixPutsUptoRow : OpenClaim := { program := "ytojmpdjbhplgkaa", sum := "519506a582a052e702d84f087703246b8fab43f39e129f775810fad5c5bce44d", func := "rillmeter/rillmeterlaw22.IpfixPuts", spec := "ipfixPuts", inPlace := ["internal/abi.NoEscape"], unfollowed := true, recurses := true, apart := false, narrowed := true }
def IpfixPutsUptoSaid : Prop := ipfixPutsUptoRow.holds Try.pinned (OpenSpec.upto ipfixPutsSpec)

/-- 'rillmeterlaw22.IpfixTakes', WHERE WHAT IT READS IS OF BULK AT MOST 1048576: true; the input reads as it did. -/
def ipfixTakesUptoRow : OpenClaim := { program := "ytojmpdjbhplgkaa", sum := "519506a582a052e702d84f087703246b8fab43f39e129f775810fad5c5bce44d", func := "rillmeter/rillmeterlaw22.IpfixTakes", spec := "ipfixTakes", inPlace := ["internal/abi.NoEscape"], unfollowed := true, recurses := true, apart := false, narrowed := true }
def IpfixTakesUptoSaid : Prop := ipfixTakesUptoRow.holds Try.pinned (OpenSpec.upto ipfixTakesSpec)

/-- 'rillmeterlaw22.IpfixBack', WHERE WHAT IT READS IS OF BULK AT MOST 1048576: true; the input reads as it did. -/
def ipfixBackUptoRow : OpenClaim := { program := "ytojmpdjbhplgkaa", sum := "519506a582a052e702d84f087703246b8fab43f39e129f775810fad5c5bce44d", func := "rillmeter/rillmeterlaw22.IpfixBack", spec := "ipfixBack", inPlace := ["internal/abi.NoEscape"], unfollowed := true, recurses := true, apart := false, narrowed := true }
def IpfixBackUptoSaid : Prop := ipfixBackUptoRow.holds Try.pinned (OpenSpec.upto ipfixBackSpec)

/-- 'rillmeterlaw22.IpfixCut', WHERE WHAT IT READS IS OF BULK AT MOST 1048576: true; the input reads as it did. -/
def ipfixCutUptoRow : OpenClaim := { program := "ytojmpdjbhplgkaa", sum := "519506a582a052e702d84f087703246b8fab43f39e129f775810fad5c5bce44d", func := "rillmeter/rillmeterlaw22.IpfixCut", spec := "ipfixCut", inPlace := ["internal/abi.NoEscape"], unfollowed := true, recurses := true, apart := false, narrowed := true }
def IpfixCutUptoSaid : Prop := ipfixCutUptoRow.holds Try.pinned (OpenSpec.upto ipfixCutSpec)

end Rows
end Go.Proofs.Ytojmpdjbhplgkaa
