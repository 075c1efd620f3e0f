/-
  No cell of these rows narrows 'for every input' (looked for: loops, veiled, ifaces, maps, wideKeys, modest, calm, conditions, laid).
  DERIVED. THE GIVEN ROWS OF THIS SEAT. 8 by the template 'for every input the law returns true; each argument reads behind the call as it read before'; 0 by the template 'total and deterministic' (their statements: YtcdfmabcbljnkaaTotals.lean).
  GIVEN WITH THE SEED: the statements are not yours to turn. If you find one false, say at which input.
  Laid BY PROGRAM, IN A SANDBOX (cutbox-rows.mjs): the forced cells as the released guide's own fill.sh prints them over the translation e4dcb6dc95dcec52… (all of the seat's roots in one cut). By AI agents, Wed Nov 11 2026. No macro, syntax, notation, axiom, sorry.
-/
import Derived.Test.YtcdfmabcbljnkaaChecked
import GoSem.Claim
import GoSem.ClaimJoined
import GoSem.ClaimMapViews
import Derived.JoinedTies
import Derived.KernelRfl
namespace Go.Proofs.Ytcdfmabcbljnkaa
/- THE CELL 'sum', in the pinned program and in every row, IS THE sha256 OF THE DUMP (.gsa) THAT YtcdfmabcbljnkaaProg.lean LOADS. Nothing in Lean hashes anything: it is a label: what it is worth is what the hold of that sum in a sandbox is worth. -/
noncomputable def Try.pinned : Pinned := { name := "ytcdfmabcbljnkaa", sum := "e4dcb6dc95dcec52f4fbef7a40daf45181edfd923d2ea96d5fdafa04206732ec", checked := Try.checked }
namespace Rows
def none {H : Type} : Left H := { results := [], args := [] }

/-- 'rillmeterlaw01.FieldPowers': WHATEVER THE INPUT: true; the input reads as it did. -/
def fieldPowersSpec : ChangeSpec := { name := "fieldPowers", fn := fun _ => fun
  | [d1, d2] => { results := [.lit (.bool true)], args := [d1, d2] }
  | _ => none }
def fieldPowersRow : OpenClaim := { program := "ytcdfmabcbljnkaa", sum := "e4dcb6dc95dcec52f4fbef7a40daf45181edfd923d2ea96d5fdafa04206732ec", func := "rillmeter/rillmeterlaw01.FieldPowers", spec := "fieldPowers", recurses := true, apart := false }
def FieldPowersSaid : Prop := fieldPowersRow.holds Try.pinned (OpenSpec.ofChange fieldPowersSpec)

/-- ITS FALSE NEIGHBOUR: 'it returns false'. Refute it at one input. -/
def fieldPowersWrong : ChangeSpec := { name := "fieldPowers", fn := fun _ => fun
  | [d1, d2] => { results := [.lit (.bool false)], args := [d1, d2] }
  | _ => none }
def FieldPowersWrongFalsely : Prop := fieldPowersRow.holds Try.pinned (OpenSpec.ofChange fieldPowersWrong)

/-- 'rillmeterlaw01.FieldInverse': WHATEVER THE INPUT: true; the input reads as it did. -/
def fieldInverseSpec : ChangeSpec := { name := "fieldInverse", fn := fun _ => fun
  | [d] => { results := [.lit (.bool true)], args := [d] }
  | _ => none }
def fieldInverseRow : OpenClaim := { program := "ytcdfmabcbljnkaa", sum := "e4dcb6dc95dcec52f4fbef7a40daf45181edfd923d2ea96d5fdafa04206732ec", func := "rillmeter/rillmeterlaw01.FieldInverse", spec := "fieldInverse", apart := false }
def FieldInverseSaid : Prop := fieldInverseRow.holds Try.pinned (OpenSpec.ofChange fieldInverseSpec)

/-- ITS FALSE NEIGHBOUR: 'it returns false'. Refute it at one input. -/
def fieldInverseWrong : ChangeSpec := { name := "fieldInverse", fn := fun _ => fun
  | [d] => { results := [.lit (.bool false)], args := [d] }
  | _ => none }
def FieldInverseWrongFalsely : Prop := fieldInverseRow.holds Try.pinned (OpenSpec.ofChange fieldInverseWrong)

/-- 'rillmeterlaw01.FieldLaws': WHATEVER THE INPUT: true; the input reads as it did. -/
def fieldLawsSpec : ChangeSpec := { name := "fieldLaws", fn := fun _ => fun
  | [d1, d2, d3] => { results := [.lit (.bool true)], args := [d1, d2, d3] }
  | _ => none }
def fieldLawsRow : OpenClaim := { program := "ytcdfmabcbljnkaa", sum := "e4dcb6dc95dcec52f4fbef7a40daf45181edfd923d2ea96d5fdafa04206732ec", func := "rillmeter/rillmeterlaw01.FieldLaws", spec := "fieldLaws", apart := false }
def FieldLawsSaid : Prop := fieldLawsRow.holds Try.pinned (OpenSpec.ofChange fieldLawsSpec)

/-- ITS FALSE NEIGHBOUR: 'it returns false'. Refute it at one input. -/
def fieldLawsWrong : ChangeSpec := { name := "fieldLaws", fn := fun _ => fun
  | [d1, d2, d3] => { results := [.lit (.bool false)], args := [d1, d2, d3] }
  | _ => none }
def FieldLawsWrongFalsely : Prop := fieldLawsRow.holds Try.pinned (OpenSpec.ofChange fieldLawsWrong)

/-- 'rillmeterlaw01.FieldFermat': WHATEVER THE INPUT: true; the input reads as it did. -/
def fieldFermatSpec : ChangeSpec := { name := "fieldFermat", fn := fun _ => fun
  | [d] => { results := [.lit (.bool true)], args := [d] }
  | _ => none }
def fieldFermatRow : OpenClaim := { program := "ytcdfmabcbljnkaa", sum := "e4dcb6dc95dcec52f4fbef7a40daf45181edfd923d2ea96d5fdafa04206732ec", func := "rillmeter/rillmeterlaw01.FieldFermat", spec := "fieldFermat", apart := false }
def FieldFermatSaid : Prop := fieldFermatRow.holds Try.pinned (OpenSpec.ofChange fieldFermatSpec)

/-- ITS FALSE NEIGHBOUR: 'it returns false'. Refute it at one input. -/
def fieldFermatWrong : ChangeSpec := { name := "fieldFermat", fn := fun _ => fun
  | [d] => { results := [.lit (.bool false)], args := [d] }
  | _ => none }
def FieldFermatWrongFalsely : Prop := fieldFermatRow.holds Try.pinned (OpenSpec.ofChange fieldFermatWrong)

/-- 'rillmeterlaw01.FieldBack': WHATEVER THE INPUT: true; the input reads as it did. -/
def fieldBackSpec : ChangeSpec := { name := "fieldBack", fn := fun _ => fun
  | [d1, d2] => { results := [.lit (.bool true)], args := [d1, d2] }
  | _ => none }
def fieldBackRow : OpenClaim := { program := "ytcdfmabcbljnkaa", sum := "e4dcb6dc95dcec52f4fbef7a40daf45181edfd923d2ea96d5fdafa04206732ec", func := "rillmeter/rillmeterlaw01.FieldBack", spec := "fieldBack", apart := false }
def FieldBackSaid : Prop := fieldBackRow.holds Try.pinned (OpenSpec.ofChange fieldBackSpec)

/-- ITS FALSE NEIGHBOUR: 'it returns false'. Refute it at one input. -/
def fieldBackWrong : ChangeSpec := { name := "fieldBack", fn := fun _ => fun
  | [d1, d2] => { results := [.lit (.bool false)], args := [d1, d2] }
  | _ => none }
def FieldBackWrongFalsely : Prop := fieldBackRow.holds Try.pinned (OpenSpec.ofChange fieldBackWrong)

/-- 'rillmeterlaw01.FieldWithin': WHATEVER THE INPUT: true; the input reads as it did. -/
def fieldWithinSpec : ChangeSpec := { name := "fieldWithin", fn := fun _ => fun
  | [d1, d2] => { results := [.lit (.bool true)], args := [d1, d2] }
  | _ => none }
def fieldWithinRow : OpenClaim := { program := "ytcdfmabcbljnkaa", sum := "e4dcb6dc95dcec52f4fbef7a40daf45181edfd923d2ea96d5fdafa04206732ec", func := "rillmeter/rillmeterlaw01.FieldWithin", spec := "fieldWithin", apart := false }
def FieldWithinSaid : Prop := fieldWithinRow.holds Try.pinned (OpenSpec.ofChange fieldWithinSpec)

/-- ITS FALSE NEIGHBOUR: 'it returns false'. Refute it at one input. -/
def fieldWithinWrong : ChangeSpec := { name := "fieldWithin", fn := fun _ => fun
  | [d1, d2] => { results := [.lit (.bool false)], args := [d1, d2] }
  | _ => none }
def FieldWithinWrongFalsely : Prop := fieldWithinRow.holds Try.pinned (OpenSpec.ofChange fieldWithinWrong)

/-- 'rillmeterlaw01.FieldSums': WHATEVER THE INPUT: true; the input reads as it did. -/
def fieldSumsSpec : ChangeSpec := { name := "fieldSums", fn := fun _ => fun
  | [d1, d2, d3] => { results := [.lit (.bool true)], args := [d1, d2, d3] }
  | _ => none }
def fieldSumsRow : OpenClaim := { program := "ytcdfmabcbljnkaa", sum := "e4dcb6dc95dcec52f4fbef7a40daf45181edfd923d2ea96d5fdafa04206732ec", func := "rillmeter/rillmeterlaw01.FieldSums", spec := "fieldSums", apart := false }
def FieldSumsSaid : Prop := fieldSumsRow.holds Try.pinned (OpenSpec.ofChange fieldSumsSpec)

/-- ITS FALSE NEIGHBOUR: 'it returns false'. Refute it at one input. -/
def fieldSumsWrong : ChangeSpec := { name := "fieldSums", fn := fun _ => fun
  | [d1, d2, d3] => { results := [.lit (.bool false)], args := [d1, d2, d3] }
  | _ => none }
def FieldSumsWrongFalsely : Prop := fieldSumsRow.holds Try.pinned (OpenSpec.ofChange fieldSumsWrong)

/-- 'rillmeterlaw01.FieldSteps': WHATEVER THE INPUT: true; the input reads as it did. -/
def fieldStepsSpec : ChangeSpec := { name := "fieldSteps", fn := fun _ => fun
  | [d1, d2, d3] => { results := [.lit (.bool true)], args := [d1, d2, d3] }
  | _ => none }
def fieldStepsRow : OpenClaim := { program := "ytcdfmabcbljnkaa", sum := "e4dcb6dc95dcec52f4fbef7a40daf45181edfd923d2ea96d5fdafa04206732ec", func := "rillmeter/rillmeterlaw01.FieldSteps", spec := "fieldSteps", apart := false }
def FieldStepsSaid : Prop := fieldStepsRow.holds Try.pinned (OpenSpec.ofChange fieldStepsSpec)

/-- ITS FALSE NEIGHBOUR: 'it returns false'. Refute it at one input. -/
def fieldStepsWrong : ChangeSpec := { name := "fieldSteps", fn := fun _ => fun
  | [d1, d2, d3] => { results := [.lit (.bool false)], args := [d1, d2, d3] }
  | _ => none }
def FieldStepsWrongFalsely : Prop := fieldStepsRow.holds Try.pinned (OpenSpec.ofChange fieldStepsWrong)

/- THE SECOND FORM. 'bulk': how many values and letters a reading holds, each counted each time it is reached (what is shared counts as often as it is met; a slice's spare places count too). A statement '..UptoSaid' is the law's where the arguments, and the package variables that the reading takes, are together of bulk at most 1048576: NARROWER than '..Said'. Prove '..Said' where nothing that the law and all that it calls make is longer than what came in: it says more and counts as full. Else prove '..UptoSaid'. A law counts once. -/
mutual
def uptoBulk {H : Type} : DataW H → Nat
  | .lit (.string bytes) => bytes.length + 1
  | .lit _ => 1
  | .nil => 1
  | .ptr d => uptoBulk d + 1
  | .slice elems spare => uptoBulkAll elems + uptoBulkAll spare + 1
  | .agg parts => uptoBulkAll parts + 1
  | .iface _ d => uptoBulk d + 1
  | .map entries => uptoBulkEntries entries + 1
  | .held _ => 1
def uptoBulkAll {H : Type} : List (DataW H) → Nat
  | [] => 0
  | d :: r => uptoBulk d + uptoBulkAll r
def uptoBulkEntries {H : Type} : List (Lit × DataW H) → Nat
  | [] => 0
  | x :: r => uptoBulkEntry x + uptoBulkEntries r
def uptoBulkEntry {H : Type} : Lit × DataW H → Nat
  | (.string bytes, d) => bytes.length + uptoBulk d + 1
  | (_, d) => uptoBulk d + 1
 end
def uptoSmall : (H : Type) → List (DataW H) → Bool := fun _ ds => decide (uptoBulkAll ds ≤ 1048576)
def OpenSpec.upto (s : _root_.Go.ChangeSpec) : _root_.Go.OpenSpec := { _root_.Go.OpenSpec.ofChange s with cond := some uptoSmall }

/-- 'rillmeterlaw01.FieldPowers', WHERE WHAT IT READS IS OF BULK AT MOST 1048576: true; the input reads as it did. -/
def fieldPowersUptoRow : OpenClaim := { program := "ytcdfmabcbljnkaa", sum := "e4dcb6dc95dcec52f4fbef7a40daf45181edfd923d2ea96d5fdafa04206732ec", func := "rillmeter/rillmeterlaw01.FieldPowers", spec := "fieldPowers", recurses := true, apart := false, narrowed := true }
def FieldPowersUptoSaid : Prop := fieldPowersUptoRow.holds Try.pinned (OpenSpec.upto fieldPowersSpec)

/-- 'rillmeterlaw01.FieldInverse', WHERE WHAT IT READS IS OF BULK AT MOST 1048576: true; the input reads as it did. -/
def fieldInverseUptoRow : OpenClaim := { program := "ytcdfmabcbljnkaa", sum := "e4dcb6dc95dcec52f4fbef7a40daf45181edfd923d2ea96d5fdafa04206732ec", func := "rillmeter/rillmeterlaw01.FieldInverse", spec := "fieldInverse", apart := false, narrowed := true }
def FieldInverseUptoSaid : Prop := fieldInverseUptoRow.holds Try.pinned (OpenSpec.upto fieldInverseSpec)

/-- 'rillmeterlaw01.FieldLaws', WHERE WHAT IT READS IS OF BULK AT MOST 1048576: true; the input reads as it did. -/
def fieldLawsUptoRow : OpenClaim := { program := "ytcdfmabcbljnkaa", sum := "e4dcb6dc95dcec52f4fbef7a40daf45181edfd923d2ea96d5fdafa04206732ec", func := "rillmeter/rillmeterlaw01.FieldLaws", spec := "fieldLaws", apart := false, narrowed := true }
def FieldLawsUptoSaid : Prop := fieldLawsUptoRow.holds Try.pinned (OpenSpec.upto fieldLawsSpec)

/-- 'rillmeterlaw01.FieldFermat', WHERE WHAT IT READS IS OF BULK AT MOST 1048576: true; the input reads as it did. -/
def fieldFermatUptoRow : OpenClaim := { program := "ytcdfmabcbljnkaa", sum := "e4dcb6dc95dcec52f4fbef7a40daf45181edfd923d2ea96d5fdafa04206732ec", func := "rillmeter/rillmeterlaw01.FieldFermat", spec := "fieldFermat", apart := false, narrowed := true }
def FieldFermatUptoSaid : Prop := fieldFermatUptoRow.holds Try.pinned (OpenSpec.upto fieldFermatSpec)

/-- 'rillmeterlaw01.FieldBack', WHERE WHAT IT READS IS OF BULK AT MOST 1048576: true; the input reads as it did. -/
def fieldBackUptoRow : OpenClaim := { program := "ytcdfmabcbljnkaa", sum := "e4dcb6dc95dcec52f4fbef7a40daf45181edfd923d2ea96d5fdafa04206732ec", func := "rillmeter/rillmeterlaw01.FieldBack", spec := "fieldBack", apart := false, narrowed := true }
def FieldBackUptoSaid : Prop := fieldBackUptoRow.holds Try.pinned (OpenSpec.upto fieldBackSpec)

/-- 'rillmeterlaw01.FieldWithin', WHERE WHAT IT READS IS OF BULK AT MOST 1048576: true; the input reads as it did. -/
def fieldWithinUptoRow : OpenClaim := { program := "ytcdfmabcbljnkaa", sum := "e4dcb6dc95dcec52f4fbef7a40daf45181edfd923d2ea96d5fdafa04206732ec", func := "rillmeter/rillmeterlaw01.FieldWithin", spec := "fieldWithin", apart := false, narrowed := true }
def FieldWithinUptoSaid : Prop := fieldWithinUptoRow.holds Try.pinned (OpenSpec.upto fieldWithinSpec)

/-- 'rillmeterlaw01.FieldSums', WHERE WHAT IT READS IS OF BULK AT MOST 1048576: true; the input reads as it did. -/
def fieldSumsUptoRow : OpenClaim := { program := "ytcdfmabcbljnkaa", sum := "e4dcb6dc95dcec52f4fbef7a40daf45181edfd923d2ea96d5fdafa04206732ec", func := "rillmeter/rillmeterlaw01.FieldSums", spec := "fieldSums", apart := false, narrowed := true }
def FieldSumsUptoSaid : Prop := fieldSumsUptoRow.holds Try.pinned (OpenSpec.upto fieldSumsSpec)

/-- 'rillmeterlaw01.FieldSteps', WHERE WHAT IT READS IS OF BULK AT MOST 1048576: true; the input reads as it did. -/
def fieldStepsUptoRow : OpenClaim := { program := "ytcdfmabcbljnkaa", sum := "e4dcb6dc95dcec52f4fbef7a40daf45181edfd923d2ea96d5fdafa04206732ec", func := "rillmeter/rillmeterlaw01.FieldSteps", spec := "fieldSteps", apart := false, narrowed := true }
def FieldStepsUptoSaid : Prop := fieldStepsUptoRow.holds Try.pinned (OpenSpec.upto fieldStepsSpec)

end Rows
end Go.Proofs.Ytcdfmabcbljnkaa
