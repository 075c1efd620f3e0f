/-
  No cell of these rows narrows 'for every input' (looked for: loops, veiled, ifaces, maps, wideKeys, modest, calm, conditions, laid).
  DERIVED. THE GIVEN ROWS OF THIS SEAT. 6 by the template 'for every input the law returns true; each argument reads behind the call as it read before'; 0 by the template 'total and deterministic' (their statements: YtmlcafnnhpfpaaaTotals.lean).
  GIVEN WITH THE SEED: the statements are not yours to turn. If you find one false, say at which input.
  Laid BY PROGRAM, IN A SANDBOX (cutbox-rows.mjs): the forced cells as the released guide's own fill.sh prints them over the translation 3df81c3a2c7f97f6… (all of the seat's roots in one cut). By AI agents, Wed Nov 11 2026. No macro, syntax, notation, axiom, sorry.
-/
import Derived.Test.YtmlcafnnhpfpaaaChecked
import GoSem.Claim
import GoSem.ClaimJoined
import GoSem.ClaimMapViews
import Derived.JoinedTies
import Derived.KernelRfl
namespace Go.Proofs.Ytmlcafnnhpfpaaa
/- THE CELL 'sum', in the pinned program and in every row, IS THE sha256 OF THE DUMP (.gsa) THAT YtmlcafnnhpfpaaaProg.lean LOADS. Nothing in Lean hashes anything: it is a label: what it is worth is what the hold of that sum in a sandbox is worth. -/
noncomputable def Try.pinned : Pinned := { name := "ytmlcafnnhpfpaaa", sum := "3df81c3a2c7f97f688596f21e88ac96eedcf3a40194f05f87927aed19642824e", checked := Try.checked }
namespace Rows
def none {H : Type} : Left H := { results := [], args := [] }

/-- 'rillmeterlaw10.BloomNews': WHATEVER THE INPUT: true; the input reads as it did. -/
def bloomNewsSpec : ChangeSpec := { name := "bloomNews", fn := fun _ => fun
  | [d1, d2, d3] => { results := [.lit (.bool true)], args := [d1, d2, d3] }
  | _ => none }
def bloomNewsRow : OpenClaim := { program := "ytmlcafnnhpfpaaa", sum := "3df81c3a2c7f97f688596f21e88ac96eedcf3a40194f05f87927aed19642824e", func := "rillmeter/rillmeterlaw10.BloomNews", spec := "bloomNews", unfollowed := true, recurses := true, apart := false }
def BloomNewsSaid : Prop := bloomNewsRow.holds Try.pinned (OpenSpec.ofChange bloomNewsSpec)

/-- ITS FALSE NEIGHBOUR: 'it returns false'. Refute it at one input. -/
def bloomNewsWrong : ChangeSpec := { name := "bloomNews", fn := fun _ => fun
  | [d1, d2, d3] => { results := [.lit (.bool false)], args := [d1, d2, d3] }
  | _ => none }
def BloomNewsWrongFalsely : Prop := bloomNewsRow.holds Try.pinned (OpenSpec.ofChange bloomNewsWrong)

/-- 'rillmeterlaw10.BloomTurns': WHATEVER THE INPUT: true; the input reads as it did. -/
def bloomTurnsSpec : ChangeSpec := { name := "bloomTurns", fn := fun _ => fun
  | [d1, d2] => { results := [.lit (.bool true)], args := [d1, d2] }
  | _ => none }
def bloomTurnsRow : OpenClaim := { program := "ytmlcafnnhpfpaaa", sum := "3df81c3a2c7f97f688596f21e88ac96eedcf3a40194f05f87927aed19642824e", func := "rillmeter/rillmeterlaw10.BloomTurns", spec := "bloomTurns", unfollowed := true, recurses := true, apart := false }
def BloomTurnsSaid : Prop := bloomTurnsRow.holds Try.pinned (OpenSpec.ofChange bloomTurnsSpec)

/-- ITS FALSE NEIGHBOUR: 'it returns false'. Refute it at one input. -/
def bloomTurnsWrong : ChangeSpec := { name := "bloomTurns", fn := fun _ => fun
  | [d1, d2] => { results := [.lit (.bool false)], args := [d1, d2] }
  | _ => none }
def BloomTurnsWrongFalsely : Prop := bloomTurnsRow.holds Try.pinned (OpenSpec.ofChange bloomTurnsWrong)

/-- 'rillmeterlaw10.BloomFew': WHATEVER THE INPUT: true; the input reads as it did. -/
def bloomFewSpec : ChangeSpec := { name := "bloomFew", fn := fun _ => fun
  | [d1, d2, d3, d4] => { results := [.lit (.bool true)], args := [d1, d2, d3, d4] }
  | _ => none }
def bloomFewRow : OpenClaim := { program := "ytmlcafnnhpfpaaa", sum := "3df81c3a2c7f97f688596f21e88ac96eedcf3a40194f05f87927aed19642824e", func := "rillmeter/rillmeterlaw10.BloomFew", spec := "bloomFew", unfollowed := true, recurses := true, apart := false }
def BloomFewSaid : Prop := bloomFewRow.holds Try.pinned (OpenSpec.ofChange bloomFewSpec)

/-- ITS FALSE NEIGHBOUR: 'it returns false'. Refute it at one input. -/
def bloomFewWrong : ChangeSpec := { name := "bloomFew", fn := fun _ => fun
  | [d1, d2, d3, d4] => { results := [.lit (.bool false)], args := [d1, d2, d3, d4] }
  | _ => none }
def BloomFewWrongFalsely : Prop := bloomFewRow.holds Try.pinned (OpenSpec.ofChange bloomFewWrong)

/-- 'rillmeterlaw10.BloomPlaces': WHATEVER THE INPUT: true; the input reads as it did. -/
def bloomPlacesSpec : ChangeSpec := { name := "bloomPlaces", fn := fun _ => fun
  | [d1, d2] => { results := [.lit (.bool true)], args := [d1, d2] }
  | _ => none }
def bloomPlacesRow : OpenClaim := { program := "ytmlcafnnhpfpaaa", sum := "3df81c3a2c7f97f688596f21e88ac96eedcf3a40194f05f87927aed19642824e", func := "rillmeter/rillmeterlaw10.BloomPlaces", spec := "bloomPlaces", unfollowed := true, recurses := true, apart := false }
def BloomPlacesSaid : Prop := bloomPlacesRow.holds Try.pinned (OpenSpec.ofChange bloomPlacesSpec)

/-- ITS FALSE NEIGHBOUR: 'it returns false'. Refute it at one input. -/
def bloomPlacesWrong : ChangeSpec := { name := "bloomPlaces", fn := fun _ => fun
  | [d1, d2] => { results := [.lit (.bool false)], args := [d1, d2] }
  | _ => none }
def BloomPlacesWrongFalsely : Prop := bloomPlacesRow.holds Try.pinned (OpenSpec.ofChange bloomPlacesWrong)

/-- 'rillmeterlaw10.BloomMerges': WHATEVER THE INPUT: true; the input reads as it did. -/
def bloomMergesSpec : ChangeSpec := { name := "bloomMerges", fn := fun _ => fun
  | [d1, d2] => { results := [.lit (.bool true)], args := [d1, d2] }
  | _ => none }
def bloomMergesRow : OpenClaim := { program := "ytmlcafnnhpfpaaa", sum := "3df81c3a2c7f97f688596f21e88ac96eedcf3a40194f05f87927aed19642824e", func := "rillmeter/rillmeterlaw10.BloomMerges", spec := "bloomMerges", unfollowed := true, recurses := true, apart := false }
def BloomMergesSaid : Prop := bloomMergesRow.holds Try.pinned (OpenSpec.ofChange bloomMergesSpec)

/-- ITS FALSE NEIGHBOUR: 'it returns false'. Refute it at one input. -/
def bloomMergesWrong : ChangeSpec := { name := "bloomMerges", fn := fun _ => fun
  | [d1, d2] => { results := [.lit (.bool false)], args := [d1, d2] }
  | _ => none }
def BloomMergesWrongFalsely : Prop := bloomMergesRow.holds Try.pinned (OpenSpec.ofChange bloomMergesWrong)

/-- 'rillmeterlaw10.BloomKeeps': WHATEVER THE INPUT: true; the input reads as it did. -/
def bloomKeepsSpec : ChangeSpec := { name := "bloomKeeps", fn := fun _ => fun
  | [d1, d2, d3, d4, d5] => { results := [.lit (.bool true)], args := [d1, d2, d3, d4, d5] }
  | _ => none }
def bloomKeepsRow : OpenClaim := { program := "ytmlcafnnhpfpaaa", sum := "3df81c3a2c7f97f688596f21e88ac96eedcf3a40194f05f87927aed19642824e", func := "rillmeter/rillmeterlaw10.BloomKeeps", spec := "bloomKeeps", unfollowed := true, recurses := true, apart := false }
def BloomKeepsSaid : Prop := bloomKeepsRow.holds Try.pinned (OpenSpec.ofChange bloomKeepsSpec)

/-- ITS FALSE NEIGHBOUR: 'it returns false'. Refute it at one input. -/
def bloomKeepsWrong : ChangeSpec := { name := "bloomKeeps", fn := fun _ => fun
  | [d1, d2, d3, d4, d5] => { results := [.lit (.bool false)], args := [d1, d2, d3, d4, d5] }
  | _ => none }
def BloomKeepsWrongFalsely : Prop := bloomKeepsRow.holds Try.pinned (OpenSpec.ofChange bloomKeepsWrong)

/- THE SECOND FORM. 'bulk': how many values and letters a reading holds, each counted each time it is reached (what is shared counts as often as it is met; a slice's spare places count too). A statement '..UptoSaid' is the law's where the arguments, and the package variables that the reading takes, are together of bulk at most 1048576: NARROWER than '..Said'. Prove '..Said' where nothing that the law and all that it calls make is longer than what came in: it says more and counts as full. Else prove '..UptoSaid'. A law counts once. -/
mutual
def uptoBulk {H : Type} : DataW H → Nat
  | .lit (.string bytes) => bytes.length + 1
  | .lit _ => 1
  | .nil => 1
  | .ptr d => uptoBulk d + 1
  | .slice elems spare => uptoBulkAll elems + uptoBulkAll spare + 1
  | .agg parts => uptoBulkAll parts + 1
  | .iface _ d => uptoBulk d + 1
  | .map entries => uptoBulkEntries entries + 1
  | .held _ => 1
def uptoBulkAll {H : Type} : List (DataW H) → Nat
  | [] => 0
  | d :: r => uptoBulk d + uptoBulkAll r
def uptoBulkEntries {H : Type} : List (Lit × DataW H) → Nat
  | [] => 0
  | x :: r => uptoBulkEntry x + uptoBulkEntries r
def uptoBulkEntry {H : Type} : Lit × DataW H → Nat
  | (.string bytes, d) => bytes.length + uptoBulk d + 1
  | (_, d) => uptoBulk d + 1
 end
def uptoSmall : (H : Type) → List (DataW H) → Bool := fun _ ds => decide (uptoBulkAll ds ≤ 1048576)
def OpenSpec.upto (s : _root_.Go.ChangeSpec) : _root_.Go.OpenSpec := { _root_.Go.OpenSpec.ofChange s with cond := some uptoSmall }

/-- 'rillmeterlaw10.BloomNews', WHERE WHAT IT READS IS OF BULK AT MOST 1048576: true; the input reads as it did. -/
def bloomNewsUptoRow : OpenClaim := { program := "ytmlcafnnhpfpaaa", sum := "3df81c3a2c7f97f688596f21e88ac96eedcf3a40194f05f87927aed19642824e", func := "rillmeter/rillmeterlaw10.BloomNews", spec := "bloomNews", unfollowed := true, recurses := true, apart := false, narrowed := true }
def BloomNewsUptoSaid : Prop := bloomNewsUptoRow.holds Try.pinned (OpenSpec.upto bloomNewsSpec)

/-- 'rillmeterlaw10.BloomTurns', WHERE WHAT IT READS IS OF BULK AT MOST 1048576: true; the input reads as it did. -/
def bloomTurnsUptoRow : OpenClaim := { program := "ytmlcafnnhpfpaaa", sum := "3df81c3a2c7f97f688596f21e88ac96eedcf3a40194f05f87927aed19642824e", func := "rillmeter/rillmeterlaw10.BloomTurns", spec := "bloomTurns", unfollowed := true, recurses := true, apart := false, narrowed := true }
def BloomTurnsUptoSaid : Prop := bloomTurnsUptoRow.holds Try.pinned (OpenSpec.upto bloomTurnsSpec)

/-- 'rillmeterlaw10.BloomFew', WHERE WHAT IT READS IS OF BULK AT MOST 1048576: true; the input reads as it did. -/
def bloomFewUptoRow : OpenClaim := { program := "ytmlcafnnhpfpaaa", sum := "3df81c3a2c7f97f688596f21e88ac96eedcf3a40194f05f87927aed19642824e", func := "rillmeter/rillmeterlaw10.BloomFew", spec := "bloomFew", unfollowed := true, recurses := true, apart := false, narrowed := true }
def BloomFewUptoSaid : Prop := bloomFewUptoRow.holds Try.pinned (OpenSpec.upto bloomFewSpec)

/-- 'rillmeterlaw10.BloomPlaces', WHERE WHAT IT READS IS OF BULK AT MOST 1048576: true; the input reads as it did. -/
def bloomPlacesUptoRow : OpenClaim := { program := "ytmlcafnnhpfpaaa", sum := "3df81c3a2c7f97f688596f21e88ac96eedcf3a40194f05f87927aed19642824e", func := "rillmeter/rillmeterlaw10.BloomPlaces", spec := "bloomPlaces", unfollowed := true, recurses := true, apart := false, narrowed := true }
def BloomPlacesUptoSaid : Prop := bloomPlacesUptoRow.holds Try.pinned (OpenSpec.upto bloomPlacesSpec)

/-- 'rillmeterlaw10.BloomMerges', WHERE WHAT IT READS IS OF BULK AT MOST 1048576: true; the input reads as it did. -/
def bloomMergesUptoRow : OpenClaim := { program := "ytmlcafnnhpfpaaa", sum := "3df81c3a2c7f97f688596f21e88ac96eedcf3a40194f05f87927aed19642824e", func := "rillmeter/rillmeterlaw10.BloomMerges", spec := "bloomMerges", unfollowed := true, recurses := true, apart := false, narrowed := true }
def BloomMergesUptoSaid : Prop := bloomMergesUptoRow.holds Try.pinned (OpenSpec.upto bloomMergesSpec)

/-- 'rillmeterlaw10.BloomKeeps', WHERE WHAT IT READS IS OF BULK AT MOST 1048576: true; the input reads as it did. -/
def bloomKeepsUptoRow : OpenClaim := { program := "ytmlcafnnhpfpaaa", sum := "3df81c3a2c7f97f688596f21e88ac96eedcf3a40194f05f87927aed19642824e", func := "rillmeter/rillmeterlaw10.BloomKeeps", spec := "bloomKeeps", unfollowed := true, recurses := true, apart := false, narrowed := true }
def BloomKeepsUptoSaid : Prop := bloomKeepsUptoRow.holds Try.pinned (OpenSpec.upto bloomKeepsSpec)

end Rows
end Go.Proofs.Ytmlcafnnhpfpaaa
