/-
  DERIVED. GIVEN WITH THE SEED: THE CARDS: each row of YtjnbnkddbjeecaaDoorRows.lean that lists a variable, with what it lists TIED to the program's text (the seventh form; the later family's looks); each row that meets fmt, with fmt's text TOLD by the authors' own Lean function (tested against real Go, not proved from fmt's source: count such statements apart). THE CARD IS WHAT COUNTS. Prove the row's statement (the work); the ties are given (YtjnbnkddbjeecaaDoorTie.lean); close each card by the builder's one call (the guide's Derived/Test/ToyasCard.lean, 'card_holds'). Laid BY PROGRAM, IN A SANDBOX (cutbox-door.mjs). By AI agents, Wed Nov 11 2026. No macro, syntax, notation, axiom, sorry.
-/
import Derived.Test.YtjnbnkddbjeecaaDoorRows
import GoSem.ClaimSeven
namespace Go.Proofs.YtjnbnkddbjeecaaDoor
namespace Rows

/-- THE TIED CARD OF 'rillmeterlaw02.HashLevels'. -/
def hashLevelsCard : Claim7 := { stood := { row := hashLevelsRow, standIns := [], harness := (true, "5c4dd6d683d94fed74581dfacf76b7a53f865c2d0c33a54de5550a69daa8c9e5"), looks := false }, kinds := [], alts := [], laidByText := true, laidKinds := [.data], laidTests := true, laidLooks := .later }
def HashLevelsCardSaid : Prop := Claim7.holds Tryd.pinned (.plain (OpenSpec.ofChange hashLevelsSpec)) hashLevelsCard

/-- THE TIED CARD OF 'rillmeterlaw02.HashWithin'. -/
def hashWithinCard : Claim7 := { stood := { row := hashWithinRow, standIns := [], harness := (true, "5c4dd6d683d94fed74581dfacf76b7a53f865c2d0c33a54de5550a69daa8c9e5"), looks := false }, kinds := [], alts := [], laidByText := true, laidKinds := [.data], laidTests := true, laidLooks := .later }
def HashWithinCardSaid : Prop := Claim7.holds Tryd.pinned (.plain (OpenSpec.ofChange hashWithinSpec)) hashWithinCard

/-- THE SECOND FORM's CARD OF 'rillmeterlaw02.HashLevels'. -/
def hashLevelsUptoCard : Claim7 := { stood := { row := hashLevelsUptoRow, standIns := [], harness := (true, "5c4dd6d683d94fed74581dfacf76b7a53f865c2d0c33a54de5550a69daa8c9e5"), looks := false }, kinds := [], alts := [], laidByText := true, laidKinds := [.data], laidTests := true, laidLooks := .later }
def HashLevelsUptoCardSaid : Prop := Claim7.holds Tryd.pinned (.plain (OpenSpec.upto hashLevelsSpec)) hashLevelsUptoCard

/-- THE SECOND FORM's CARD OF 'rillmeterlaw02.HashWithin'. -/
def hashWithinUptoCard : Claim7 := { stood := { row := hashWithinUptoRow, standIns := [], harness := (true, "5c4dd6d683d94fed74581dfacf76b7a53f865c2d0c33a54de5550a69daa8c9e5"), looks := false }, kinds := [], alts := [], laidByText := true, laidKinds := [.data], laidTests := true, laidLooks := .later }
def HashWithinUptoCardSaid : Prop := Claim7.holds Tryd.pinned (.plain (OpenSpec.upto hashWithinSpec)) hashWithinUptoCard
end Rows
end Go.Proofs.YtjnbnkddbjeecaaDoor
