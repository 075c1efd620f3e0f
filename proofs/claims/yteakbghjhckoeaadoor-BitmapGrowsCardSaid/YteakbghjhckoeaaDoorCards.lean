/-
  DERIVED. GIVEN WITH THE SEED: THE CARDS: each row of YteakbghjhckoeaaDoorRows.lean that lists a variable, with what it lists TIED to the program's text (the seventh form; the later family's looks); each row that meets fmt, with fmt's text TOLD by the authors' own Lean function (tested against real Go, not proved from fmt's source: count such statements apart). THE CARD IS WHAT COUNTS. Prove the row's statement (the work); the ties are given (YteakbghjhckoeaaDoorTie.lean); close each card by the builder's one call (the guide's Derived/Test/ToyasCard.lean, 'card_holds'). Laid BY PROGRAM, IN A SANDBOX (cutbox-door.mjs). By AI agents, Wed Nov 11 2026. No macro, syntax, notation, axiom, sorry.
-/
import Derived.Test.YteakbghjhckoeaaDoorRows
import GoSem.ClaimSeven
namespace Go.Proofs.YteakbghjhckoeaaDoor
namespace Rows

/-- THE TIED CARD OF 'rillmeterlaw13.BitmapNews'. -/
def bitmapNewsCard : Claim7 := { stood := { row := bitmapNewsRow, standIns := [], harness := (true, "ecb506c506860cdf976bbccb1a807101d354d8884e17b599636ff1d1ede8f659"), looks := false }, kinds := [], alts := [], laidByText := true, laidKinds := [.data], laidTests := true, laidLooks := .later }
def BitmapNewsCardSaid : Prop := Claim7.holds Tryd.pinned (.plain (OpenSpec.ofChange bitmapNewsSpec)) bitmapNewsCard

/-- THE TIED CARD OF 'rillmeterlaw13.BitmapTurns'. -/
def bitmapTurnsCard : Claim7 := { stood := { row := bitmapTurnsRow, standIns := [], harness := (true, "ecb506c506860cdf976bbccb1a807101d354d8884e17b599636ff1d1ede8f659"), looks := false }, kinds := [], alts := [], laidByText := true, laidKinds := [.data], laidTests := true, laidLooks := .later }
def BitmapTurnsCardSaid : Prop := Claim7.holds Tryd.pinned (.plain (OpenSpec.ofChange bitmapTurnsSpec)) bitmapTurnsCard

/-- THE TIED CARD OF 'rillmeterlaw13.BitmapSets'. -/
def bitmapSetsCard : Claim7 := { stood := { row := bitmapSetsRow, standIns := [], harness := (true, "ecb506c506860cdf976bbccb1a807101d354d8884e17b599636ff1d1ede8f659"), looks := false }, kinds := [], alts := [], laidByText := true, laidKinds := [.data], laidTests := true, laidLooks := .later }
def BitmapSetsCardSaid : Prop := Claim7.holds Tryd.pinned (.plain (OpenSpec.ofChange bitmapSetsSpec)) bitmapSetsCard

/-- THE TIED CARD OF 'rillmeterlaw13.BitmapMerges'. -/
def bitmapMergesCard : Claim7 := { stood := { row := bitmapMergesRow, standIns := [], harness := (true, "ecb506c506860cdf976bbccb1a807101d354d8884e17b599636ff1d1ede8f659"), looks := false }, kinds := [], alts := [], laidByText := true, laidKinds := [.data], laidTests := true, laidLooks := .later }
def BitmapMergesCardSaid : Prop := Claim7.holds Tryd.pinned (.plain (OpenSpec.ofChange bitmapMergesSpec)) bitmapMergesCard

/-- THE TIED CARD OF 'rillmeterlaw13.BitmapGrows'. -/
def bitmapGrowsCard : Claim7 := { stood := { row := bitmapGrowsRow, standIns := [], harness := (true, "ecb506c506860cdf976bbccb1a807101d354d8884e17b599636ff1d1ede8f659"), looks := false }, kinds := [], alts := [], laidByText := true, laidKinds := [.data], laidTests := true, laidLooks := .later }
def BitmapGrowsCardSaid : Prop := Claim7.holds Tryd.pinned (.plain (OpenSpec.ofChange bitmapGrowsSpec)) bitmapGrowsCard

/-- THE SECOND FORM's CARD OF 'rillmeterlaw13.BitmapNews'. -/
def bitmapNewsUptoCard : Claim7 := { stood := { row := bitmapNewsUptoRow, standIns := [], harness := (true, "ecb506c506860cdf976bbccb1a807101d354d8884e17b599636ff1d1ede8f659"), looks := false }, kinds := [], alts := [], laidByText := true, laidKinds := [.data], laidTests := true, laidLooks := .later }
def BitmapNewsUptoCardSaid : Prop := Claim7.holds Tryd.pinned (.plain (OpenSpec.upto bitmapNewsSpec)) bitmapNewsUptoCard

/-- THE SECOND FORM's CARD OF 'rillmeterlaw13.BitmapTurns'. -/
def bitmapTurnsUptoCard : Claim7 := { stood := { row := bitmapTurnsUptoRow, standIns := [], harness := (true, "ecb506c506860cdf976bbccb1a807101d354d8884e17b599636ff1d1ede8f659"), looks := false }, kinds := [], alts := [], laidByText := true, laidKinds := [.data], laidTests := true, laidLooks := .later }
def BitmapTurnsUptoCardSaid : Prop := Claim7.holds Tryd.pinned (.plain (OpenSpec.upto bitmapTurnsSpec)) bitmapTurnsUptoCard

/-- THE SECOND FORM's CARD OF 'rillmeterlaw13.BitmapSets'. -/
def bitmapSetsUptoCard : Claim7 := { stood := { row := bitmapSetsUptoRow, standIns := [], harness := (true, "ecb506c506860cdf976bbccb1a807101d354d8884e17b599636ff1d1ede8f659"), looks := false }, kinds := [], alts := [], laidByText := true, laidKinds := [.data], laidTests := true, laidLooks := .later }
def BitmapSetsUptoCardSaid : Prop := Claim7.holds Tryd.pinned (.plain (OpenSpec.upto bitmapSetsSpec)) bitmapSetsUptoCard

/-- THE SECOND FORM's CARD OF 'rillmeterlaw13.BitmapMerges'. -/
def bitmapMergesUptoCard : Claim7 := { stood := { row := bitmapMergesUptoRow, standIns := [], harness := (true, "ecb506c506860cdf976bbccb1a807101d354d8884e17b599636ff1d1ede8f659"), looks := false }, kinds := [], alts := [], laidByText := true, laidKinds := [.data], laidTests := true, laidLooks := .later }
def BitmapMergesUptoCardSaid : Prop := Claim7.holds Tryd.pinned (.plain (OpenSpec.upto bitmapMergesSpec)) bitmapMergesUptoCard

/-- THE SECOND FORM's CARD OF 'rillmeterlaw13.BitmapGrows'. -/
def bitmapGrowsUptoCard : Claim7 := { stood := { row := bitmapGrowsUptoRow, standIns := [], harness := (true, "ecb506c506860cdf976bbccb1a807101d354d8884e17b599636ff1d1ede8f659"), looks := false }, kinds := [], alts := [], laidByText := true, laidKinds := [.data], laidTests := true, laidLooks := .later }
def BitmapGrowsUptoCardSaid : Prop := Claim7.holds Tryd.pinned (.plain (OpenSpec.upto bitmapGrowsSpec)) bitmapGrowsUptoCard
end Rows
end Go.Proofs.YteakbghjhckoeaaDoor
