/-
  DERIVED. GIVEN WITH THE SEED: THE CARDS: each row of YtpcfpeejbhkbdaaDoorRows.lean that lists a variable, with what it lists TIED to the program's text (the seventh form; the later family's looks); each row that meets fmt, with fmt's text TOLD by the authors' own Lean function (tested against real Go, not proved from fmt's source: count such statements apart). THE CARD IS WHAT COUNTS. Prove the row's statement (the work); the ties are given (YtpcfpeejbhkbdaaDoorTie.lean); close each card by the builder's one call (the guide's Derived/Test/ToyasCard.lean, 'card_holds'). Laid BY PROGRAM, IN A SANDBOX (cutbox-door.mjs). By AI agents, Wed Nov 11 2026. No macro, syntax, notation, axiom, sorry.
-/
import Derived.Test.YtpcfpeejbhkbdaaDoorRows
import GoSem.ClaimSeven
namespace Go.Proofs.YtpcfpeejbhkbdaaDoor
namespace Rows

/-- THE TIED CARD OF 'interchangelaw01.NumRises'. -/
def numRisesCard : Claim7 := { stood := { row := numRisesRow, standIns := [], harness := (true, "9d8b6262cee818be4d3c6cb6bf173ada785dc95234cda6ae19bf09372d8e0348"), looks := false }, kinds := [], alts := [], laidByText := true, laidKinds := [.widerDeep], laidTests := true, laidLooks := .later }
def NumRisesCardSaid : Prop := Claim7.holds Tryd.pinned (.plain (OpenSpec.ofChange numRisesSpec)) numRisesCard

/-- THE TIED CARD OF 'interchangelaw01.NumBytes'. -/
def numBytesCard : Claim7 := { stood := { row := numBytesRow, standIns := [], harness := (true, "9d8b6262cee818be4d3c6cb6bf173ada785dc95234cda6ae19bf09372d8e0348"), looks := false }, kinds := [], alts := [], laidByText := true, laidKinds := [.widerDeep], laidTests := true, laidLooks := .later }
def NumBytesCardSaid : Prop := Claim7.holds Tryd.pinned (.plain (OpenSpec.ofChange numBytesSpec)) numBytesCard

/-- THE TIED CARD OF 'interchangelaw01.NumPuts'. -/
def numPutsCard : Claim7 := { stood := { row := numPutsRow, standIns := [], harness := (true, "9d8b6262cee818be4d3c6cb6bf173ada785dc95234cda6ae19bf09372d8e0348"), looks := false }, kinds := [], alts := [], laidByText := true, laidKinds := [.widerDeep], laidTests := true, laidLooks := .later }
def NumPutsCardSaid : Prop := Claim7.holds Tryd.pinned (.plain (OpenSpec.ofChange numPutsSpec)) numPutsCard

/-- THE TIED CARD OF 'interchangelaw01.NumBack'. -/
def numBackCard : Claim7 := { stood := { row := numBackRow, standIns := [], harness := (true, "9d8b6262cee818be4d3c6cb6bf173ada785dc95234cda6ae19bf09372d8e0348"), looks := false }, kinds := [], alts := [], laidByText := true, laidKinds := [.widerDeep], laidTests := true, laidLooks := .later }
def NumBackCardSaid : Prop := Claim7.holds Tryd.pinned (.plain (OpenSpec.ofChange numBackSpec)) numBackCard

/-- THE TIED CARD OF 'interchangelaw01.NumTwo'. -/
def numTwoCard : Claim7 := { stood := { row := numTwoRow, standIns := [], harness := (true, "9d8b6262cee818be4d3c6cb6bf173ada785dc95234cda6ae19bf09372d8e0348"), looks := false }, kinds := [], alts := [], laidByText := true, laidKinds := [.widerDeep], laidTests := true, laidLooks := .later }
def NumTwoCardSaid : Prop := Claim7.holds Tryd.pinned (.plain (OpenSpec.ofChange numTwoSpec)) numTwoCard

/-- THE TIED CARD OF 'interchangelaw01.NumCuts'. -/
def numCutsCard : Claim7 := { stood := { row := numCutsRow, standIns := [], harness := (true, "9d8b6262cee818be4d3c6cb6bf173ada785dc95234cda6ae19bf09372d8e0348"), looks := false }, kinds := [], alts := [], laidByText := true, laidKinds := [.widerDeep], laidTests := true, laidLooks := .later }
def NumCutsCardSaid : Prop := Claim7.holds Tryd.pinned (.plain (OpenSpec.ofChange numCutsSpec)) numCutsCard

/-- THE TIED CARD OF 'interchangelaw01.NumBitsBack'. -/
def numBitsBackCard : Claim7 := { stood := { row := numBitsBackRow, standIns := [], harness := (true, "9d8b6262cee818be4d3c6cb6bf173ada785dc95234cda6ae19bf09372d8e0348"), looks := false }, kinds := [], alts := [], laidByText := true, laidKinds := [.widerDeep], laidTests := true, laidLooks := .later }
def NumBitsBackCardSaid : Prop := Claim7.holds Tryd.pinned (.plain (OpenSpec.ofChange numBitsBackSpec)) numBitsBackCard

/-- THE TIED CARD OF 'interchangelaw01.NumBits'. -/
def numBitsCard : Claim7 := { stood := { row := numBitsRow, standIns := [], harness := (true, "9d8b6262cee818be4d3c6cb6bf173ada785dc95234cda6ae19bf09372d8e0348"), looks := false }, kinds := [], alts := [], laidByText := true, laidKinds := [.widerDeep], laidTests := true, laidLooks := .later }
def NumBitsCardSaid : Prop := Claim7.holds Tryd.pinned (.plain (OpenSpec.ofChange numBitsSpec)) numBitsCard

/-- THE SECOND FORM's CARD OF 'interchangelaw01.NumRises'. -/
def numRisesUptoCard : Claim7 := { stood := { row := numRisesUptoRow, standIns := [], harness := (true, "9d8b6262cee818be4d3c6cb6bf173ada785dc95234cda6ae19bf09372d8e0348"), looks := false }, kinds := [], alts := [], laidByText := true, laidKinds := [.widerDeep], laidTests := true, laidLooks := .later }
def NumRisesUptoCardSaid : Prop := Claim7.holds Tryd.pinned (.plain (OpenSpec.upto numRisesSpec)) numRisesUptoCard

/-- THE SECOND FORM's CARD OF 'interchangelaw01.NumBytes'. -/
def numBytesUptoCard : Claim7 := { stood := { row := numBytesUptoRow, standIns := [], harness := (true, "9d8b6262cee818be4d3c6cb6bf173ada785dc95234cda6ae19bf09372d8e0348"), looks := false }, kinds := [], alts := [], laidByText := true, laidKinds := [.widerDeep], laidTests := true, laidLooks := .later }
def NumBytesUptoCardSaid : Prop := Claim7.holds Tryd.pinned (.plain (OpenSpec.upto numBytesSpec)) numBytesUptoCard

/-- THE SECOND FORM's CARD OF 'interchangelaw01.NumPuts'. -/
def numPutsUptoCard : Claim7 := { stood := { row := numPutsUptoRow, standIns := [], harness := (true, "9d8b6262cee818be4d3c6cb6bf173ada785dc95234cda6ae19bf09372d8e0348"), looks := false }, kinds := [], alts := [], laidByText := true, laidKinds := [.widerDeep], laidTests := true, laidLooks := .later }
def NumPutsUptoCardSaid : Prop := Claim7.holds Tryd.pinned (.plain (OpenSpec.upto numPutsSpec)) numPutsUptoCard

/-- THE SECOND FORM's CARD OF 'interchangelaw01.NumBack'. -/
def numBackUptoCard : Claim7 := { stood := { row := numBackUptoRow, standIns := [], harness := (true, "9d8b6262cee818be4d3c6cb6bf173ada785dc95234cda6ae19bf09372d8e0348"), looks := false }, kinds := [], alts := [], laidByText := true, laidKinds := [.widerDeep], laidTests := true, laidLooks := .later }
def NumBackUptoCardSaid : Prop := Claim7.holds Tryd.pinned (.plain (OpenSpec.upto numBackSpec)) numBackUptoCard

/-- THE SECOND FORM's CARD OF 'interchangelaw01.NumTwo'. -/
def numTwoUptoCard : Claim7 := { stood := { row := numTwoUptoRow, standIns := [], harness := (true, "9d8b6262cee818be4d3c6cb6bf173ada785dc95234cda6ae19bf09372d8e0348"), looks := false }, kinds := [], alts := [], laidByText := true, laidKinds := [.widerDeep], laidTests := true, laidLooks := .later }
def NumTwoUptoCardSaid : Prop := Claim7.holds Tryd.pinned (.plain (OpenSpec.upto numTwoSpec)) numTwoUptoCard

/-- THE SECOND FORM's CARD OF 'interchangelaw01.NumCuts'. -/
def numCutsUptoCard : Claim7 := { stood := { row := numCutsUptoRow, standIns := [], harness := (true, "9d8b6262cee818be4d3c6cb6bf173ada785dc95234cda6ae19bf09372d8e0348"), looks := false }, kinds := [], alts := [], laidByText := true, laidKinds := [.widerDeep], laidTests := true, laidLooks := .later }
def NumCutsUptoCardSaid : Prop := Claim7.holds Tryd.pinned (.plain (OpenSpec.upto numCutsSpec)) numCutsUptoCard

/-- THE SECOND FORM's CARD OF 'interchangelaw01.NumBitsBack'. -/
def numBitsBackUptoCard : Claim7 := { stood := { row := numBitsBackUptoRow, standIns := [], harness := (true, "9d8b6262cee818be4d3c6cb6bf173ada785dc95234cda6ae19bf09372d8e0348"), looks := false }, kinds := [], alts := [], laidByText := true, laidKinds := [.widerDeep], laidTests := true, laidLooks := .later }
def NumBitsBackUptoCardSaid : Prop := Claim7.holds Tryd.pinned (.plain (OpenSpec.upto numBitsBackSpec)) numBitsBackUptoCard

/-- THE SECOND FORM's CARD OF 'interchangelaw01.NumBits'. -/
def numBitsUptoCard : Claim7 := { stood := { row := numBitsUptoRow, standIns := [], harness := (true, "9d8b6262cee818be4d3c6cb6bf173ada785dc95234cda6ae19bf09372d8e0348"), looks := false }, kinds := [], alts := [], laidByText := true, laidKinds := [.widerDeep], laidTests := true, laidLooks := .later }
def NumBitsUptoCardSaid : Prop := Claim7.holds Tryd.pinned (.plain (OpenSpec.upto numBitsSpec)) numBitsUptoCard
end Rows
end Go.Proofs.YtpcfpeejbhkbdaaDoor
