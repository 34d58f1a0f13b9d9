/-
  DERIVED. GIVEN WITH THE SEED: THE CARDS: each row of YtmpbhbbgnmkpgaaDoorRows.lean that lists a variable, with what it lists TIED to the program's text (the seventh form; the later family's looks); each row that meets fmt, with fmt's text TOLD by the authors' own Lean function (tested against real Go, not proved from fmt's source: count such statements apart). THE CARD IS WHAT COUNTS. Prove the row's statement (the work); the ties are given (YtmpbhbbgnmkpgaaDoorTie.lean); close each card by the builder's one call (the guide's Derived/Test/ToyasCard.lean, 'card_holds'). Laid BY PROGRAM, IN A SANDBOX (cutbox-door.mjs). By AI agents, Wed Nov 11 2026. No macro, syntax, notation, axiom, sorry.
-/
import Derived.Test.YtmpbhbbgnmkpgaaDoorRows
import GoSem.ClaimSeven
namespace Go.Proofs.YtmpbhbbgnmkpgaaDoor
namespace Rows

/-- THE TIED CARD OF 'interchangelaw02.TextPairs'. -/
def textPairsCard : Claim7 := { stood := { row := textPairsRow, standIns := [], harness := (true, "40ec3ebe26f66d4ac6d402172e25d796fbc2164c4798d777598c8dfabf1bdf95"), looks := false }, kinds := [], alts := [], laidByText := true, laidKinds := [.widerDeep], laidTests := true, laidLooks := .later }
def TextPairsCardSaid : Prop := Claim7.holds Tryd.pinned (.plain (OpenSpec.ofChange textPairsSpec)) textPairsCard

/-- THE TIED CARD OF 'interchangelaw02.TextNames'. -/
def textNamesCard : Claim7 := { stood := { row := textNamesRow, standIns := [], harness := (true, "40ec3ebe26f66d4ac6d402172e25d796fbc2164c4798d777598c8dfabf1bdf95"), looks := false }, kinds := [], alts := [], laidByText := true, laidKinds := [.widerDeep], laidTests := true, laidLooks := .later }
def TextNamesCardSaid : Prop := Claim7.holds Tryd.pinned (.plain (OpenSpec.ofChange textNamesSpec)) textNamesCard

/-- THE TIED CARD OF 'interchangelaw02.TextCuts'. -/
def textCutsCard : Claim7 := { stood := { row := textCutsRow, standIns := [], harness := (true, "40ec3ebe26f66d4ac6d402172e25d796fbc2164c4798d777598c8dfabf1bdf95"), looks := false }, kinds := [], alts := [], laidByText := true, laidKinds := [.widerDeep], laidTests := true, laidLooks := .later }
def TextCutsCardSaid : Prop := Claim7.holds Tryd.pinned (.plain (OpenSpec.ofChange textCutsSpec)) textCutsCard

/-- THE TIED CARD OF 'interchangelaw02.TextParts'. -/
def textPartsCard : Claim7 := { stood := { row := textPartsRow, standIns := [], harness := (true, "40ec3ebe26f66d4ac6d402172e25d796fbc2164c4798d777598c8dfabf1bdf95"), looks := false }, kinds := [], alts := [], laidByText := true, laidKinds := [.widerDeep], laidTests := true, laidLooks := .later }
def TextPartsCardSaid : Prop := Claim7.holds Tryd.pinned (.plain (OpenSpec.ofChange textPartsSpec)) textPartsCard

/-- THE TIED CARD OF 'interchangelaw02.TextLong'. -/
def textLongCard : Claim7 := { stood := { row := textLongRow, standIns := [], harness := (true, "40ec3ebe26f66d4ac6d402172e25d796fbc2164c4798d777598c8dfabf1bdf95"), looks := false }, kinds := [], alts := [], laidByText := true, laidKinds := [.widerDeep], laidTests := true, laidLooks := .later }
def TextLongCardSaid : Prop := Claim7.holds Tryd.pinned (.plain (OpenSpec.ofChange textLongSpec)) textLongCard

/-- THE TIED CARD OF 'interchangelaw02.TextLays'. -/
def textLaysCard : Claim7 := { stood := { row := textLaysRow, standIns := [], harness := (true, "40ec3ebe26f66d4ac6d402172e25d796fbc2164c4798d777598c8dfabf1bdf95"), looks := false }, kinds := [], alts := [], laidByText := true, laidKinds := [.widerDeep], laidTests := true, laidLooks := .later }
def TextLaysCardSaid : Prop := Claim7.holds Tryd.pinned (.plain (OpenSpec.ofChange textLaysSpec)) textLaysCard

/-- THE TIED CARD OF 'interchangelaw02.TextBack'. -/
def textBackCard : Claim7 := { stood := { row := textBackRow, standIns := [], harness := (true, "40ec3ebe26f66d4ac6d402172e25d796fbc2164c4798d777598c8dfabf1bdf95"), looks := false }, kinds := [], alts := [], laidByText := true, laidKinds := [.widerDeep], laidTests := true, laidLooks := .later }
def TextBackCardSaid : Prop := Claim7.holds Tryd.pinned (.plain (OpenSpec.ofChange textBackSpec)) textBackCard

/-- THE TIED CARD OF 'interchangelaw02.TextTwo'. -/
def textTwoCard : Claim7 := { stood := { row := textTwoRow, standIns := [], harness := (true, "40ec3ebe26f66d4ac6d402172e25d796fbc2164c4798d777598c8dfabf1bdf95"), looks := false }, kinds := [], alts := [], laidByText := true, laidKinds := [.widerDeep], laidTests := true, laidLooks := .later }
def TextTwoCardSaid : Prop := Claim7.holds Tryd.pinned (.plain (OpenSpec.ofChange textTwoSpec)) textTwoCard

/-- THE SECOND FORM's CARD OF 'interchangelaw02.TextPairs'. -/
def textPairsUptoCard : Claim7 := { stood := { row := textPairsUptoRow, standIns := [], harness := (true, "40ec3ebe26f66d4ac6d402172e25d796fbc2164c4798d777598c8dfabf1bdf95"), looks := false }, kinds := [], alts := [], laidByText := true, laidKinds := [.widerDeep], laidTests := true, laidLooks := .later }
def TextPairsUptoCardSaid : Prop := Claim7.holds Tryd.pinned (.plain (OpenSpec.upto textPairsSpec)) textPairsUptoCard

/-- THE SECOND FORM's CARD OF 'interchangelaw02.TextNames'. -/
def textNamesUptoCard : Claim7 := { stood := { row := textNamesUptoRow, standIns := [], harness := (true, "40ec3ebe26f66d4ac6d402172e25d796fbc2164c4798d777598c8dfabf1bdf95"), looks := false }, kinds := [], alts := [], laidByText := true, laidKinds := [.widerDeep], laidTests := true, laidLooks := .later }
def TextNamesUptoCardSaid : Prop := Claim7.holds Tryd.pinned (.plain (OpenSpec.upto textNamesSpec)) textNamesUptoCard

/-- THE SECOND FORM's CARD OF 'interchangelaw02.TextCuts'. -/
def textCutsUptoCard : Claim7 := { stood := { row := textCutsUptoRow, standIns := [], harness := (true, "40ec3ebe26f66d4ac6d402172e25d796fbc2164c4798d777598c8dfabf1bdf95"), looks := false }, kinds := [], alts := [], laidByText := true, laidKinds := [.widerDeep], laidTests := true, laidLooks := .later }
def TextCutsUptoCardSaid : Prop := Claim7.holds Tryd.pinned (.plain (OpenSpec.upto textCutsSpec)) textCutsUptoCard

/-- THE SECOND FORM's CARD OF 'interchangelaw02.TextParts'. -/
def textPartsUptoCard : Claim7 := { stood := { row := textPartsUptoRow, standIns := [], harness := (true, "40ec3ebe26f66d4ac6d402172e25d796fbc2164c4798d777598c8dfabf1bdf95"), looks := false }, kinds := [], alts := [], laidByText := true, laidKinds := [.widerDeep], laidTests := true, laidLooks := .later }
def TextPartsUptoCardSaid : Prop := Claim7.holds Tryd.pinned (.plain (OpenSpec.upto textPartsSpec)) textPartsUptoCard

/-- THE SECOND FORM's CARD OF 'interchangelaw02.TextLong'. -/
def textLongUptoCard : Claim7 := { stood := { row := textLongUptoRow, standIns := [], harness := (true, "40ec3ebe26f66d4ac6d402172e25d796fbc2164c4798d777598c8dfabf1bdf95"), looks := false }, kinds := [], alts := [], laidByText := true, laidKinds := [.widerDeep], laidTests := true, laidLooks := .later }
def TextLongUptoCardSaid : Prop := Claim7.holds Tryd.pinned (.plain (OpenSpec.upto textLongSpec)) textLongUptoCard

/-- THE SECOND FORM's CARD OF 'interchangelaw02.TextLays'. -/
def textLaysUptoCard : Claim7 := { stood := { row := textLaysUptoRow, standIns := [], harness := (true, "40ec3ebe26f66d4ac6d402172e25d796fbc2164c4798d777598c8dfabf1bdf95"), looks := false }, kinds := [], alts := [], laidByText := true, laidKinds := [.widerDeep], laidTests := true, laidLooks := .later }
def TextLaysUptoCardSaid : Prop := Claim7.holds Tryd.pinned (.plain (OpenSpec.upto textLaysSpec)) textLaysUptoCard

/-- THE SECOND FORM's CARD OF 'interchangelaw02.TextBack'. -/
def textBackUptoCard : Claim7 := { stood := { row := textBackUptoRow, standIns := [], harness := (true, "40ec3ebe26f66d4ac6d402172e25d796fbc2164c4798d777598c8dfabf1bdf95"), looks := false }, kinds := [], alts := [], laidByText := true, laidKinds := [.widerDeep], laidTests := true, laidLooks := .later }
def TextBackUptoCardSaid : Prop := Claim7.holds Tryd.pinned (.plain (OpenSpec.upto textBackSpec)) textBackUptoCard

/-- THE SECOND FORM's CARD OF 'interchangelaw02.TextTwo'. -/
def textTwoUptoCard : Claim7 := { stood := { row := textTwoUptoRow, standIns := [], harness := (true, "40ec3ebe26f66d4ac6d402172e25d796fbc2164c4798d777598c8dfabf1bdf95"), looks := false }, kinds := [], alts := [], laidByText := true, laidKinds := [.widerDeep], laidTests := true, laidLooks := .later }
def TextTwoUptoCardSaid : Prop := Claim7.holds Tryd.pinned (.plain (OpenSpec.upto textTwoSpec)) textTwoUptoCard
end Rows
end Go.Proofs.YtmpbhbbgnmkpgaaDoor
