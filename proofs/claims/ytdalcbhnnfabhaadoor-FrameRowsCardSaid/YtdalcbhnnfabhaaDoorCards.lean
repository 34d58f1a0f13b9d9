/-
  DERIVED. GIVEN WITH THE SEED: THE CARDS: each row of YtdalcbhnnfabhaaDoorRows.lean that lists a variable, with what it lists TIED to the program's text (the seventh form; the later family's looks); each row that meets fmt, with fmt's text TOLD by the authors' own Lean function (tested against real Go, not proved from fmt's source: count such statements apart). THE CARD IS WHAT COUNTS. Prove the row's statement (the work); the ties are given (YtdalcbhnnfabhaaDoorTie.lean); close each card by the builder's one call (the guide's Derived/Test/ToyasCard.lean, 'card_holds'). Laid BY PROGRAM, IN A SANDBOX (cutbox-door.mjs). By AI agents, Wed Nov 11 2026. No macro, syntax, notation, axiom, sorry.
-/
import Derived.Test.YtdalcbhnnfabhaaDoorRows
import GoSem.ClaimSeven
namespace Go.Proofs.YtdalcbhnnfabhaaDoor
namespace Rows

/-- THE TIED CARD OF 'interchangelaw04.FrameBegins'. -/
def frameBeginsCard : Claim7 := { stood := { row := frameBeginsRow, standIns := [], harness := (true, "d802301accc209aea7a04e02603678ad40054ed8b548a88d1a48b57f83a9ef6e"), looks := false }, kinds := [], alts := [], laidByText := true, laidKinds := [.widerDeep, .data], laidTests := true, laidLooks := .later }
def FrameBeginsCardSaid : Prop := Claim7.holds Tryd.pinned (.plain (OpenSpec.ofChange frameBeginsSpec)) frameBeginsCard

/-- THE TIED CARD OF 'interchangelaw04.FrameBack'. -/
def frameBackCard : Claim7 := { stood := { row := frameBackRow, standIns := [], harness := (true, "d802301accc209aea7a04e02603678ad40054ed8b548a88d1a48b57f83a9ef6e"), looks := false }, kinds := [], alts := [], laidByText := true, laidKinds := [.widerDeep, .data], laidTests := true, laidLooks := .later }
def FrameBackCardSaid : Prop := Claim7.holds Tryd.pinned (.plain (OpenSpec.ofChange frameBackSpec)) frameBackCard

/-- THE TIED CARD OF 'interchangelaw04.FrameMost'. -/
def frameMostCard : Claim7 := { stood := { row := frameMostRow, standIns := [], harness := (true, "d802301accc209aea7a04e02603678ad40054ed8b548a88d1a48b57f83a9ef6e"), looks := false }, kinds := [], alts := [], laidByText := true, laidKinds := [.widerDeep, .data], laidTests := true, laidLooks := .later }
def FrameMostCardSaid : Prop := Claim7.holds Tryd.pinned (.plain (OpenSpec.ofChange frameMostSpec)) frameMostCard

/-- THE TIED CARD OF 'interchangelaw04.FramePieces'. -/
def framePiecesCard : Claim7 := { stood := { row := framePiecesRow, standIns := [], harness := (true, "d802301accc209aea7a04e02603678ad40054ed8b548a88d1a48b57f83a9ef6e"), looks := false }, kinds := [], alts := [], laidByText := true, laidKinds := [.widerDeep, .data], laidTests := true, laidLooks := .later }
def FramePiecesCardSaid : Prop := Claim7.holds Tryd.pinned (.plain (OpenSpec.ofChange framePiecesSpec)) framePiecesCard

/-- THE TIED CARD OF 'interchangelaw04.FrameRows'. -/
def frameRowsCard : Claim7 := { stood := { row := frameRowsRow, standIns := [], harness := (true, "d802301accc209aea7a04e02603678ad40054ed8b548a88d1a48b57f83a9ef6e"), looks := false }, kinds := [], alts := [], laidByText := true, laidKinds := [.widerDeep, .data], laidTests := true, laidLooks := .later }
def FrameRowsCardSaid : Prop := Claim7.holds Tryd.pinned (.plain (OpenSpec.ofChange frameRowsSpec)) frameRowsCard

/-- THE TIED CARD OF 'interchangelaw04.FrameBeats'. -/
def frameBeatsCard : Claim7 := { stood := { row := frameBeatsRow, standIns := [], harness := (true, "d802301accc209aea7a04e02603678ad40054ed8b548a88d1a48b57f83a9ef6e"), looks := false }, kinds := [], alts := [], laidByText := true, laidKinds := [.widerDeep, .data], laidTests := true, laidLooks := .later }
def FrameBeatsCardSaid : Prop := Claim7.holds Tryd.pinned (.plain (OpenSpec.ofChange frameBeatsSpec)) frameBeatsCard

/-- THE TIED CARD OF 'interchangelaw04.FrameTakes'. -/
def frameTakesCard : Claim7 := { stood := { row := frameTakesRow, standIns := [], harness := (true, "d802301accc209aea7a04e02603678ad40054ed8b548a88d1a48b57f83a9ef6e"), looks := false }, kinds := [], alts := [], laidByText := true, laidKinds := [.widerDeep, .data], laidTests := true, laidLooks := .later }
def FrameTakesCardSaid : Prop := Claim7.holds Tryd.pinned (.plain (OpenSpec.ofChange frameTakesSpec)) frameTakesCard

/-- THE SECOND FORM's CARD OF 'interchangelaw04.FrameBegins'. -/
def frameBeginsUptoCard : Claim7 := { stood := { row := frameBeginsUptoRow, standIns := [], harness := (true, "d802301accc209aea7a04e02603678ad40054ed8b548a88d1a48b57f83a9ef6e"), looks := false }, kinds := [], alts := [], laidByText := true, laidKinds := [.widerDeep, .data], laidTests := true, laidLooks := .later }
def FrameBeginsUptoCardSaid : Prop := Claim7.holds Tryd.pinned (.plain (OpenSpec.upto frameBeginsSpec)) frameBeginsUptoCard

/-- THE SECOND FORM's CARD OF 'interchangelaw04.FrameBack'. -/
def frameBackUptoCard : Claim7 := { stood := { row := frameBackUptoRow, standIns := [], harness := (true, "d802301accc209aea7a04e02603678ad40054ed8b548a88d1a48b57f83a9ef6e"), looks := false }, kinds := [], alts := [], laidByText := true, laidKinds := [.widerDeep, .data], laidTests := true, laidLooks := .later }
def FrameBackUptoCardSaid : Prop := Claim7.holds Tryd.pinned (.plain (OpenSpec.upto frameBackSpec)) frameBackUptoCard

/-- THE SECOND FORM's CARD OF 'interchangelaw04.FrameMost'. -/
def frameMostUptoCard : Claim7 := { stood := { row := frameMostUptoRow, standIns := [], harness := (true, "d802301accc209aea7a04e02603678ad40054ed8b548a88d1a48b57f83a9ef6e"), looks := false }, kinds := [], alts := [], laidByText := true, laidKinds := [.widerDeep, .data], laidTests := true, laidLooks := .later }
def FrameMostUptoCardSaid : Prop := Claim7.holds Tryd.pinned (.plain (OpenSpec.upto frameMostSpec)) frameMostUptoCard

/-- THE SECOND FORM's CARD OF 'interchangelaw04.FramePieces'. -/
def framePiecesUptoCard : Claim7 := { stood := { row := framePiecesUptoRow, standIns := [], harness := (true, "d802301accc209aea7a04e02603678ad40054ed8b548a88d1a48b57f83a9ef6e"), looks := false }, kinds := [], alts := [], laidByText := true, laidKinds := [.widerDeep, .data], laidTests := true, laidLooks := .later }
def FramePiecesUptoCardSaid : Prop := Claim7.holds Tryd.pinned (.plain (OpenSpec.upto framePiecesSpec)) framePiecesUptoCard

/-- THE SECOND FORM's CARD OF 'interchangelaw04.FrameRows'. -/
def frameRowsUptoCard : Claim7 := { stood := { row := frameRowsUptoRow, standIns := [], harness := (true, "d802301accc209aea7a04e02603678ad40054ed8b548a88d1a48b57f83a9ef6e"), looks := false }, kinds := [], alts := [], laidByText := true, laidKinds := [.widerDeep, .data], laidTests := true, laidLooks := .later }
def FrameRowsUptoCardSaid : Prop := Claim7.holds Tryd.pinned (.plain (OpenSpec.upto frameRowsSpec)) frameRowsUptoCard

/-- THE SECOND FORM's CARD OF 'interchangelaw04.FrameBeats'. -/
def frameBeatsUptoCard : Claim7 := { stood := { row := frameBeatsUptoRow, standIns := [], harness := (true, "d802301accc209aea7a04e02603678ad40054ed8b548a88d1a48b57f83a9ef6e"), looks := false }, kinds := [], alts := [], laidByText := true, laidKinds := [.widerDeep, .data], laidTests := true, laidLooks := .later }
def FrameBeatsUptoCardSaid : Prop := Claim7.holds Tryd.pinned (.plain (OpenSpec.upto frameBeatsSpec)) frameBeatsUptoCard

/-- THE SECOND FORM's CARD OF 'interchangelaw04.FrameTakes'. -/
def frameTakesUptoCard : Claim7 := { stood := { row := frameTakesUptoRow, standIns := [], harness := (true, "d802301accc209aea7a04e02603678ad40054ed8b548a88d1a48b57f83a9ef6e"), looks := false }, kinds := [], alts := [], laidByText := true, laidKinds := [.widerDeep, .data], laidTests := true, laidLooks := .later }
def FrameTakesUptoCardSaid : Prop := Claim7.holds Tryd.pinned (.plain (OpenSpec.upto frameTakesSpec)) frameTakesUptoCard
end Rows
end Go.Proofs.YtdalcbhnnfabhaaDoor
