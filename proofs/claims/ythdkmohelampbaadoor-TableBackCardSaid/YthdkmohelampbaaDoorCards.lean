/-
  DERIVED. GIVEN WITH THE SEED: THE CARDS: each row of YthdkmohelampbaaDoorRows.lean that lists a variable, with what it lists TIED to the program's text (the seventh form; the later family's looks); each row that meets fmt, with fmt's text TOLD by the authors' own Lean function (tested against real Go, not proved from fmt's source: count such statements apart). THE CARD IS WHAT COUNTS. Prove the row's statement (the work); the ties are given (YthdkmohelampbaaDoorTie.lean); close each card by the builder's one call (the guide's Derived/Test/ToyasCard.lean, 'card_holds'). Laid BY PROGRAM, IN A SANDBOX (cutbox-door.mjs). By AI agents, Wed Nov 11 2026. No macro, syntax, notation, axiom, sorry.
-/
import Derived.Test.YthdkmohelampbaaDoorRows
import GoSem.ClaimSeven
namespace Go.Proofs.YthdkmohelampbaaDoor
namespace Rows

/-- THE TIED CARD OF 'interchangelaw03.TableCut'. -/
def tableCutCard : Claim7 := { stood := { row := tableCutRow, standIns := [], harness := (true, "d19aa186dcf429ed8973f1eb4ed3d7df2a3a71f8dae97a10d725b731df0bc27e"), looks := false }, kinds := [], alts := [], laidByText := true, laidKinds := [.widerDeep], laidTests := true, laidLooks := .later }
def TableCutCardSaid : Prop := Claim7.holds Tryd.pinned (.plain (OpenSpec.ofChange tableCutSpec)) tableCutCard

/-- THE TIED CARD OF 'interchangelaw03.TableSwaps'. -/
def tableSwapsCard : Claim7 := { stood := { row := tableSwapsRow, standIns := [], harness := (true, "d19aa186dcf429ed8973f1eb4ed3d7df2a3a71f8dae97a10d725b731df0bc27e"), looks := false }, kinds := [], alts := [], laidByText := true, laidKinds := [.widerDeep], laidTests := true, laidLooks := .later }
def TableSwapsCardSaid : Prop := Claim7.holds Tryd.pinned (.plain (OpenSpec.ofChange tableSwapsSpec)) tableSwapsCard

/-- THE TIED CARD OF 'interchangelaw03.TableDeep'. -/
def tableDeepCard : Claim7 := { stood := { row := tableDeepRow, standIns := [], harness := (true, "d19aa186dcf429ed8973f1eb4ed3d7df2a3a71f8dae97a10d725b731df0bc27e"), looks := false }, kinds := [], alts := [], laidByText := true, laidKinds := [.widerDeep], laidTests := true, laidLooks := .later }
def TableDeepCardSaid : Prop := Claim7.holds Tryd.pinned (.plain (OpenSpec.ofChange tableDeepSpec)) tableDeepCard

/-- THE TIED CARD OF 'interchangelaw03.TableParts'. -/
def tablePartsCard : Claim7 := { stood := { row := tablePartsRow, standIns := [], harness := (true, "d19aa186dcf429ed8973f1eb4ed3d7df2a3a71f8dae97a10d725b731df0bc27e"), looks := false }, kinds := [], alts := [], laidByText := true, laidKinds := [.widerDeep], laidTests := true, laidLooks := .later }
def TablePartsCardSaid : Prop := Claim7.holds Tryd.pinned (.plain (OpenSpec.ofChange tablePartsSpec)) tablePartsCard

/-- THE TIED CARD OF 'interchangelaw03.TableBack'. -/
def tableBackCard : Claim7 := { stood := { row := tableBackRow, standIns := [], harness := (true, "d19aa186dcf429ed8973f1eb4ed3d7df2a3a71f8dae97a10d725b731df0bc27e"), looks := false }, kinds := [], alts := [], laidByText := true, laidKinds := [.widerDeep], laidTests := true, laidLooks := .later }
def TableBackCardSaid : Prop := Claim7.holds Tryd.pinned (.plain (OpenSpec.ofChange tableBackSpec)) tableBackCard

/-- THE TIED CARD OF 'interchangelaw03.TableTakes'. -/
def tableTakesCard : Claim7 := { stood := { row := tableTakesRow, standIns := [], harness := (true, "d19aa186dcf429ed8973f1eb4ed3d7df2a3a71f8dae97a10d725b731df0bc27e"), looks := false }, kinds := [], alts := [], laidByText := true, laidKinds := [.widerDeep], laidTests := true, laidLooks := .later }
def TableTakesCardSaid : Prop := Claim7.holds Tryd.pinned (.plain (OpenSpec.ofChange tableTakesSpec)) tableTakesCard

/-- THE TIED CARD OF 'interchangelaw03.TableNone'. -/
def tableNoneCard : Claim7 := { stood := { row := tableNoneRow, standIns := [], harness := (true, "d19aa186dcf429ed8973f1eb4ed3d7df2a3a71f8dae97a10d725b731df0bc27e"), looks := false }, kinds := [], alts := [], laidByText := true, laidKinds := [.widerDeep], laidTests := true, laidLooks := .later }
def TableNoneCardSaid : Prop := Claim7.holds Tryd.pinned (.plain (OpenSpec.ofChange tableNoneSpec)) tableNoneCard

/-- THE SECOND FORM's CARD OF 'interchangelaw03.TableCut'. -/
def tableCutUptoCard : Claim7 := { stood := { row := tableCutUptoRow, standIns := [], harness := (true, "d19aa186dcf429ed8973f1eb4ed3d7df2a3a71f8dae97a10d725b731df0bc27e"), looks := false }, kinds := [], alts := [], laidByText := true, laidKinds := [.widerDeep], laidTests := true, laidLooks := .later }
def TableCutUptoCardSaid : Prop := Claim7.holds Tryd.pinned (.plain (OpenSpec.upto tableCutSpec)) tableCutUptoCard

/-- THE SECOND FORM's CARD OF 'interchangelaw03.TableSwaps'. -/
def tableSwapsUptoCard : Claim7 := { stood := { row := tableSwapsUptoRow, standIns := [], harness := (true, "d19aa186dcf429ed8973f1eb4ed3d7df2a3a71f8dae97a10d725b731df0bc27e"), looks := false }, kinds := [], alts := [], laidByText := true, laidKinds := [.widerDeep], laidTests := true, laidLooks := .later }
def TableSwapsUptoCardSaid : Prop := Claim7.holds Tryd.pinned (.plain (OpenSpec.upto tableSwapsSpec)) tableSwapsUptoCard

/-- THE SECOND FORM's CARD OF 'interchangelaw03.TableDeep'. -/
def tableDeepUptoCard : Claim7 := { stood := { row := tableDeepUptoRow, standIns := [], harness := (true, "d19aa186dcf429ed8973f1eb4ed3d7df2a3a71f8dae97a10d725b731df0bc27e"), looks := false }, kinds := [], alts := [], laidByText := true, laidKinds := [.widerDeep], laidTests := true, laidLooks := .later }
def TableDeepUptoCardSaid : Prop := Claim7.holds Tryd.pinned (.plain (OpenSpec.upto tableDeepSpec)) tableDeepUptoCard

/-- THE SECOND FORM's CARD OF 'interchangelaw03.TableParts'. -/
def tablePartsUptoCard : Claim7 := { stood := { row := tablePartsUptoRow, standIns := [], harness := (true, "d19aa186dcf429ed8973f1eb4ed3d7df2a3a71f8dae97a10d725b731df0bc27e"), looks := false }, kinds := [], alts := [], laidByText := true, laidKinds := [.widerDeep], laidTests := true, laidLooks := .later }
def TablePartsUptoCardSaid : Prop := Claim7.holds Tryd.pinned (.plain (OpenSpec.upto tablePartsSpec)) tablePartsUptoCard

/-- THE SECOND FORM's CARD OF 'interchangelaw03.TableBack'. -/
def tableBackUptoCard : Claim7 := { stood := { row := tableBackUptoRow, standIns := [], harness := (true, "d19aa186dcf429ed8973f1eb4ed3d7df2a3a71f8dae97a10d725b731df0bc27e"), looks := false }, kinds := [], alts := [], laidByText := true, laidKinds := [.widerDeep], laidTests := true, laidLooks := .later }
def TableBackUptoCardSaid : Prop := Claim7.holds Tryd.pinned (.plain (OpenSpec.upto tableBackSpec)) tableBackUptoCard

/-- THE SECOND FORM's CARD OF 'interchangelaw03.TableTakes'. -/
def tableTakesUptoCard : Claim7 := { stood := { row := tableTakesUptoRow, standIns := [], harness := (true, "d19aa186dcf429ed8973f1eb4ed3d7df2a3a71f8dae97a10d725b731df0bc27e"), looks := false }, kinds := [], alts := [], laidByText := true, laidKinds := [.widerDeep], laidTests := true, laidLooks := .later }
def TableTakesUptoCardSaid : Prop := Claim7.holds Tryd.pinned (.plain (OpenSpec.upto tableTakesSpec)) tableTakesUptoCard

/-- THE SECOND FORM's CARD OF 'interchangelaw03.TableNone'. -/
def tableNoneUptoCard : Claim7 := { stood := { row := tableNoneUptoRow, standIns := [], harness := (true, "d19aa186dcf429ed8973f1eb4ed3d7df2a3a71f8dae97a10d725b731df0bc27e"), looks := false }, kinds := [], alts := [], laidByText := true, laidKinds := [.widerDeep], laidTests := true, laidLooks := .later }
def TableNoneUptoCardSaid : Prop := Claim7.holds Tryd.pinned (.plain (OpenSpec.upto tableNoneSpec)) tableNoneUptoCard
end Rows
end Go.Proofs.YthdkmohelampbaaDoor
