/-
  DERIVED. GIVEN WITH THE SEED: THE CARDS: each row of YthpfcplhlhnfeaaDoorRows.lean that lists a variable, with what it lists TIED to the program's text (the seventh form; the later family's looks); each row that meets fmt, with fmt's text TOLD by the authors' own Lean function (tested against real Go, not proved from fmt's source: count such statements apart). THE CARD IS WHAT COUNTS. Prove the row's statement (the work); the ties are given (YthpfcplhlhnfeaaDoorTie.lean); close each card by the builder's one call (the guide's Derived/Test/ToyasCard.lean, 'card_holds'). Laid BY PROGRAM, IN A SANDBOX (cutbox-door.mjs). By AI agents, Wed Nov 11 2026. No macro, syntax, notation, axiom, sorry.
-/
import Derived.Test.YthpfcplhlhnfeaaDoorRows
import GoSem.ClaimSeven
namespace Go.Proofs.YthpfcplhlhnfeaaDoor
namespace Rows

/-- THE TIED CARD OF 'interchangelaw07.PropsBack'. -/
def propsBackCard : Claim7 := { stood := { row := propsBackRow, standIns := [], harness := (true, "8b55ae605007febdbae42c074c1b63802fb4a9fdb5249dd5d4df9967ea07a5b4"), looks := false }, kinds := [], alts := [], laidByText := true, laidKinds := [.widerDeep], laidTests := true, laidLooks := .later }
def PropsBackCardSaid : Prop := Claim7.holds Tryd.pinned (.plain (OpenSpec.ofChange propsBackSpec)) propsBackCard

/-- THE TIED CARD OF 'interchangelaw07.PropsTakes'. -/
def propsTakesCard : Claim7 := { stood := { row := propsTakesRow, standIns := [], harness := (true, "8b55ae605007febdbae42c074c1b63802fb4a9fdb5249dd5d4df9967ea07a5b4"), looks := false }, kinds := [], alts := [], laidByText := true, laidKinds := [.widerDeep], laidTests := true, laidLooks := .later }
def PropsTakesCardSaid : Prop := Claim7.holds Tryd.pinned (.plain (OpenSpec.ofChange propsTakesSpec)) propsTakesCard

/-- THE TIED CARD OF 'interchangelaw07.PropsSizes'. -/
def propsSizesCard : Claim7 := { stood := { row := propsSizesRow, standIns := [], harness := (true, "8b55ae605007febdbae42c074c1b63802fb4a9fdb5249dd5d4df9967ea07a5b4"), looks := false }, kinds := [], alts := [], laidByText := true, laidKinds := [.widerDeep], laidTests := true, laidLooks := .later }
def PropsSizesCardSaid : Prop := Claim7.holds Tryd.pinned (.plain (OpenSpec.ofChange propsSizesSpec)) propsSizesCard

/-- THE TIED CARD OF 'interchangelaw07.PropsMany'. -/
def propsManyCard : Claim7 := { stood := { row := propsManyRow, standIns := [], harness := (true, "8b55ae605007febdbae42c074c1b63802fb4a9fdb5249dd5d4df9967ea07a5b4"), looks := false }, kinds := [], alts := [], laidByText := true, laidKinds := [.widerDeep], laidTests := true, laidLooks := .later }
def PropsManyCardSaid : Prop := Claim7.holds Tryd.pinned (.plain (OpenSpec.ofChange propsManySpec)) propsManyCard

/-- THE TIED CARD OF 'interchangelaw07.PropsParts'. -/
def propsPartsCard : Claim7 := { stood := { row := propsPartsRow, standIns := [], harness := (true, "8b55ae605007febdbae42c074c1b63802fb4a9fdb5249dd5d4df9967ea07a5b4"), looks := false }, kinds := [], alts := [], laidByText := true, laidKinds := [.widerDeep], laidTests := true, laidLooks := .later }
def PropsPartsCardSaid : Prop := Claim7.holds Tryd.pinned (.plain (OpenSpec.ofChange propsPartsSpec)) propsPartsCard

/-- THE TIED CARD OF 'interchangelaw07.PropsSet'. -/
def propsSetCard : Claim7 := { stood := { row := propsSetRow, standIns := [], harness := (true, "8b55ae605007febdbae42c074c1b63802fb4a9fdb5249dd5d4df9967ea07a5b4"), looks := false }, kinds := [], alts := [], laidByText := true, laidKinds := [.widerDeep], laidTests := true, laidLooks := .later }
def PropsSetCardSaid : Prop := Claim7.holds Tryd.pinned (.plain (OpenSpec.ofChange propsSetSpec)) propsSetCard

/-- THE TIED CARD OF 'interchangelaw07.PropsTwo'. -/
def propsTwoCard : Claim7 := { stood := { row := propsTwoRow, standIns := [], harness := (true, "8b55ae605007febdbae42c074c1b63802fb4a9fdb5249dd5d4df9967ea07a5b4"), looks := false }, kinds := [], alts := [], laidByText := true, laidKinds := [.widerDeep], laidTests := true, laidLooks := .later }
def PropsTwoCardSaid : Prop := Claim7.holds Tryd.pinned (.plain (OpenSpec.ofChange propsTwoSpec)) propsTwoCard

/-- THE SECOND FORM's CARD OF 'interchangelaw07.PropsBack'. -/
def propsBackUptoCard : Claim7 := { stood := { row := propsBackUptoRow, standIns := [], harness := (true, "8b55ae605007febdbae42c074c1b63802fb4a9fdb5249dd5d4df9967ea07a5b4"), looks := false }, kinds := [], alts := [], laidByText := true, laidKinds := [.widerDeep], laidTests := true, laidLooks := .later }
def PropsBackUptoCardSaid : Prop := Claim7.holds Tryd.pinned (.plain (OpenSpec.upto propsBackSpec)) propsBackUptoCard

/-- THE SECOND FORM's CARD OF 'interchangelaw07.PropsTakes'. -/
def propsTakesUptoCard : Claim7 := { stood := { row := propsTakesUptoRow, standIns := [], harness := (true, "8b55ae605007febdbae42c074c1b63802fb4a9fdb5249dd5d4df9967ea07a5b4"), looks := false }, kinds := [], alts := [], laidByText := true, laidKinds := [.widerDeep], laidTests := true, laidLooks := .later }
def PropsTakesUptoCardSaid : Prop := Claim7.holds Tryd.pinned (.plain (OpenSpec.upto propsTakesSpec)) propsTakesUptoCard

/-- THE SECOND FORM's CARD OF 'interchangelaw07.PropsSizes'. -/
def propsSizesUptoCard : Claim7 := { stood := { row := propsSizesUptoRow, standIns := [], harness := (true, "8b55ae605007febdbae42c074c1b63802fb4a9fdb5249dd5d4df9967ea07a5b4"), looks := false }, kinds := [], alts := [], laidByText := true, laidKinds := [.widerDeep], laidTests := true, laidLooks := .later }
def PropsSizesUptoCardSaid : Prop := Claim7.holds Tryd.pinned (.plain (OpenSpec.upto propsSizesSpec)) propsSizesUptoCard

/-- THE SECOND FORM's CARD OF 'interchangelaw07.PropsMany'. -/
def propsManyUptoCard : Claim7 := { stood := { row := propsManyUptoRow, standIns := [], harness := (true, "8b55ae605007febdbae42c074c1b63802fb4a9fdb5249dd5d4df9967ea07a5b4"), looks := false }, kinds := [], alts := [], laidByText := true, laidKinds := [.widerDeep], laidTests := true, laidLooks := .later }
def PropsManyUptoCardSaid : Prop := Claim7.holds Tryd.pinned (.plain (OpenSpec.upto propsManySpec)) propsManyUptoCard

/-- THE SECOND FORM's CARD OF 'interchangelaw07.PropsParts'. -/
def propsPartsUptoCard : Claim7 := { stood := { row := propsPartsUptoRow, standIns := [], harness := (true, "8b55ae605007febdbae42c074c1b63802fb4a9fdb5249dd5d4df9967ea07a5b4"), looks := false }, kinds := [], alts := [], laidByText := true, laidKinds := [.widerDeep], laidTests := true, laidLooks := .later }
def PropsPartsUptoCardSaid : Prop := Claim7.holds Tryd.pinned (.plain (OpenSpec.upto propsPartsSpec)) propsPartsUptoCard

/-- THE SECOND FORM's CARD OF 'interchangelaw07.PropsSet'. -/
def propsSetUptoCard : Claim7 := { stood := { row := propsSetUptoRow, standIns := [], harness := (true, "8b55ae605007febdbae42c074c1b63802fb4a9fdb5249dd5d4df9967ea07a5b4"), looks := false }, kinds := [], alts := [], laidByText := true, laidKinds := [.widerDeep], laidTests := true, laidLooks := .later }
def PropsSetUptoCardSaid : Prop := Claim7.holds Tryd.pinned (.plain (OpenSpec.upto propsSetSpec)) propsSetUptoCard

/-- THE SECOND FORM's CARD OF 'interchangelaw07.PropsTwo'. -/
def propsTwoUptoCard : Claim7 := { stood := { row := propsTwoUptoRow, standIns := [], harness := (true, "8b55ae605007febdbae42c074c1b63802fb4a9fdb5249dd5d4df9967ea07a5b4"), looks := false }, kinds := [], alts := [], laidByText := true, laidKinds := [.widerDeep], laidTests := true, laidLooks := .later }
def PropsTwoUptoCardSaid : Prop := Claim7.holds Tryd.pinned (.plain (OpenSpec.upto propsTwoSpec)) propsTwoUptoCard
end Rows
end Go.Proofs.YthpfcplhlhnfeaaDoor
