/-
  DERIVED. GIVEN WITH THE SEED: THE CARDS: each row of YtoldelpmmlpgjaaDoorRows.lean that lists a variable, with what it lists TIED to the program's text (the seventh form; the later family's looks); each row that meets fmt, with fmt's text TOLD by the authors' own Lean function (tested against real Go, not proved from fmt's source: count such statements apart). THE CARD IS WHAT COUNTS. Prove the row's statement (the work); the ties are given (YtoldelpmmlpgjaaDoorTie.lean); close each card by the builder's one call (the guide's Derived/Test/ToyasCard.lean, 'card_holds'). Laid BY PROGRAM, IN A SANDBOX (cutbox-door.mjs). By AI agents, Wed Nov 11 2026. No macro, syntax, notation, axiom, sorry.
-/
import Derived.Test.YtoldelpmmlpgjaaDoorRows
import GoSem.ClaimSeven
namespace Go.Proofs.YtoldelpmmlpgjaaDoor
namespace Rows

/-- THE TIED CARD OF 'interchangelaw11.DialTune'. -/
def dialTuneCard : Claim7 := { stood := { row := dialTuneRow, standIns := [], harness := (true, "6689e374f5e32092c9b4d0c01722e05cb006586a09f7151c9b356f3ce3a46386"), looks := false }, kinds := [], alts := [], laidByText := true, laidKinds := [.data, .pinned], laidTests := true, laidLooks := .later }
def DialTuneCardSaid : Prop := Claim7.holds Tryd.pinned (.plain (OpenSpec.ofChange dialTuneSpec)) dialTuneCard

/-- THE TIED CARD OF 'interchangelaw11.DialOffers'. -/
def dialOffersCard : Claim7 := { stood := { row := dialOffersRow, standIns := [], harness := (true, "6689e374f5e32092c9b4d0c01722e05cb006586a09f7151c9b356f3ce3a46386"), looks := false }, kinds := [], alts := [], laidByText := true, laidKinds := [.data, .pinned], laidTests := true, laidLooks := .later }
def DialOffersCardSaid : Prop := Claim7.holds Tryd.pinned (.plain (OpenSpec.ofChange dialOffersSpec)) dialOffersCard

/-- THE TIED CARD OF 'interchangelaw11.DialAgrees'. -/
def dialAgreesCard : Claim7 := { stood := { row := dialAgreesRow, standIns := [], harness := (true, "6689e374f5e32092c9b4d0c01722e05cb006586a09f7151c9b356f3ce3a46386"), looks := false }, kinds := [], alts := [], laidByText := true, laidKinds := [.data, .pinned], laidTests := true, laidLooks := .later }
def DialAgreesCardSaid : Prop := Claim7.holds Tryd.pinned (.plain (OpenSpec.ofChange dialAgreesSpec)) dialAgreesCard

/-- THE SECOND FORM's CARD OF 'interchangelaw11.DialTune'. -/
def dialTuneUptoCard : Claim7 := { stood := { row := dialTuneUptoRow, standIns := [], harness := (true, "6689e374f5e32092c9b4d0c01722e05cb006586a09f7151c9b356f3ce3a46386"), looks := false }, kinds := [], alts := [], laidByText := true, laidKinds := [.data, .pinned], laidTests := true, laidLooks := .later }
def DialTuneUptoCardSaid : Prop := Claim7.holds Tryd.pinned (.plain (OpenSpec.upto dialTuneSpec)) dialTuneUptoCard

/-- THE SECOND FORM's CARD OF 'interchangelaw11.DialOffers'. -/
def dialOffersUptoCard : Claim7 := { stood := { row := dialOffersUptoRow, standIns := [], harness := (true, "6689e374f5e32092c9b4d0c01722e05cb006586a09f7151c9b356f3ce3a46386"), looks := false }, kinds := [], alts := [], laidByText := true, laidKinds := [.data, .pinned], laidTests := true, laidLooks := .later }
def DialOffersUptoCardSaid : Prop := Claim7.holds Tryd.pinned (.plain (OpenSpec.upto dialOffersSpec)) dialOffersUptoCard

/-- THE SECOND FORM's CARD OF 'interchangelaw11.DialAgrees'. -/
def dialAgreesUptoCard : Claim7 := { stood := { row := dialAgreesUptoRow, standIns := [], harness := (true, "6689e374f5e32092c9b4d0c01722e05cb006586a09f7151c9b356f3ce3a46386"), looks := false }, kinds := [], alts := [], laidByText := true, laidKinds := [.data, .pinned], laidTests := true, laidLooks := .later }
def DialAgreesUptoCardSaid : Prop := Claim7.holds Tryd.pinned (.plain (OpenSpec.upto dialAgreesSpec)) dialAgreesUptoCard
end Rows
end Go.Proofs.YtoldelpmmlpgjaaDoor
