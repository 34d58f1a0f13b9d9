/-
  NARROWER THAN 'FOR EVERY INPUT', by the rows' own cells (each row's printed sentence says how): PropsBack: laid · PropsTakes: laid · PropsSizes: laid · PropsMany: laid · PropsParts: laid · PropsSet: laid · PropsTwo: laid.
  DERIVED. THE GIVEN ROWS OF THIS SEAT. 7 by the template 'for every input the law returns true; each argument reads behind the call as it read before'; 0 by the template 'total and deterministic' (their statements: YthpfcplhlhnfeaaDoorTotals.lean).
  GIVEN WITH THE SEED: the statements are not yours to turn. If you find one false, say at which input.
  Laid BY PROGRAM, IN A SANDBOX (cutbox-rows.mjs): the forced cells as the released guide's own fill.sh prints them over the translation 825cdb7776d60850… (all of the seat's roots in one cut). By AI agents, Wed Nov 11 2026. No macro, syntax, notation, axiom, sorry.
-/
import Derived.Test.YthpfcplhlhnfeaaDoorChecked
import GoSem.Claim
import GoSem.ClaimJoined
import GoSem.ClaimMapViews
import Derived.JoinedTies
import Derived.KernelRfl
namespace Go.Proofs.YthpfcplhlhnfeaaDoor
/- THE CELL 'sum', in the pinned program and in every row, IS THE sha256 OF THE DUMP (.gsa) THAT YthpfcplhlhnfeaaDoorProg.lean LOADS. Nothing in Lean hashes anything: it is a label: what it is worth is what the hold of that sum in a sandbox is worth. -/
noncomputable def Tryd.pinned : Pinned := { name := "ythpfcplhlhnfeaadoor", sum := "825cdb7776d60850286e7735a70e01c0c8f5c86de5944bb3fac433a48345c342", checked := Tryd.checked }
namespace Rows
def none {H : Type} : Left H := { results := [], args := [] }

/- WHAT THE LISTED PACKAGE-LEVEL VARIABLES READ AS WHEN THE CALL BEGINS. Each datum BY PROGRAM (the guide's laid-datum.mjs) off the statement by which the dump's own 'gosem.cut.vars' lays the variable. In a bare row this is a premise. The card (YthpfcplhlhnfeaaDoorCards.lean) ties it to the program's text. -/
def laid_interchange_num_widths {H : Type} : DataW H := .agg [.lit (.int .i64 1), .lit (.int .i64 2), .lit (.int .i64 4), .lit (.int .i64 8)]

/-- 'interchangelaw07.PropsBack': WHATEVER THE INPUT: true; the input reads as it did. -/
def propsBackSpec : ChangeSpec := { name := "propsBack", fn := fun _ => fun
  | [d1, d2] => { results := [.lit (.bool true)], args := [d1, d2] }
  | _ => none }
def propsBackRow : OpenClaim := { program := "ythpfcplhlhnfeaadoor", sum := "825cdb7776d60850286e7735a70e01c0c8f5c86de5944bb3fac433a48345c342", func := "interchange/interchangelaw07.PropsBack", spec := "propsBack", unfollowed := true, recurses := true, named := ["interchange/num.widths"], apart := false, laid := [("interchange/num.widths", laid_interchange_num_widths)] }
def PropsBackSaid : Prop := propsBackRow.holds Tryd.pinned (OpenSpec.ofChange propsBackSpec)

/-- ITS FALSE NEIGHBOUR: 'it returns false'. Refute it at one input. -/
def propsBackWrong : ChangeSpec := { name := "propsBack", fn := fun _ => fun
  | [d1, d2] => { results := [.lit (.bool false)], args := [d1, d2] }
  | _ => none }
def PropsBackWrongFalsely : Prop := propsBackRow.holds Tryd.pinned (OpenSpec.ofChange propsBackWrong)

/-- 'interchangelaw07.PropsTakes': WHATEVER THE INPUT: true; the input reads as it did. -/
def propsTakesSpec : ChangeSpec := { name := "propsTakes", fn := fun _ => fun
  | [d1, d2, d3] => { results := [.lit (.bool true)], args := [d1, d2, d3] }
  | _ => none }
def propsTakesRow : OpenClaim := { program := "ythpfcplhlhnfeaadoor", sum := "825cdb7776d60850286e7735a70e01c0c8f5c86de5944bb3fac433a48345c342", func := "interchange/interchangelaw07.PropsTakes", spec := "propsTakes", unfollowed := true, recurses := true, named := ["interchange/num.widths"], apart := false, laid := [("interchange/num.widths", laid_interchange_num_widths)] }
def PropsTakesSaid : Prop := propsTakesRow.holds Tryd.pinned (OpenSpec.ofChange propsTakesSpec)

/-- ITS FALSE NEIGHBOUR: 'it returns false'. Refute it at one input. -/
def propsTakesWrong : ChangeSpec := { name := "propsTakes", fn := fun _ => fun
  | [d1, d2, d3] => { results := [.lit (.bool false)], args := [d1, d2, d3] }
  | _ => none }
def PropsTakesWrongFalsely : Prop := propsTakesRow.holds Tryd.pinned (OpenSpec.ofChange propsTakesWrong)

/-- 'interchangelaw07.PropsSizes': WHATEVER THE INPUT: true; the input reads as it did. -/
def propsSizesSpec : ChangeSpec := { name := "propsSizes", fn := fun _ => fun
  | [d1, d2] => { results := [.lit (.bool true)], args := [d1, d2] }
  | _ => none }
def propsSizesRow : OpenClaim := { program := "ythpfcplhlhnfeaadoor", sum := "825cdb7776d60850286e7735a70e01c0c8f5c86de5944bb3fac433a48345c342", func := "interchange/interchangelaw07.PropsSizes", spec := "propsSizes", unfollowed := true, recurses := true, named := ["interchange/num.widths"], apart := false, laid := [("interchange/num.widths", laid_interchange_num_widths)] }
def PropsSizesSaid : Prop := propsSizesRow.holds Tryd.pinned (OpenSpec.ofChange propsSizesSpec)

/-- ITS FALSE NEIGHBOUR: 'it returns false'. Refute it at one input. -/
def propsSizesWrong : ChangeSpec := { name := "propsSizes", fn := fun _ => fun
  | [d1, d2] => { results := [.lit (.bool false)], args := [d1, d2] }
  | _ => none }
def PropsSizesWrongFalsely : Prop := propsSizesRow.holds Tryd.pinned (OpenSpec.ofChange propsSizesWrong)

/-- 'interchangelaw07.PropsMany': WHATEVER THE INPUT: true; the input reads as it did. -/
def propsManySpec : ChangeSpec := { name := "propsMany", fn := fun _ => fun
  | [d] => { results := [.lit (.bool true)], args := [d] }
  | _ => none }
def propsManyRow : OpenClaim := { program := "ythpfcplhlhnfeaadoor", sum := "825cdb7776d60850286e7735a70e01c0c8f5c86de5944bb3fac433a48345c342", func := "interchange/interchangelaw07.PropsMany", spec := "propsMany", unfollowed := true, recurses := true, named := ["interchange/num.widths"], apart := false, laid := [("interchange/num.widths", laid_interchange_num_widths)] }
def PropsManySaid : Prop := propsManyRow.holds Tryd.pinned (OpenSpec.ofChange propsManySpec)

/-- ITS FALSE NEIGHBOUR: 'it returns false'. Refute it at one input. -/
def propsManyWrong : ChangeSpec := { name := "propsMany", fn := fun _ => fun
  | [d] => { results := [.lit (.bool false)], args := [d] }
  | _ => none }
def PropsManyWrongFalsely : Prop := propsManyRow.holds Tryd.pinned (OpenSpec.ofChange propsManyWrong)

/-- 'interchangelaw07.PropsParts': WHATEVER THE INPUT: true; the input reads as it did. -/
def propsPartsSpec : ChangeSpec := { name := "propsParts", fn := fun _ => fun
  | [d1, d2, d3] => { results := [.lit (.bool true)], args := [d1, d2, d3] }
  | _ => none }
def propsPartsRow : OpenClaim := { program := "ythpfcplhlhnfeaadoor", sum := "825cdb7776d60850286e7735a70e01c0c8f5c86de5944bb3fac433a48345c342", func := "interchange/interchangelaw07.PropsParts", spec := "propsParts", unfollowed := true, recurses := true, named := ["interchange/num.widths"], apart := false, laid := [("interchange/num.widths", laid_interchange_num_widths)] }
def PropsPartsSaid : Prop := propsPartsRow.holds Tryd.pinned (OpenSpec.ofChange propsPartsSpec)

/-- ITS FALSE NEIGHBOUR: 'it returns false'. Refute it at one input. -/
def propsPartsWrong : ChangeSpec := { name := "propsParts", fn := fun _ => fun
  | [d1, d2, d3] => { results := [.lit (.bool false)], args := [d1, d2, d3] }
  | _ => none }
def PropsPartsWrongFalsely : Prop := propsPartsRow.holds Tryd.pinned (OpenSpec.ofChange propsPartsWrong)

/-- 'interchangelaw07.PropsSet': WHATEVER THE INPUT: true; the input reads as it did. -/
def propsSetSpec : ChangeSpec := { name := "propsSet", fn := fun _ => fun
  | [d] => { results := [.lit (.bool true)], args := [d] }
  | _ => none }
def propsSetRow : OpenClaim := { program := "ythpfcplhlhnfeaadoor", sum := "825cdb7776d60850286e7735a70e01c0c8f5c86de5944bb3fac433a48345c342", func := "interchange/interchangelaw07.PropsSet", spec := "propsSet", unfollowed := true, recurses := true, named := ["interchange/num.widths"], apart := false, laid := [("interchange/num.widths", laid_interchange_num_widths)] }
def PropsSetSaid : Prop := propsSetRow.holds Tryd.pinned (OpenSpec.ofChange propsSetSpec)

/-- ITS FALSE NEIGHBOUR: 'it returns false'. Refute it at one input. -/
def propsSetWrong : ChangeSpec := { name := "propsSet", fn := fun _ => fun
  | [d] => { results := [.lit (.bool false)], args := [d] }
  | _ => none }
def PropsSetWrongFalsely : Prop := propsSetRow.holds Tryd.pinned (OpenSpec.ofChange propsSetWrong)

/-- 'interchangelaw07.PropsTwo': WHATEVER THE INPUT: true; the input reads as it did. -/
def propsTwoSpec : ChangeSpec := { name := "propsTwo", fn := fun _ => fun
  | [d] => { results := [.lit (.bool true)], args := [d] }
  | _ => none }
def propsTwoRow : OpenClaim := { program := "ythpfcplhlhnfeaadoor", sum := "825cdb7776d60850286e7735a70e01c0c8f5c86de5944bb3fac433a48345c342", func := "interchange/interchangelaw07.PropsTwo", spec := "propsTwo", unfollowed := true, recurses := true, named := ["interchange/num.widths"], apart := false, laid := [("interchange/num.widths", laid_interchange_num_widths)] }
def PropsTwoSaid : Prop := propsTwoRow.holds Tryd.pinned (OpenSpec.ofChange propsTwoSpec)

/-- ITS FALSE NEIGHBOUR: 'it returns false'. Refute it at one input. -/
def propsTwoWrong : ChangeSpec := { name := "propsTwo", fn := fun _ => fun
  | [d] => { results := [.lit (.bool false)], args := [d] }
  | _ => none }
def PropsTwoWrongFalsely : Prop := propsTwoRow.holds Tryd.pinned (OpenSpec.ofChange propsTwoWrong)

/- THE SECOND FORM. 'bulk': how many values and letters a reading holds, each counted each time it is reached (what is shared counts as often as it is met; a slice's spare places count too). A statement '..UptoSaid' is the law's where the arguments, and the package variables that the reading takes, are together of bulk at most 1048576: NARROWER than '..Said'. Prove '..Said' where nothing that the law and all that it calls make is longer than what came in: it says more and counts as full. Else prove '..UptoSaid'. A law counts once. -/
mutual
def uptoBulk {H : Type} : DataW H → Nat
  | .lit (.string bytes) => bytes.length + 1
  | .lit _ => 1
  | .nil => 1
  | .ptr d => uptoBulk d + 1
  | .slice elems spare => uptoBulkAll elems + uptoBulkAll spare + 1
  | .agg parts => uptoBulkAll parts + 1
  | .iface _ d => uptoBulk d + 1
  | .map entries => uptoBulkEntries entries + 1
  | .held _ => 1
def uptoBulkAll {H : Type} : List (DataW H) → Nat
  | [] => 0
  | d :: r => uptoBulk d + uptoBulkAll r
def uptoBulkEntries {H : Type} : List (Lit × DataW H) → Nat
  | [] => 0
  | x :: r => uptoBulkEntry x + uptoBulkEntries r
def uptoBulkEntry {H : Type} : Lit × DataW H → Nat
  | (.string bytes, d) => bytes.length + uptoBulk d + 1
  | (_, d) => uptoBulk d + 1
 end
def uptoSmall : (H : Type) → List (DataW H) → Bool := fun _ ds => decide (uptoBulkAll ds ≤ 1048576)
def OpenSpec.upto (s : _root_.Go.ChangeSpec) : _root_.Go.OpenSpec := { _root_.Go.OpenSpec.ofChange s with cond := some uptoSmall }

/-- 'interchangelaw07.PropsBack', WHERE WHAT IT READS IS OF BULK AT MOST 1048576: true; the input reads as it did. -/
def propsBackUptoRow : OpenClaim := { program := "ythpfcplhlhnfeaadoor", sum := "825cdb7776d60850286e7735a70e01c0c8f5c86de5944bb3fac433a48345c342", func := "interchange/interchangelaw07.PropsBack", spec := "propsBack", unfollowed := true, recurses := true, named := ["interchange/num.widths"], apart := false, laid := [("interchange/num.widths", laid_interchange_num_widths)], narrowed := true }
def PropsBackUptoSaid : Prop := propsBackUptoRow.holds Tryd.pinned (OpenSpec.upto propsBackSpec)

/-- 'interchangelaw07.PropsTakes', WHERE WHAT IT READS IS OF BULK AT MOST 1048576: true; the input reads as it did. -/
def propsTakesUptoRow : OpenClaim := { program := "ythpfcplhlhnfeaadoor", sum := "825cdb7776d60850286e7735a70e01c0c8f5c86de5944bb3fac433a48345c342", func := "interchange/interchangelaw07.PropsTakes", spec := "propsTakes", unfollowed := true, recurses := true, named := ["interchange/num.widths"], apart := false, laid := [("interchange/num.widths", laid_interchange_num_widths)], narrowed := true }
def PropsTakesUptoSaid : Prop := propsTakesUptoRow.holds Tryd.pinned (OpenSpec.upto propsTakesSpec)

/-- 'interchangelaw07.PropsSizes', WHERE WHAT IT READS IS OF BULK AT MOST 1048576: true; the input reads as it did. -/
def propsSizesUptoRow : OpenClaim := { program := "ythpfcplhlhnfeaadoor", sum := "825cdb7776d60850286e7735a70e01c0c8f5c86de5944bb3fac433a48345c342", func := "interchange/interchangelaw07.PropsSizes", spec := "propsSizes", unfollowed := true, recurses := true, named := ["interchange/num.widths"], apart := false, laid := [("interchange/num.widths", laid_interchange_num_widths)], narrowed := true }
def PropsSizesUptoSaid : Prop := propsSizesUptoRow.holds Tryd.pinned (OpenSpec.upto propsSizesSpec)

/-- 'interchangelaw07.PropsMany', WHERE WHAT IT READS IS OF BULK AT MOST 1048576: true; the input reads as it did. -/
def propsManyUptoRow : OpenClaim := { program := "ythpfcplhlhnfeaadoor", sum := "825cdb7776d60850286e7735a70e01c0c8f5c86de5944bb3fac433a48345c342", func := "interchange/interchangelaw07.PropsMany", spec := "propsMany", unfollowed := true, recurses := true, named := ["interchange/num.widths"], apart := false, laid := [("interchange/num.widths", laid_interchange_num_widths)], narrowed := true }
def PropsManyUptoSaid : Prop := propsManyUptoRow.holds Tryd.pinned (OpenSpec.upto propsManySpec)

/-- 'interchangelaw07.PropsParts', WHERE WHAT IT READS IS OF BULK AT MOST 1048576: true; the input reads as it did. -/
def propsPartsUptoRow : OpenClaim := { program := "ythpfcplhlhnfeaadoor", sum := "825cdb7776d60850286e7735a70e01c0c8f5c86de5944bb3fac433a48345c342", func := "interchange/interchangelaw07.PropsParts", spec := "propsParts", unfollowed := true, recurses := true, named := ["interchange/num.widths"], apart := false, laid := [("interchange/num.widths", laid_interchange_num_widths)], narrowed := true }
def PropsPartsUptoSaid : Prop := propsPartsUptoRow.holds Tryd.pinned (OpenSpec.upto propsPartsSpec)

/-- 'interchangelaw07.PropsSet', WHERE WHAT IT READS IS OF BULK AT MOST 1048576: true; the input reads as it did. -/
def propsSetUptoRow : OpenClaim := { program := "ythpfcplhlhnfeaadoor", sum := "825cdb7776d60850286e7735a70e01c0c8f5c86de5944bb3fac433a48345c342", func := "interchange/interchangelaw07.PropsSet", spec := "propsSet", unfollowed := true, recurses := true, named := ["interchange/num.widths"], apart := false, laid := [("interchange/num.widths", laid_interchange_num_widths)], narrowed := true }
def PropsSetUptoSaid : Prop := propsSetUptoRow.holds Tryd.pinned (OpenSpec.upto propsSetSpec)

/-- 'interchangelaw07.PropsTwo', WHERE WHAT IT READS IS OF BULK AT MOST 1048576: true; the input reads as it did. -/
def propsTwoUptoRow : OpenClaim := { program := "ythpfcplhlhnfeaadoor", sum := "825cdb7776d60850286e7735a70e01c0c8f5c86de5944bb3fac433a48345c342", func := "interchange/interchangelaw07.PropsTwo", spec := "propsTwo", unfollowed := true, recurses := true, named := ["interchange/num.widths"], apart := false, laid := [("interchange/num.widths", laid_interchange_num_widths)], narrowed := true }
def PropsTwoUptoSaid : Prop := propsTwoUptoRow.holds Tryd.pinned (OpenSpec.upto propsTwoSpec)

end Rows
end Go.Proofs.YthpfcplhlhnfeaaDoor
