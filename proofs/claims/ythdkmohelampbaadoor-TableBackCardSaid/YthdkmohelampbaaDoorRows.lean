/-
  NARROWER THAN 'FOR EVERY INPUT', by the rows' own cells (each row's printed sentence says how): TableCut: laid · TableSwaps: laid · TableDeep: laid · TableParts: laid · TableBack: laid · TableTakes: laid · TableNone: laid.
  DERIVED. THE GIVEN ROWS OF THIS SEAT. 7 by the template 'for every input the law returns true; each argument reads behind the call as it read before'; 0 by the template 'total and deterministic' (their statements: YthdkmohelampbaaDoorTotals.lean).
  GIVEN WITH THE SEED: the statements are not yours to turn. If you find one false, say at which input.
  Laid BY PROGRAM, IN A SANDBOX (cutbox-rows.mjs): the forced cells as the released guide's own fill.sh prints them over the translation 5751f8cf5c73fa44… (all of the seat's roots in one cut). By AI agents, Wed Nov 11 2026. No macro, syntax, notation, axiom, sorry.
-/
import Derived.Test.YthdkmohelampbaaDoorChecked
import GoSem.Claim
import GoSem.ClaimJoined
import GoSem.ClaimMapViews
import Derived.JoinedTies
import Derived.KernelRfl
namespace Go.Proofs.YthdkmohelampbaaDoor
/- THE CELL 'sum', in the pinned program and in every row, IS THE sha256 OF THE DUMP (.gsa) THAT YthdkmohelampbaaDoorProg.lean LOADS. Nothing in Lean hashes anything: it is a label: what it is worth is what the hold of that sum in a sandbox is worth. -/
noncomputable def Tryd.pinned : Pinned := { name := "ythdkmohelampbaadoor", sum := "5751f8cf5c73fa44e3e3446b83e4d7b4969d17f5a883ee9fde3761d1a215b033", checked := Tryd.checked }
namespace Rows
def none {H : Type} : Left H := { results := [], args := [] }

/- WHAT THE LISTED PACKAGE-LEVEL VARIABLES READ AS WHEN THE CALL BEGINS. Each datum BY PROGRAM (the guide's laid-datum.mjs) off the statement by which the dump's own 'gosem.cut.vars' lays the variable. In a bare row this is a premise. The card (YthdkmohelampbaaDoorCards.lean) ties it to the program's text. -/
def laid_interchange_num_widths {H : Type} : DataW H := .agg [.lit (.int .i64 1), .lit (.int .i64 2), .lit (.int .i64 4), .lit (.int .i64 8)]

/-- 'interchangelaw03.TableCut': WHATEVER THE INPUT: true; the input reads as it did. -/
def tableCutSpec : ChangeSpec := { name := "tableCut", fn := fun _ => fun
  | [d1, d2] => { results := [.lit (.bool true)], args := [d1, d2] }
  | _ => none }
def tableCutRow : OpenClaim := { program := "ythdkmohelampbaadoor", sum := "5751f8cf5c73fa44e3e3446b83e4d7b4969d17f5a883ee9fde3761d1a215b033", func := "interchange/interchangelaw03.TableCut", spec := "tableCut", inPlace := ["internal/abi.NoEscape"], unfollowed := true, recurses := true, named := ["interchange/num.widths"], apart := false, laid := [("interchange/num.widths", laid_interchange_num_widths)] }
def TableCutSaid : Prop := tableCutRow.holds Tryd.pinned (OpenSpec.ofChange tableCutSpec)

/-- ITS FALSE NEIGHBOUR: 'it returns false'. Refute it at one input. -/
def tableCutWrong : ChangeSpec := { name := "tableCut", fn := fun _ => fun
  | [d1, d2] => { results := [.lit (.bool false)], args := [d1, d2] }
  | _ => none }
def TableCutWrongFalsely : Prop := tableCutRow.holds Tryd.pinned (OpenSpec.ofChange tableCutWrong)

/-- 'interchangelaw03.TableSwaps': WHATEVER THE INPUT: true; the input reads as it did. -/
def tableSwapsSpec : ChangeSpec := { name := "tableSwaps", fn := fun _ => fun
  | [d1, d2, d3] => { results := [.lit (.bool true)], args := [d1, d2, d3] }
  | _ => none }
def tableSwapsRow : OpenClaim := { program := "ythdkmohelampbaadoor", sum := "5751f8cf5c73fa44e3e3446b83e4d7b4969d17f5a883ee9fde3761d1a215b033", func := "interchange/interchangelaw03.TableSwaps", spec := "tableSwaps", inPlace := ["internal/abi.NoEscape"], unfollowed := true, recurses := true, named := ["interchange/num.widths"], apart := false, laid := [("interchange/num.widths", laid_interchange_num_widths)] }
def TableSwapsSaid : Prop := tableSwapsRow.holds Tryd.pinned (OpenSpec.ofChange tableSwapsSpec)

/-- ITS FALSE NEIGHBOUR: 'it returns false'. Refute it at one input. -/
def tableSwapsWrong : ChangeSpec := { name := "tableSwaps", fn := fun _ => fun
  | [d1, d2, d3] => { results := [.lit (.bool false)], args := [d1, d2, d3] }
  | _ => none }
def TableSwapsWrongFalsely : Prop := tableSwapsRow.holds Tryd.pinned (OpenSpec.ofChange tableSwapsWrong)

/-- 'interchangelaw03.TableDeep': WHATEVER THE INPUT: true; the input reads as it did. -/
def tableDeepSpec : ChangeSpec := { name := "tableDeep", fn := fun _ => fun
  | [d1, d2] => { results := [.lit (.bool true)], args := [d1, d2] }
  | _ => none }
def tableDeepRow : OpenClaim := { program := "ythdkmohelampbaadoor", sum := "5751f8cf5c73fa44e3e3446b83e4d7b4969d17f5a883ee9fde3761d1a215b033", func := "interchange/interchangelaw03.TableDeep", spec := "tableDeep", inPlace := ["internal/abi.NoEscape"], unfollowed := true, recurses := true, named := ["interchange/num.widths"], apart := false, laid := [("interchange/num.widths", laid_interchange_num_widths)] }
def TableDeepSaid : Prop := tableDeepRow.holds Tryd.pinned (OpenSpec.ofChange tableDeepSpec)

/-- ITS FALSE NEIGHBOUR: 'it returns false'. Refute it at one input. -/
def tableDeepWrong : ChangeSpec := { name := "tableDeep", fn := fun _ => fun
  | [d1, d2] => { results := [.lit (.bool false)], args := [d1, d2] }
  | _ => none }
def TableDeepWrongFalsely : Prop := tableDeepRow.holds Tryd.pinned (OpenSpec.ofChange tableDeepWrong)

/-- 'interchangelaw03.TableParts': WHATEVER THE INPUT: true; the input reads as it did. -/
def tablePartsSpec : ChangeSpec := { name := "tableParts", fn := fun _ => fun
  | [d1, d2] => { results := [.lit (.bool true)], args := [d1, d2] }
  | _ => none }
def tablePartsRow : OpenClaim := { program := "ythdkmohelampbaadoor", sum := "5751f8cf5c73fa44e3e3446b83e4d7b4969d17f5a883ee9fde3761d1a215b033", func := "interchange/interchangelaw03.TableParts", spec := "tableParts", inPlace := ["internal/abi.NoEscape"], unfollowed := true, recurses := true, named := ["interchange/num.widths"], apart := false, laid := [("interchange/num.widths", laid_interchange_num_widths)] }
def TablePartsSaid : Prop := tablePartsRow.holds Tryd.pinned (OpenSpec.ofChange tablePartsSpec)

/-- ITS FALSE NEIGHBOUR: 'it returns false'. Refute it at one input. -/
def tablePartsWrong : ChangeSpec := { name := "tableParts", fn := fun _ => fun
  | [d1, d2] => { results := [.lit (.bool false)], args := [d1, d2] }
  | _ => none }
def TablePartsWrongFalsely : Prop := tablePartsRow.holds Tryd.pinned (OpenSpec.ofChange tablePartsWrong)

/-- 'interchangelaw03.TableBack': WHATEVER THE INPUT: true; the input reads as it did. -/
def tableBackSpec : ChangeSpec := { name := "tableBack", fn := fun _ => fun
  | [d] => { results := [.lit (.bool true)], args := [d] }
  | _ => none }
def tableBackRow : OpenClaim := { program := "ythdkmohelampbaadoor", sum := "5751f8cf5c73fa44e3e3446b83e4d7b4969d17f5a883ee9fde3761d1a215b033", func := "interchange/interchangelaw03.TableBack", spec := "tableBack", inPlace := ["internal/abi.NoEscape"], unfollowed := true, recurses := true, named := ["interchange/num.widths"], apart := false, laid := [("interchange/num.widths", laid_interchange_num_widths)] }
def TableBackSaid : Prop := tableBackRow.holds Tryd.pinned (OpenSpec.ofChange tableBackSpec)

/-- ITS FALSE NEIGHBOUR: 'it returns false'. Refute it at one input. -/
def tableBackWrong : ChangeSpec := { name := "tableBack", fn := fun _ => fun
  | [d] => { results := [.lit (.bool false)], args := [d] }
  | _ => none }
def TableBackWrongFalsely : Prop := tableBackRow.holds Tryd.pinned (OpenSpec.ofChange tableBackWrong)

/-- 'interchangelaw03.TableTakes': WHATEVER THE INPUT: true; the input reads as it did. -/
def tableTakesSpec : ChangeSpec := { name := "tableTakes", fn := fun _ => fun
  | [d1, d2] => { results := [.lit (.bool true)], args := [d1, d2] }
  | _ => none }
def tableTakesRow : OpenClaim := { program := "ythdkmohelampbaadoor", sum := "5751f8cf5c73fa44e3e3446b83e4d7b4969d17f5a883ee9fde3761d1a215b033", func := "interchange/interchangelaw03.TableTakes", spec := "tableTakes", inPlace := ["internal/abi.NoEscape"], unfollowed := true, recurses := true, named := ["interchange/num.widths"], apart := false, laid := [("interchange/num.widths", laid_interchange_num_widths)] }
def TableTakesSaid : Prop := tableTakesRow.holds Tryd.pinned (OpenSpec.ofChange tableTakesSpec)

/-- ITS FALSE NEIGHBOUR: 'it returns false'. Refute it at one input. -/
def tableTakesWrong : ChangeSpec := { name := "tableTakes", fn := fun _ => fun
  | [d1, d2] => { results := [.lit (.bool false)], args := [d1, d2] }
  | _ => none }
def TableTakesWrongFalsely : Prop := tableTakesRow.holds Tryd.pinned (OpenSpec.ofChange tableTakesWrong)

/-- 'interchangelaw03.TableNone': WHATEVER THE INPUT: true; the input reads as it did. -/
def tableNoneSpec : ChangeSpec := { name := "tableNone", fn := fun _ => fun
  | [d1, d2] => { results := [.lit (.bool true)], args := [d1, d2] }
  | _ => none }
def tableNoneRow : OpenClaim := { program := "ythdkmohelampbaadoor", sum := "5751f8cf5c73fa44e3e3446b83e4d7b4969d17f5a883ee9fde3761d1a215b033", func := "interchange/interchangelaw03.TableNone", spec := "tableNone", inPlace := ["internal/abi.NoEscape"], unfollowed := true, recurses := true, named := ["interchange/num.widths"], apart := false, laid := [("interchange/num.widths", laid_interchange_num_widths)] }
def TableNoneSaid : Prop := tableNoneRow.holds Tryd.pinned (OpenSpec.ofChange tableNoneSpec)

/-- ITS FALSE NEIGHBOUR: 'it returns false'. Refute it at one input. -/
def tableNoneWrong : ChangeSpec := { name := "tableNone", fn := fun _ => fun
  | [d1, d2] => { results := [.lit (.bool false)], args := [d1, d2] }
  | _ => none }
def TableNoneWrongFalsely : Prop := tableNoneRow.holds Tryd.pinned (OpenSpec.ofChange tableNoneWrong)

/- THE SECOND FORM. 'bulk': how many values and letters a reading holds, each counted each time it is reached (what is shared counts as often as it is met; a slice's spare places count too). A statement '..UptoSaid' is the law's where the arguments, and the package variables that the reading takes, are together of bulk at most 1048576: NARROWER than '..Said'. Prove '..Said' where nothing that the law and all that it calls make is longer than what came in: it says more and counts as full. Else prove '..UptoSaid'. A law counts once. -/
mutual
def uptoBulk {H : Type} : DataW H → Nat
  | .lit (.string bytes) => bytes.length + 1
  | .lit _ => 1
  | .nil => 1
  | .ptr d => uptoBulk d + 1
  | .slice elems spare => uptoBulkAll elems + uptoBulkAll spare + 1
  | .agg parts => uptoBulkAll parts + 1
  | .iface _ d => uptoBulk d + 1
  | .map entries => uptoBulkEntries entries + 1
  | .held _ => 1
def uptoBulkAll {H : Type} : List (DataW H) → Nat
  | [] => 0
  | d :: r => uptoBulk d + uptoBulkAll r
def uptoBulkEntries {H : Type} : List (Lit × DataW H) → Nat
  | [] => 0
  | x :: r => uptoBulkEntry x + uptoBulkEntries r
def uptoBulkEntry {H : Type} : Lit × DataW H → Nat
  | (.string bytes, d) => bytes.length + uptoBulk d + 1
  | (_, d) => uptoBulk d + 1
 end
def uptoSmall : (H : Type) → List (DataW H) → Bool := fun _ ds => decide (uptoBulkAll ds ≤ 1048576)
def OpenSpec.upto (s : _root_.Go.ChangeSpec) : _root_.Go.OpenSpec := { _root_.Go.OpenSpec.ofChange s with cond := some uptoSmall }

/-- 'interchangelaw03.TableCut', WHERE WHAT IT READS IS OF BULK AT MOST 1048576: true; the input reads as it did. -/
def tableCutUptoRow : OpenClaim := { program := "ythdkmohelampbaadoor", sum := "5751f8cf5c73fa44e3e3446b83e4d7b4969d17f5a883ee9fde3761d1a215b033", func := "interchange/interchangelaw03.TableCut", spec := "tableCut", inPlace := ["internal/abi.NoEscape"], unfollowed := true, recurses := true, named := ["interchange/num.widths"], apart := false, laid := [("interchange/num.widths", laid_interchange_num_widths)], narrowed := true }
def TableCutUptoSaid : Prop := tableCutUptoRow.holds Tryd.pinned (OpenSpec.upto tableCutSpec)

/-- 'interchangelaw03.TableSwaps', WHERE WHAT IT READS IS OF BULK AT MOST 1048576: true; the input reads as it did. -/
def tableSwapsUptoRow : OpenClaim := { program := "ythdkmohelampbaadoor", sum := "5751f8cf5c73fa44e3e3446b83e4d7b4969d17f5a883ee9fde3761d1a215b033", func := "interchange/interchangelaw03.TableSwaps", spec := "tableSwaps", inPlace := ["internal/abi.NoEscape"], unfollowed := true, recurses := true, named := ["interchange/num.widths"], apart := false, laid := [("interchange/num.widths", laid_interchange_num_widths)], narrowed := true }
def TableSwapsUptoSaid : Prop := tableSwapsUptoRow.holds Tryd.pinned (OpenSpec.upto tableSwapsSpec)

/-- 'interchangelaw03.TableDeep', WHERE WHAT IT READS IS OF BULK AT MOST 1048576: true; the input reads as it did. -/
def tableDeepUptoRow : OpenClaim := { program := "ythdkmohelampbaadoor", sum := "5751f8cf5c73fa44e3e3446b83e4d7b4969d17f5a883ee9fde3761d1a215b033", func := "interchange/interchangelaw03.TableDeep", spec := "tableDeep", inPlace := ["internal/abi.NoEscape"], unfollowed := true, recurses := true, named := ["interchange/num.widths"], apart := false, laid := [("interchange/num.widths", laid_interchange_num_widths)], narrowed := true }
def TableDeepUptoSaid : Prop := tableDeepUptoRow.holds Tryd.pinned (OpenSpec.upto tableDeepSpec)

/-- 'interchangelaw03.TableParts', WHERE WHAT IT READS IS OF BULK AT MOST 1048576: true; the input reads as it did. -/
def tablePartsUptoRow : OpenClaim := { program := "ythdkmohelampbaadoor", sum := "5751f8cf5c73fa44e3e3446b83e4d7b4969d17f5a883ee9fde3761d1a215b033", func := "interchange/interchangelaw03.TableParts", spec := "tableParts", inPlace := ["internal/abi.NoEscape"], unfollowed := true, recurses := true, named := ["interchange/num.widths"], apart := false, laid := [("interchange/num.widths", laid_interchange_num_widths)], narrowed := true }
def TablePartsUptoSaid : Prop := tablePartsUptoRow.holds Tryd.pinned (OpenSpec.upto tablePartsSpec)

/-- 'interchangelaw03.TableBack', WHERE WHAT IT READS IS OF BULK AT MOST 1048576: true; the input reads as it did. -/
def tableBackUptoRow : OpenClaim := { program := "ythdkmohelampbaadoor", sum := "5751f8cf5c73fa44e3e3446b83e4d7b4969d17f5a883ee9fde3761d1a215b033", func := "interchange/interchangelaw03.TableBack", spec := "tableBack", inPlace := ["internal/abi.NoEscape"], unfollowed := true, recurses := true, named := ["interchange/num.widths"], apart := false, laid := [("interchange/num.widths", laid_interchange_num_widths)], narrowed := true }
def TableBackUptoSaid : Prop := tableBackUptoRow.holds Tryd.pinned (OpenSpec.upto tableBackSpec)

/-- 'interchangelaw03.TableTakes', WHERE WHAT IT READS IS OF BULK AT MOST 1048576: true; the input reads as it did. -/
def tableTakesUptoRow : OpenClaim := { program := "ythdkmohelampbaadoor", sum := "5751f8cf5c73fa44e3e3446b83e4d7b4969d17f5a883ee9fde3761d1a215b033", func := "interchange/interchangelaw03.TableTakes", spec := "tableTakes", inPlace := ["internal/abi.NoEscape"], unfollowed := true, recurses := true, named := ["interchange/num.widths"], apart := false, laid := [("interchange/num.widths", laid_interchange_num_widths)], narrowed := true }
def TableTakesUptoSaid : Prop := tableTakesUptoRow.holds Tryd.pinned (OpenSpec.upto tableTakesSpec)

/-- 'interchangelaw03.TableNone', WHERE WHAT IT READS IS OF BULK AT MOST 1048576: true; the input reads as it did. -/
def tableNoneUptoRow : OpenClaim := { program := "ythdkmohelampbaadoor", sum := "5751f8cf5c73fa44e3e3446b83e4d7b4969d17f5a883ee9fde3761d1a215b033", func := "interchange/interchangelaw03.TableNone", spec := "tableNone", inPlace := ["internal/abi.NoEscape"], unfollowed := true, recurses := true, named := ["interchange/num.widths"], apart := false, laid := [("interchange/num.widths", laid_interchange_num_widths)], narrowed := true }
def TableNoneUptoSaid : Prop := tableNoneUptoRow.holds Tryd.pinned (OpenSpec.upto tableNoneSpec)

end Rows
end Go.Proofs.YthdkmohelampbaaDoor
