/-
  NARROWER THAN 'FOR EVERY INPUT', by the rows' own cells (each row's printed sentence says how): TextPairs: laid · TextNames: laid · TextCuts: laid · TextParts: laid · TextLong: laid · TextLays: laid · TextBack: laid · TextTwo: laid.
  DERIVED. THE GIVEN ROWS OF THIS SEAT. 8 by the template 'for every input the law returns true; each argument reads behind the call as it read before'; 0 by the template 'total and deterministic' (their statements: YtmpbhbbgnmkpgaaDoorTotals.lean).
  GIVEN WITH THE SEED: the statements are not yours to turn. If you find one false, say at which input.
  Laid BY PROGRAM, IN A SANDBOX (cutbox-rows.mjs): the forced cells as the released guide's own fill.sh prints them over the translation 6383c6a59cb815d5… (all of the seat's roots in one cut). By AI agents, Wed Nov 11 2026. No macro, syntax, notation, axiom, sorry.
-/
import Derived.Test.YtmpbhbbgnmkpgaaDoorChecked
import GoSem.Claim
import GoSem.ClaimJoined
import GoSem.ClaimMapViews
import Derived.JoinedTies
import Derived.KernelRfl
namespace Go.Proofs.YtmpbhbbgnmkpgaaDoor
/- THE CELL 'sum', in the pinned program and in every row, IS THE sha256 OF THE DUMP (.gsa) THAT YtmpbhbbgnmkpgaaDoorProg.lean LOADS. Nothing in Lean hashes anything: it is a label: what it is worth is what the hold of that sum in a sandbox is worth. -/
noncomputable def Tryd.pinned : Pinned := { name := "ytmpbhbbgnmkpgaadoor", sum := "6383c6a59cb815d5285132964a1df0831f9791185909e35f73a43d3e7d536241", checked := Tryd.checked }
namespace Rows
def none {H : Type} : Left H := { results := [], args := [] }

/- WHAT THE LISTED PACKAGE-LEVEL VARIABLES READ AS WHEN THE CALL BEGINS. Each datum BY PROGRAM (the guide's laid-datum.mjs) off the statement by which the dump's own 'gosem.cut.vars' lays the variable. In a bare row this is a premise. The card (YtmpbhbbgnmkpgaaDoorCards.lean) ties it to the program's text. -/
def laid_interchange_num_widths {H : Type} : DataW H := .agg [.lit (.int .i64 1), .lit (.int .i64 2), .lit (.int .i64 4), .lit (.int .i64 8)]

/-- 'interchangelaw02.TextPairs': WHATEVER THE INPUT: true; the input reads as it did. -/
def textPairsSpec : ChangeSpec := { name := "textPairs", fn := fun _ => fun
  | [d1, d2, d3] => { results := [.lit (.bool true)], args := [d1, d2, d3] }
  | _ => none }
def textPairsRow : OpenClaim := { program := "ytmpbhbbgnmkpgaadoor", sum := "6383c6a59cb815d5285132964a1df0831f9791185909e35f73a43d3e7d536241", func := "interchange/interchangelaw02.TextPairs", spec := "textPairs", inPlace := ["internal/bytealg.IndexByteString", "internal/bytealg.IndexString"], unfollowed := true, recurses := true, named := ["interchange/num.widths", "internal/bytealg.MaxLen"], apart := false, laid := [("interchange/num.widths", laid_interchange_num_widths)] }
def TextPairsSaid : Prop := textPairsRow.holds Tryd.pinned (OpenSpec.ofChange textPairsSpec)

/-- ITS FALSE NEIGHBOUR: 'it returns false'. Refute it at one input. -/
def textPairsWrong : ChangeSpec := { name := "textPairs", fn := fun _ => fun
  | [d1, d2, d3] => { results := [.lit (.bool false)], args := [d1, d2, d3] }
  | _ => none }
def TextPairsWrongFalsely : Prop := textPairsRow.holds Tryd.pinned (OpenSpec.ofChange textPairsWrong)

/-- 'interchangelaw02.TextNames': WHATEVER THE INPUT: true; the input reads as it did. -/
def textNamesSpec : ChangeSpec := { name := "textNames", fn := fun _ => fun
  | [d1, d2] => { results := [.lit (.bool true)], args := [d1, d2] }
  | _ => none }
def textNamesRow : OpenClaim := { program := "ytmpbhbbgnmkpgaadoor", sum := "6383c6a59cb815d5285132964a1df0831f9791185909e35f73a43d3e7d536241", func := "interchange/interchangelaw02.TextNames", spec := "textNames", inPlace := ["internal/bytealg.IndexByteString", "internal/bytealg.IndexString"], unfollowed := true, recurses := true, named := ["interchange/num.widths", "internal/bytealg.MaxLen"], apart := false, laid := [("interchange/num.widths", laid_interchange_num_widths)] }
def TextNamesSaid : Prop := textNamesRow.holds Tryd.pinned (OpenSpec.ofChange textNamesSpec)

/-- ITS FALSE NEIGHBOUR: 'it returns false'. Refute it at one input. -/
def textNamesWrong : ChangeSpec := { name := "textNames", fn := fun _ => fun
  | [d1, d2] => { results := [.lit (.bool false)], args := [d1, d2] }
  | _ => none }
def TextNamesWrongFalsely : Prop := textNamesRow.holds Tryd.pinned (OpenSpec.ofChange textNamesWrong)

/-- 'interchangelaw02.TextCuts': WHATEVER THE INPUT: true; the input reads as it did. -/
def textCutsSpec : ChangeSpec := { name := "textCuts", fn := fun _ => fun
  | [d1, d2] => { results := [.lit (.bool true)], args := [d1, d2] }
  | _ => none }
def textCutsRow : OpenClaim := { program := "ytmpbhbbgnmkpgaadoor", sum := "6383c6a59cb815d5285132964a1df0831f9791185909e35f73a43d3e7d536241", func := "interchange/interchangelaw02.TextCuts", spec := "textCuts", inPlace := ["internal/bytealg.IndexByteString", "internal/bytealg.IndexString"], unfollowed := true, recurses := true, named := ["interchange/num.widths", "internal/bytealg.MaxLen"], apart := false, laid := [("interchange/num.widths", laid_interchange_num_widths)] }
def TextCutsSaid : Prop := textCutsRow.holds Tryd.pinned (OpenSpec.ofChange textCutsSpec)

/-- ITS FALSE NEIGHBOUR: 'it returns false'. Refute it at one input. -/
def textCutsWrong : ChangeSpec := { name := "textCuts", fn := fun _ => fun
  | [d1, d2] => { results := [.lit (.bool false)], args := [d1, d2] }
  | _ => none }
def TextCutsWrongFalsely : Prop := textCutsRow.holds Tryd.pinned (OpenSpec.ofChange textCutsWrong)

/-- 'interchangelaw02.TextParts': WHATEVER THE INPUT: true; the input reads as it did. -/
def textPartsSpec : ChangeSpec := { name := "textParts", fn := fun _ => fun
  | [d1, d2] => { results := [.lit (.bool true)], args := [d1, d2] }
  | _ => none }
def textPartsRow : OpenClaim := { program := "ytmpbhbbgnmkpgaadoor", sum := "6383c6a59cb815d5285132964a1df0831f9791185909e35f73a43d3e7d536241", func := "interchange/interchangelaw02.TextParts", spec := "textParts", inPlace := ["internal/bytealg.IndexByteString", "internal/bytealg.IndexString"], unfollowed := true, recurses := true, named := ["interchange/num.widths", "internal/bytealg.MaxLen"], apart := false, laid := [("interchange/num.widths", laid_interchange_num_widths)] }
def TextPartsSaid : Prop := textPartsRow.holds Tryd.pinned (OpenSpec.ofChange textPartsSpec)

/-- ITS FALSE NEIGHBOUR: 'it returns false'. Refute it at one input. -/
def textPartsWrong : ChangeSpec := { name := "textParts", fn := fun _ => fun
  | [d1, d2] => { results := [.lit (.bool false)], args := [d1, d2] }
  | _ => none }
def TextPartsWrongFalsely : Prop := textPartsRow.holds Tryd.pinned (OpenSpec.ofChange textPartsWrong)

/-- 'interchangelaw02.TextLong': WHATEVER THE INPUT: true; the input reads as it did. -/
def textLongSpec : ChangeSpec := { name := "textLong", fn := fun _ => fun
  | [d1, d2] => { results := [.lit (.bool true)], args := [d1, d2] }
  | _ => none }
def textLongRow : OpenClaim := { program := "ytmpbhbbgnmkpgaadoor", sum := "6383c6a59cb815d5285132964a1df0831f9791185909e35f73a43d3e7d536241", func := "interchange/interchangelaw02.TextLong", spec := "textLong", inPlace := ["internal/bytealg.IndexByteString", "internal/bytealg.IndexString"], unfollowed := true, recurses := true, named := ["interchange/num.widths", "internal/bytealg.MaxLen"], apart := false, laid := [("interchange/num.widths", laid_interchange_num_widths)] }
def TextLongSaid : Prop := textLongRow.holds Tryd.pinned (OpenSpec.ofChange textLongSpec)

/-- ITS FALSE NEIGHBOUR: 'it returns false'. Refute it at one input. -/
def textLongWrong : ChangeSpec := { name := "textLong", fn := fun _ => fun
  | [d1, d2] => { results := [.lit (.bool false)], args := [d1, d2] }
  | _ => none }
def TextLongWrongFalsely : Prop := textLongRow.holds Tryd.pinned (OpenSpec.ofChange textLongWrong)

/-- 'interchangelaw02.TextLays': WHATEVER THE INPUT: true; the input reads as it did. -/
def textLaysSpec : ChangeSpec := { name := "textLays", fn := fun _ => fun
  | [d] => { results := [.lit (.bool true)], args := [d] }
  | _ => none }
def textLaysRow : OpenClaim := { program := "ytmpbhbbgnmkpgaadoor", sum := "6383c6a59cb815d5285132964a1df0831f9791185909e35f73a43d3e7d536241", func := "interchange/interchangelaw02.TextLays", spec := "textLays", inPlace := ["internal/bytealg.IndexByteString", "internal/bytealg.IndexString"], unfollowed := true, recurses := true, named := ["interchange/num.widths", "internal/bytealg.MaxLen"], apart := false, laid := [("interchange/num.widths", laid_interchange_num_widths)] }
def TextLaysSaid : Prop := textLaysRow.holds Tryd.pinned (OpenSpec.ofChange textLaysSpec)

/-- ITS FALSE NEIGHBOUR: 'it returns false'. Refute it at one input. -/
def textLaysWrong : ChangeSpec := { name := "textLays", fn := fun _ => fun
  | [d] => { results := [.lit (.bool false)], args := [d] }
  | _ => none }
def TextLaysWrongFalsely : Prop := textLaysRow.holds Tryd.pinned (OpenSpec.ofChange textLaysWrong)

/-- 'interchangelaw02.TextBack': WHATEVER THE INPUT: true; the input reads as it did. -/
def textBackSpec : ChangeSpec := { name := "textBack", fn := fun _ => fun
  | [d1, d2, d3] => { results := [.lit (.bool true)], args := [d1, d2, d3] }
  | _ => none }
def textBackRow : OpenClaim := { program := "ytmpbhbbgnmkpgaadoor", sum := "6383c6a59cb815d5285132964a1df0831f9791185909e35f73a43d3e7d536241", func := "interchange/interchangelaw02.TextBack", spec := "textBack", inPlace := ["internal/bytealg.IndexByteString", "internal/bytealg.IndexString"], unfollowed := true, recurses := true, named := ["interchange/num.widths", "internal/bytealg.MaxLen"], apart := false, laid := [("interchange/num.widths", laid_interchange_num_widths)] }
def TextBackSaid : Prop := textBackRow.holds Tryd.pinned (OpenSpec.ofChange textBackSpec)

/-- ITS FALSE NEIGHBOUR: 'it returns false'. Refute it at one input. -/
def textBackWrong : ChangeSpec := { name := "textBack", fn := fun _ => fun
  | [d1, d2, d3] => { results := [.lit (.bool false)], args := [d1, d2, d3] }
  | _ => none }
def TextBackWrongFalsely : Prop := textBackRow.holds Tryd.pinned (OpenSpec.ofChange textBackWrong)

/-- 'interchangelaw02.TextTwo': WHATEVER THE INPUT: true; the input reads as it did. -/
def textTwoSpec : ChangeSpec := { name := "textTwo", fn := fun _ => fun
  | [d1, d2] => { results := [.lit (.bool true)], args := [d1, d2] }
  | _ => none }
def textTwoRow : OpenClaim := { program := "ytmpbhbbgnmkpgaadoor", sum := "6383c6a59cb815d5285132964a1df0831f9791185909e35f73a43d3e7d536241", func := "interchange/interchangelaw02.TextTwo", spec := "textTwo", inPlace := ["internal/bytealg.IndexByteString", "internal/bytealg.IndexString"], unfollowed := true, recurses := true, named := ["interchange/num.widths", "internal/bytealg.MaxLen"], apart := false, laid := [("interchange/num.widths", laid_interchange_num_widths)] }
def TextTwoSaid : Prop := textTwoRow.holds Tryd.pinned (OpenSpec.ofChange textTwoSpec)

/-- ITS FALSE NEIGHBOUR: 'it returns false'. Refute it at one input. -/
def textTwoWrong : ChangeSpec := { name := "textTwo", fn := fun _ => fun
  | [d1, d2] => { results := [.lit (.bool false)], args := [d1, d2] }
  | _ => none }
def TextTwoWrongFalsely : Prop := textTwoRow.holds Tryd.pinned (OpenSpec.ofChange textTwoWrong)

/- THE SECOND FORM. 'bulk': how many values and letters a reading holds, each counted each time it is reached (what is shared counts as often as it is met; a slice's spare places count too). A statement '..UptoSaid' is the law's where the arguments, and the package variables that the reading takes, are together of bulk at most 1048576: NARROWER than '..Said'. Prove '..Said' where nothing that the law and all that it calls make is longer than what came in: it says more and counts as full. Else prove '..UptoSaid'. A law counts once. -/
mutual
def uptoBulk {H : Type} : DataW H → Nat
  | .lit (.string bytes) => bytes.length + 1
  | .lit _ => 1
  | .nil => 1
  | .ptr d => uptoBulk d + 1
  | .slice elems spare => uptoBulkAll elems + uptoBulkAll spare + 1
  | .agg parts => uptoBulkAll parts + 1
  | .iface _ d => uptoBulk d + 1
  | .map entries => uptoBulkEntries entries + 1
  | .held _ => 1
def uptoBulkAll {H : Type} : List (DataW H) → Nat
  | [] => 0
  | d :: r => uptoBulk d + uptoBulkAll r
def uptoBulkEntries {H : Type} : List (Lit × DataW H) → Nat
  | [] => 0
  | x :: r => uptoBulkEntry x + uptoBulkEntries r
def uptoBulkEntry {H : Type} : Lit × DataW H → Nat
  | (.string bytes, d) => bytes.length + uptoBulk d + 1
  | (_, d) => uptoBulk d + 1
 end
def uptoSmall : (H : Type) → List (DataW H) → Bool := fun _ ds => decide (uptoBulkAll ds ≤ 1048576)
def OpenSpec.upto (s : _root_.Go.ChangeSpec) : _root_.Go.OpenSpec := { _root_.Go.OpenSpec.ofChange s with cond := some uptoSmall }

/-- 'interchangelaw02.TextPairs', WHERE WHAT IT READS IS OF BULK AT MOST 1048576: true; the input reads as it did. -/
def textPairsUptoRow : OpenClaim := { program := "ytmpbhbbgnmkpgaadoor", sum := "6383c6a59cb815d5285132964a1df0831f9791185909e35f73a43d3e7d536241", func := "interchange/interchangelaw02.TextPairs", spec := "textPairs", inPlace := ["internal/bytealg.IndexByteString", "internal/bytealg.IndexString"], unfollowed := true, recurses := true, named := ["interchange/num.widths", "internal/bytealg.MaxLen"], apart := false, laid := [("interchange/num.widths", laid_interchange_num_widths)], narrowed := true }
def TextPairsUptoSaid : Prop := textPairsUptoRow.holds Tryd.pinned (OpenSpec.upto textPairsSpec)

/-- 'interchangelaw02.TextNames', WHERE WHAT IT READS IS OF BULK AT MOST 1048576: true; the input reads as it did. -/
def textNamesUptoRow : OpenClaim := { program := "ytmpbhbbgnmkpgaadoor", sum := "6383c6a59cb815d5285132964a1df0831f9791185909e35f73a43d3e7d536241", func := "interchange/interchangelaw02.TextNames", spec := "textNames", inPlace := ["internal/bytealg.IndexByteString", "internal/bytealg.IndexString"], unfollowed := true, recurses := true, named := ["interchange/num.widths", "internal/bytealg.MaxLen"], apart := false, laid := [("interchange/num.widths", laid_interchange_num_widths)], narrowed := true }
def TextNamesUptoSaid : Prop := textNamesUptoRow.holds Tryd.pinned (OpenSpec.upto textNamesSpec)

/-- 'interchangelaw02.TextCuts', WHERE WHAT IT READS IS OF BULK AT MOST 1048576: true; the input reads as it did. -/
def textCutsUptoRow : OpenClaim := { program := "ytmpbhbbgnmkpgaadoor", sum := "6383c6a59cb815d5285132964a1df0831f9791185909e35f73a43d3e7d536241", func := "interchange/interchangelaw02.TextCuts", spec := "textCuts", inPlace := ["internal/bytealg.IndexByteString", "internal/bytealg.IndexString"], unfollowed := true, recurses := true, named := ["interchange/num.widths", "internal/bytealg.MaxLen"], apart := false, laid := [("interchange/num.widths", laid_interchange_num_widths)], narrowed := true }
def TextCutsUptoSaid : Prop := textCutsUptoRow.holds Tryd.pinned (OpenSpec.upto textCutsSpec)

/-- 'interchangelaw02.TextParts', WHERE WHAT IT READS IS OF BULK AT MOST 1048576: true; the input reads as it did. -/
def textPartsUptoRow : OpenClaim := { program := "ytmpbhbbgnmkpgaadoor", sum := "6383c6a59cb815d5285132964a1df0831f9791185909e35f73a43d3e7d536241", func := "interchange/interchangelaw02.TextParts", spec := "textParts", inPlace := ["internal/bytealg.IndexByteString", "internal/bytealg.IndexString"], unfollowed := true, recurses := true, named := ["interchange/num.widths", "internal/bytealg.MaxLen"], apart := false, laid := [("interchange/num.widths", laid_interchange_num_widths)], narrowed := true }
def TextPartsUptoSaid : Prop := textPartsUptoRow.holds Tryd.pinned (OpenSpec.upto textPartsSpec)

/-- 'interchangelaw02.TextLong', WHERE WHAT IT READS IS OF BULK AT MOST 1048576: true; the input reads as it did. -/
def textLongUptoRow : OpenClaim := { program := "ytmpbhbbgnmkpgaadoor", sum := "6383c6a59cb815d5285132964a1df0831f9791185909e35f73a43d3e7d536241", func := "interchange/interchangelaw02.TextLong", spec := "textLong", inPlace := ["internal/bytealg.IndexByteString", "internal/bytealg.IndexString"], unfollowed := true, recurses := true, named := ["interchange/num.widths", "internal/bytealg.MaxLen"], apart := false, laid := [("interchange/num.widths", laid_interchange_num_widths)], narrowed := true }
def TextLongUptoSaid : Prop := textLongUptoRow.holds Tryd.pinned (OpenSpec.upto textLongSpec)

/-- 'interchangelaw02.TextLays', WHERE WHAT IT READS IS OF BULK AT MOST 1048576: true; the input reads as it did. -/
def textLaysUptoRow : OpenClaim := { program := "ytmpbhbbgnmkpgaadoor", sum := "6383c6a59cb815d5285132964a1df0831f9791185909e35f73a43d3e7d536241", func := "interchange/interchangelaw02.TextLays", spec := "textLays", inPlace := ["internal/bytealg.IndexByteString", "internal/bytealg.IndexString"], unfollowed := true, recurses := true, named := ["interchange/num.widths", "internal/bytealg.MaxLen"], apart := false, laid := [("interchange/num.widths", laid_interchange_num_widths)], narrowed := true }
def TextLaysUptoSaid : Prop := textLaysUptoRow.holds Tryd.pinned (OpenSpec.upto textLaysSpec)

/-- 'interchangelaw02.TextBack', WHERE WHAT IT READS IS OF BULK AT MOST 1048576: true; the input reads as it did. -/
def textBackUptoRow : OpenClaim := { program := "ytmpbhbbgnmkpgaadoor", sum := "6383c6a59cb815d5285132964a1df0831f9791185909e35f73a43d3e7d536241", func := "interchange/interchangelaw02.TextBack", spec := "textBack", inPlace := ["internal/bytealg.IndexByteString", "internal/bytealg.IndexString"], unfollowed := true, recurses := true, named := ["interchange/num.widths", "internal/bytealg.MaxLen"], apart := false, laid := [("interchange/num.widths", laid_interchange_num_widths)], narrowed := true }
def TextBackUptoSaid : Prop := textBackUptoRow.holds Tryd.pinned (OpenSpec.upto textBackSpec)

/-- 'interchangelaw02.TextTwo', WHERE WHAT IT READS IS OF BULK AT MOST 1048576: true; the input reads as it did. -/
def textTwoUptoRow : OpenClaim := { program := "ytmpbhbbgnmkpgaadoor", sum := "6383c6a59cb815d5285132964a1df0831f9791185909e35f73a43d3e7d536241", func := "interchange/interchangelaw02.TextTwo", spec := "textTwo", inPlace := ["internal/bytealg.IndexByteString", "internal/bytealg.IndexString"], unfollowed := true, recurses := true, named := ["interchange/num.widths", "internal/bytealg.MaxLen"], apart := false, laid := [("interchange/num.widths", laid_interchange_num_widths)], narrowed := true }
def TextTwoUptoSaid : Prop := textTwoUptoRow.holds Tryd.pinned (OpenSpec.upto textTwoSpec)

end Rows
end Go.Proofs.YtmpbhbbgnmkpgaaDoor
