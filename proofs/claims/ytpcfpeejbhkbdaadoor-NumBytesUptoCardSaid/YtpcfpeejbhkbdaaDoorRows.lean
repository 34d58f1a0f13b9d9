/-
  NARROWER THAN 'FOR EVERY INPUT', by the rows' own cells (each row's printed sentence says how): NumRises: laid · NumBytes: laid · NumPuts: laid · NumBack: laid · NumTwo: laid · NumCuts: laid · NumBitsBack: laid · NumBits: laid.
  DERIVED. THE GIVEN ROWS OF THIS SEAT. 8 by the template 'for every input the law returns true; each argument reads behind the call as it read before'; 0 by the template 'total and deterministic' (their statements: YtpcfpeejbhkbdaaDoorTotals.lean).
  GIVEN WITH THE SEED: the statements are not yours to turn. If you find one false, say at which input.
  Laid BY PROGRAM, IN A SANDBOX (cutbox-rows.mjs): the forced cells as the released guide's own fill.sh prints them over the translation 4f5cdf7a146acbdd… (all of the seat's roots in one cut). By AI agents, Wed Nov 11 2026. No macro, syntax, notation, axiom, sorry.
-/
import Derived.Test.YtpcfpeejbhkbdaaDoorChecked
import GoSem.Claim
import GoSem.ClaimJoined
import GoSem.ClaimMapViews
import Derived.JoinedTies
import Derived.KernelRfl
namespace Go.Proofs.YtpcfpeejbhkbdaaDoor
/- THE CELL 'sum', in the pinned program and in every row, IS THE sha256 OF THE DUMP (.gsa) THAT YtpcfpeejbhkbdaaDoorProg.lean LOADS. Nothing in Lean hashes anything: it is a label: what it is worth is what the hold of that sum in a sandbox is worth. -/
noncomputable def Tryd.pinned : Pinned := { name := "ytpcfpeejbhkbdaadoor", sum := "4f5cdf7a146acbdd2d324fa406bb4e4ef8092b614a174e995941b7765d4cb09f", checked := Tryd.checked }
namespace Rows
def none {H : Type} : Left H := { results := [], args := [] }

/- WHAT THE LISTED PACKAGE-LEVEL VARIABLES READ AS WHEN THE CALL BEGINS. Each datum BY PROGRAM (the guide's laid-datum.mjs) off the statement by which the dump's own 'gosem.cut.vars' lays the variable. In a bare row this is a premise. The card (YtpcfpeejbhkbdaaDoorCards.lean) ties it to the program's text. -/
def laid_interchange_num_widths {H : Type} : DataW H := .agg [.lit (.int .i64 1), .lit (.int .i64 2), .lit (.int .i64 4), .lit (.int .i64 8)]

/-- 'interchangelaw01.NumRises': WHATEVER THE INPUT: true; the input reads as it did. -/
def numRisesSpec : ChangeSpec := { name := "numRises", fn := fun _ => fun
  | [d1, d2, d3] => { results := [.lit (.bool true)], args := [d1, d2, d3] }
  | _ => none }
def numRisesRow : OpenClaim := { program := "ytpcfpeejbhkbdaadoor", sum := "4f5cdf7a146acbdd2d324fa406bb4e4ef8092b614a174e995941b7765d4cb09f", func := "interchange/interchangelaw01.NumRises", spec := "numRises", unfollowed := true, recurses := true, named := ["interchange/num.widths"], apart := false, laid := [("interchange/num.widths", laid_interchange_num_widths)] }
def NumRisesSaid : Prop := numRisesRow.holds Tryd.pinned (OpenSpec.ofChange numRisesSpec)

/-- ITS FALSE NEIGHBOUR: 'it returns false'. Refute it at one input. -/
def numRisesWrong : ChangeSpec := { name := "numRises", fn := fun _ => fun
  | [d1, d2, d3] => { results := [.lit (.bool false)], args := [d1, d2, d3] }
  | _ => none }
def NumRisesWrongFalsely : Prop := numRisesRow.holds Tryd.pinned (OpenSpec.ofChange numRisesWrong)

/-- 'interchangelaw01.NumBytes': WHATEVER THE INPUT: true; the input reads as it did. -/
def numBytesSpec : ChangeSpec := { name := "numBytes", fn := fun _ => fun
  | [d1, d2] => { results := [.lit (.bool true)], args := [d1, d2] }
  | _ => none }
def numBytesRow : OpenClaim := { program := "ytpcfpeejbhkbdaadoor", sum := "4f5cdf7a146acbdd2d324fa406bb4e4ef8092b614a174e995941b7765d4cb09f", func := "interchange/interchangelaw01.NumBytes", spec := "numBytes", unfollowed := true, recurses := true, named := ["interchange/num.widths"], apart := false, laid := [("interchange/num.widths", laid_interchange_num_widths)] }
def NumBytesSaid : Prop := numBytesRow.holds Tryd.pinned (OpenSpec.ofChange numBytesSpec)

/-- ITS FALSE NEIGHBOUR: 'it returns false'. Refute it at one input. -/
def numBytesWrong : ChangeSpec := { name := "numBytes", fn := fun _ => fun
  | [d1, d2] => { results := [.lit (.bool false)], args := [d1, d2] }
  | _ => none }
def NumBytesWrongFalsely : Prop := numBytesRow.holds Tryd.pinned (OpenSpec.ofChange numBytesWrong)

/-- 'interchangelaw01.NumPuts': WHATEVER THE INPUT: true; the input reads as it did. -/
def numPutsSpec : ChangeSpec := { name := "numPuts", fn := fun _ => fun
  | [d1, d2, d3] => { results := [.lit (.bool true)], args := [d1, d2, d3] }
  | _ => none }
def numPutsRow : OpenClaim := { program := "ytpcfpeejbhkbdaadoor", sum := "4f5cdf7a146acbdd2d324fa406bb4e4ef8092b614a174e995941b7765d4cb09f", func := "interchange/interchangelaw01.NumPuts", spec := "numPuts", unfollowed := true, recurses := true, named := ["interchange/num.widths"], apart := false, laid := [("interchange/num.widths", laid_interchange_num_widths)] }
def NumPutsSaid : Prop := numPutsRow.holds Tryd.pinned (OpenSpec.ofChange numPutsSpec)

/-- ITS FALSE NEIGHBOUR: 'it returns false'. Refute it at one input. -/
def numPutsWrong : ChangeSpec := { name := "numPuts", fn := fun _ => fun
  | [d1, d2, d3] => { results := [.lit (.bool false)], args := [d1, d2, d3] }
  | _ => none }
def NumPutsWrongFalsely : Prop := numPutsRow.holds Tryd.pinned (OpenSpec.ofChange numPutsWrong)

/-- 'interchangelaw01.NumBack': WHATEVER THE INPUT: true; the input reads as it did. -/
def numBackSpec : ChangeSpec := { name := "numBack", fn := fun _ => fun
  | [d] => { results := [.lit (.bool true)], args := [d] }
  | _ => none }
def numBackRow : OpenClaim := { program := "ytpcfpeejbhkbdaadoor", sum := "4f5cdf7a146acbdd2d324fa406bb4e4ef8092b614a174e995941b7765d4cb09f", func := "interchange/interchangelaw01.NumBack", spec := "numBack", unfollowed := true, recurses := true, named := ["interchange/num.widths"], apart := false, laid := [("interchange/num.widths", laid_interchange_num_widths)] }
def NumBackSaid : Prop := numBackRow.holds Tryd.pinned (OpenSpec.ofChange numBackSpec)

/-- ITS FALSE NEIGHBOUR: 'it returns false'. Refute it at one input. -/
def numBackWrong : ChangeSpec := { name := "numBack", fn := fun _ => fun
  | [d] => { results := [.lit (.bool false)], args := [d] }
  | _ => none }
def NumBackWrongFalsely : Prop := numBackRow.holds Tryd.pinned (OpenSpec.ofChange numBackWrong)

/-- 'interchangelaw01.NumTwo': WHATEVER THE INPUT: true; the input reads as it did. -/
def numTwoSpec : ChangeSpec := { name := "numTwo", fn := fun _ => fun
  | [d] => { results := [.lit (.bool true)], args := [d] }
  | _ => none }
def numTwoRow : OpenClaim := { program := "ytpcfpeejbhkbdaadoor", sum := "4f5cdf7a146acbdd2d324fa406bb4e4ef8092b614a174e995941b7765d4cb09f", func := "interchange/interchangelaw01.NumTwo", spec := "numTwo", unfollowed := true, recurses := true, named := ["interchange/num.widths"], apart := false, laid := [("interchange/num.widths", laid_interchange_num_widths)] }
def NumTwoSaid : Prop := numTwoRow.holds Tryd.pinned (OpenSpec.ofChange numTwoSpec)

/-- ITS FALSE NEIGHBOUR: 'it returns false'. Refute it at one input. -/
def numTwoWrong : ChangeSpec := { name := "numTwo", fn := fun _ => fun
  | [d] => { results := [.lit (.bool false)], args := [d] }
  | _ => none }
def NumTwoWrongFalsely : Prop := numTwoRow.holds Tryd.pinned (OpenSpec.ofChange numTwoWrong)

/-- 'interchangelaw01.NumCuts': WHATEVER THE INPUT: true; the input reads as it did. -/
def numCutsSpec : ChangeSpec := { name := "numCuts", fn := fun _ => fun
  | [d1, d2, d3] => { results := [.lit (.bool true)], args := [d1, d2, d3] }
  | _ => none }
def numCutsRow : OpenClaim := { program := "ytpcfpeejbhkbdaadoor", sum := "4f5cdf7a146acbdd2d324fa406bb4e4ef8092b614a174e995941b7765d4cb09f", func := "interchange/interchangelaw01.NumCuts", spec := "numCuts", unfollowed := true, recurses := true, named := ["interchange/num.widths"], apart := false, laid := [("interchange/num.widths", laid_interchange_num_widths)] }
def NumCutsSaid : Prop := numCutsRow.holds Tryd.pinned (OpenSpec.ofChange numCutsSpec)

/-- ITS FALSE NEIGHBOUR: 'it returns false'. Refute it at one input. -/
def numCutsWrong : ChangeSpec := { name := "numCuts", fn := fun _ => fun
  | [d1, d2, d3] => { results := [.lit (.bool false)], args := [d1, d2, d3] }
  | _ => none }
def NumCutsWrongFalsely : Prop := numCutsRow.holds Tryd.pinned (OpenSpec.ofChange numCutsWrong)

/-- 'interchangelaw01.NumBitsBack': WHATEVER THE INPUT: true; the input reads as it did. -/
def numBitsBackSpec : ChangeSpec := { name := "numBitsBack", fn := fun _ => fun
  | [d] => { results := [.lit (.bool true)], args := [d] }
  | _ => none }
def numBitsBackRow : OpenClaim := { program := "ytpcfpeejbhkbdaadoor", sum := "4f5cdf7a146acbdd2d324fa406bb4e4ef8092b614a174e995941b7765d4cb09f", func := "interchange/interchangelaw01.NumBitsBack", spec := "numBitsBack", unfollowed := true, recurses := true, named := ["interchange/num.widths"], apart := false, laid := [("interchange/num.widths", laid_interchange_num_widths)] }
def NumBitsBackSaid : Prop := numBitsBackRow.holds Tryd.pinned (OpenSpec.ofChange numBitsBackSpec)

/-- ITS FALSE NEIGHBOUR: 'it returns false'. Refute it at one input. -/
def numBitsBackWrong : ChangeSpec := { name := "numBitsBack", fn := fun _ => fun
  | [d] => { results := [.lit (.bool false)], args := [d] }
  | _ => none }
def NumBitsBackWrongFalsely : Prop := numBitsBackRow.holds Tryd.pinned (OpenSpec.ofChange numBitsBackWrong)

/-- 'interchangelaw01.NumBits': WHATEVER THE INPUT: true; the input reads as it did. -/
def numBitsSpec : ChangeSpec := { name := "numBits", fn := fun _ => fun
  | [d] => { results := [.lit (.bool true)], args := [d] }
  | _ => none }
def numBitsRow : OpenClaim := { program := "ytpcfpeejbhkbdaadoor", sum := "4f5cdf7a146acbdd2d324fa406bb4e4ef8092b614a174e995941b7765d4cb09f", func := "interchange/interchangelaw01.NumBits", spec := "numBits", unfollowed := true, recurses := true, named := ["interchange/num.widths"], apart := false, laid := [("interchange/num.widths", laid_interchange_num_widths)] }
def NumBitsSaid : Prop := numBitsRow.holds Tryd.pinned (OpenSpec.ofChange numBitsSpec)

/-- ITS FALSE NEIGHBOUR: 'it returns false'. Refute it at one input. -/
def numBitsWrong : ChangeSpec := { name := "numBits", fn := fun _ => fun
  | [d] => { results := [.lit (.bool false)], args := [d] }
  | _ => none }
def NumBitsWrongFalsely : Prop := numBitsRow.holds Tryd.pinned (OpenSpec.ofChange numBitsWrong)

/- THE SECOND FORM. 'bulk': how many values and letters a reading holds, each counted each time it is reached (what is shared counts as often as it is met; a slice's spare places count too). A statement '..UptoSaid' is the law's where the arguments, and the package variables that the reading takes, are together of bulk at most 1048576: NARROWER than '..Said'. Prove '..Said' where nothing that the law and all that it calls make is longer than what came in: it says more and counts as full. Else prove '..UptoSaid'. A law counts once. -/
mutual
def uptoBulk {H : Type} : DataW H → Nat
  | .lit (.string bytes) => bytes.length + 1
  | .lit _ => 1
  | .nil => 1
  | .ptr d => uptoBulk d + 1
  | .slice elems spare => uptoBulkAll elems + uptoBulkAll spare + 1
  | .agg parts => uptoBulkAll parts + 1
  | .iface _ d => uptoBulk d + 1
  | .map entries => uptoBulkEntries entries + 1
  | .held _ => 1
def uptoBulkAll {H : Type} : List (DataW H) → Nat
  | [] => 0
  | d :: r => uptoBulk d + uptoBulkAll r
def uptoBulkEntries {H : Type} : List (Lit × DataW H) → Nat
  | [] => 0
  | x :: r => uptoBulkEntry x + uptoBulkEntries r
def uptoBulkEntry {H : Type} : Lit × DataW H → Nat
  | (.string bytes, d) => bytes.length + uptoBulk d + 1
  | (_, d) => uptoBulk d + 1
 end
def uptoSmall : (H : Type) → List (DataW H) → Bool := fun _ ds => decide (uptoBulkAll ds ≤ 1048576)
def OpenSpec.upto (s : _root_.Go.ChangeSpec) : _root_.Go.OpenSpec := { _root_.Go.OpenSpec.ofChange s with cond := some uptoSmall }

/-- 'interchangelaw01.NumRises', WHERE WHAT IT READS IS OF BULK AT MOST 1048576: true; the input reads as it did. -/
def numRisesUptoRow : OpenClaim := { program := "ytpcfpeejbhkbdaadoor", sum := "4f5cdf7a146acbdd2d324fa406bb4e4ef8092b614a174e995941b7765d4cb09f", func := "interchange/interchangelaw01.NumRises", spec := "numRises", unfollowed := true, recurses := true, named := ["interchange/num.widths"], apart := false, laid := [("interchange/num.widths", laid_interchange_num_widths)], narrowed := true }
def NumRisesUptoSaid : Prop := numRisesUptoRow.holds Tryd.pinned (OpenSpec.upto numRisesSpec)

/-- 'interchangelaw01.NumBytes', WHERE WHAT IT READS IS OF BULK AT MOST 1048576: true; the input reads as it did. -/
def numBytesUptoRow : OpenClaim := { program := "ytpcfpeejbhkbdaadoor", sum := "4f5cdf7a146acbdd2d324fa406bb4e4ef8092b614a174e995941b7765d4cb09f", func := "interchange/interchangelaw01.NumBytes", spec := "numBytes", unfollowed := true, recurses := true, named := ["interchange/num.widths"], apart := false, laid := [("interchange/num.widths", laid_interchange_num_widths)], narrowed := true }
def NumBytesUptoSaid : Prop := numBytesUptoRow.holds Tryd.pinned (OpenSpec.upto numBytesSpec)

/-- 'interchangelaw01.NumPuts', WHERE WHAT IT READS IS OF BULK AT MOST 1048576: true; the input reads as it did. -/
def numPutsUptoRow : OpenClaim := { program := "ytpcfpeejbhkbdaadoor", sum := "4f5cdf7a146acbdd2d324fa406bb4e4ef8092b614a174e995941b7765d4cb09f", func := "interchange/interchangelaw01.NumPuts", spec := "numPuts", unfollowed := true, recurses := true, named := ["interchange/num.widths"], apart := false, laid := [("interchange/num.widths", laid_interchange_num_widths)], narrowed := true }
def NumPutsUptoSaid : Prop := numPutsUptoRow.holds Tryd.pinned (OpenSpec.upto numPutsSpec)

/-- 'interchangelaw01.NumBack', WHERE WHAT IT READS IS OF BULK AT MOST 1048576: true; the input reads as it did. -/
def numBackUptoRow : OpenClaim := { program := "ytpcfpeejbhkbdaadoor", sum := "4f5cdf7a146acbdd2d324fa406bb4e4ef8092b614a174e995941b7765d4cb09f", func := "interchange/interchangelaw01.NumBack", spec := "numBack", unfollowed := true, recurses := true, named := ["interchange/num.widths"], apart := false, laid := [("interchange/num.widths", laid_interchange_num_widths)], narrowed := true }
def NumBackUptoSaid : Prop := numBackUptoRow.holds Tryd.pinned (OpenSpec.upto numBackSpec)

/-- 'interchangelaw01.NumTwo', WHERE WHAT IT READS IS OF BULK AT MOST 1048576: true; the input reads as it did. -/
def numTwoUptoRow : OpenClaim := { program := "ytpcfpeejbhkbdaadoor", sum := "4f5cdf7a146acbdd2d324fa406bb4e4ef8092b614a174e995941b7765d4cb09f", func := "interchange/interchangelaw01.NumTwo", spec := "numTwo", unfollowed := true, recurses := true, named := ["interchange/num.widths"], apart := false, laid := [("interchange/num.widths", laid_interchange_num_widths)], narrowed := true }
def NumTwoUptoSaid : Prop := numTwoUptoRow.holds Tryd.pinned (OpenSpec.upto numTwoSpec)

/-- 'interchangelaw01.NumCuts', WHERE WHAT IT READS IS OF BULK AT MOST 1048576: true; the input reads as it did. -/
def numCutsUptoRow : OpenClaim := { program := "ytpcfpeejbhkbdaadoor", sum := "4f5cdf7a146acbdd2d324fa406bb4e4ef8092b614a174e995941b7765d4cb09f", func := "interchange/interchangelaw01.NumCuts", spec := "numCuts", unfollowed := true, recurses := true, named := ["interchange/num.widths"], apart := false, laid := [("interchange/num.widths", laid_interchange_num_widths)], narrowed := true }
def NumCutsUptoSaid : Prop := numCutsUptoRow.holds Tryd.pinned (OpenSpec.upto numCutsSpec)

/-- 'interchangelaw01.NumBitsBack', WHERE WHAT IT READS IS OF BULK AT MOST 1048576: true; the input reads as it did. -/
def numBitsBackUptoRow : OpenClaim := { program := "ytpcfpeejbhkbdaadoor", sum := "4f5cdf7a146acbdd2d324fa406bb4e4ef8092b614a174e995941b7765d4cb09f", func := "interchange/interchangelaw01.NumBitsBack", spec := "numBitsBack", unfollowed := true, recurses := true, named := ["interchange/num.widths"], apart := false, laid := [("interchange/num.widths", laid_interchange_num_widths)], narrowed := true }
def NumBitsBackUptoSaid : Prop := numBitsBackUptoRow.holds Tryd.pinned (OpenSpec.upto numBitsBackSpec)

/-- 'interchangelaw01.NumBits', WHERE WHAT IT READS IS OF BULK AT MOST 1048576: true; the input reads as it did. -/
def numBitsUptoRow : OpenClaim := { program := "ytpcfpeejbhkbdaadoor", sum := "4f5cdf7a146acbdd2d324fa406bb4e4ef8092b614a174e995941b7765d4cb09f", func := "interchange/interchangelaw01.NumBits", spec := "numBits", unfollowed := true, recurses := true, named := ["interchange/num.widths"], apart := false, laid := [("interchange/num.widths", laid_interchange_num_widths)], narrowed := true }
def NumBitsUptoSaid : Prop := numBitsUptoRow.holds Tryd.pinned (OpenSpec.upto numBitsSpec)

end Rows
end Go.Proofs.YtpcfpeejbhkbdaaDoor
