/-
  NARROWER THAN 'FOR EVERY INPUT', by the rows' own cells (each row's printed sentence says how): FrameBegins: laid · FrameBack: laid · FrameMost: laid · FramePieces: laid · FrameRows: laid · FrameBeats: laid · FrameTakes: laid.
  DERIVED. THE GIVEN ROWS OF THIS SEAT. 7 by the template 'for every input the law returns true; each argument reads behind the call as it read before'; 0 by the template 'total and deterministic' (their statements: YtdalcbhnnfabhaaDoorTotals.lean).
  GIVEN WITH THE SEED: the statements are not yours to turn. If you find one false, say at which input.
  Laid BY PROGRAM, IN A SANDBOX (cutbox-rows.mjs): the forced cells as the released guide's own fill.sh prints them over the translation 3bbea3c36fd99e3e… (all of the seat's roots in one cut). By AI agents, Wed Nov 11 2026. No macro, syntax, notation, axiom, sorry.
-/
import Derived.Test.YtdalcbhnnfabhaaDoorChecked
import GoSem.Claim
import GoSem.ClaimJoined
import GoSem.ClaimMapViews
import Derived.JoinedTies
import Derived.KernelRfl
namespace Go.Proofs.YtdalcbhnnfabhaaDoor
/- THE CELL 'sum', in the pinned program and in every row, IS THE sha256 OF THE DUMP (.gsa) THAT YtdalcbhnnfabhaaDoorProg.lean LOADS. Nothing in Lean hashes anything: it is a label: what it is worth is what the hold of that sum in a sandbox is worth. -/
noncomputable def Tryd.pinned : Pinned := { name := "ytdalcbhnnfabhaadoor", sum := "3bbea3c36fd99e3e5076abf4c55d0d4d250687c9a7c3d23ce0c990091bcc9745", checked := Tryd.checked }
namespace Rows
def none {H : Type} : Left H := { results := [], args := [] }

/- WHAT THE LISTED PACKAGE-LEVEL VARIABLES READ AS WHEN THE CALL BEGINS. Each datum BY PROGRAM (the guide's laid-datum.mjs) off the statement by which the dump's own 'gosem.cut.vars' lays the variable. In a bare row this is a premise. The card (YtdalcbhnnfabhaaDoorCards.lean) ties it to the program's text. -/
def laid_interchange_num_widths {H : Type} : DataW H := .agg [.lit (.int .i64 1), .lit (.int .i64 2), .lit (.int .i64 4), .lit (.int .i64 8)]
def laid_interchange_frame_types {H : Type} : DataW H := .agg [.lit (.bool false), .lit (.bool true), .lit (.bool true), .lit (.bool true), .lit (.bool false), .lit (.bool false), .lit (.bool false), .lit (.bool false), .lit (.bool true)]

/-- 'interchangelaw04.FrameBegins': WHATEVER THE INPUT: true; the input reads as it did. -/
def frameBeginsSpec : ChangeSpec := { name := "frameBegins", fn := fun _ => fun
  | [d1, d2] => { results := [.lit (.bool true)], args := [d1, d2] }
  | _ => none }
def frameBeginsRow : OpenClaim := { program := "ytdalcbhnnfabhaadoor", sum := "3bbea3c36fd99e3e5076abf4c55d0d4d250687c9a7c3d23ce0c990091bcc9745", func := "interchange/interchangelaw04.FrameBegins", spec := "frameBegins", named := ["interchange/frame.types", "interchange/num.widths"], apart := false, laid := [("interchange/num.widths", laid_interchange_num_widths), ("interchange/frame.types", laid_interchange_frame_types)] }
def FrameBeginsSaid : Prop := frameBeginsRow.holds Tryd.pinned (OpenSpec.ofChange frameBeginsSpec)

/-- ITS FALSE NEIGHBOUR: 'it returns false'. Refute it at one input. -/
def frameBeginsWrong : ChangeSpec := { name := "frameBegins", fn := fun _ => fun
  | [d1, d2] => { results := [.lit (.bool false)], args := [d1, d2] }
  | _ => none }
def FrameBeginsWrongFalsely : Prop := frameBeginsRow.holds Tryd.pinned (OpenSpec.ofChange frameBeginsWrong)

/-- 'interchangelaw04.FrameBack': WHATEVER THE INPUT: true; the input reads as it did. -/
def frameBackSpec : ChangeSpec := { name := "frameBack", fn := fun _ => fun
  | [d1, d2, d3] => { results := [.lit (.bool true)], args := [d1, d2, d3] }
  | _ => none }
def frameBackRow : OpenClaim := { program := "ytdalcbhnnfabhaadoor", sum := "3bbea3c36fd99e3e5076abf4c55d0d4d250687c9a7c3d23ce0c990091bcc9745", func := "interchange/interchangelaw04.FrameBack", spec := "frameBack", named := ["interchange/frame.types", "interchange/num.widths"], apart := false, laid := [("interchange/num.widths", laid_interchange_num_widths), ("interchange/frame.types", laid_interchange_frame_types)] }
def FrameBackSaid : Prop := frameBackRow.holds Tryd.pinned (OpenSpec.ofChange frameBackSpec)

/-- ITS FALSE NEIGHBOUR: 'it returns false'. Refute it at one input. -/
def frameBackWrong : ChangeSpec := { name := "frameBack", fn := fun _ => fun
  | [d1, d2, d3] => { results := [.lit (.bool false)], args := [d1, d2, d3] }
  | _ => none }
def FrameBackWrongFalsely : Prop := frameBackRow.holds Tryd.pinned (OpenSpec.ofChange frameBackWrong)

/-- 'interchangelaw04.FrameMost': WHATEVER THE INPUT: true; the input reads as it did. -/
def frameMostSpec : ChangeSpec := { name := "frameMost", fn := fun _ => fun
  | [d1, d2] => { results := [.lit (.bool true)], args := [d1, d2] }
  | _ => none }
def frameMostRow : OpenClaim := { program := "ytdalcbhnnfabhaadoor", sum := "3bbea3c36fd99e3e5076abf4c55d0d4d250687c9a7c3d23ce0c990091bcc9745", func := "interchange/interchangelaw04.FrameMost", spec := "frameMost", named := ["interchange/frame.types", "interchange/num.widths"], apart := false, laid := [("interchange/num.widths", laid_interchange_num_widths), ("interchange/frame.types", laid_interchange_frame_types)] }
def FrameMostSaid : Prop := frameMostRow.holds Tryd.pinned (OpenSpec.ofChange frameMostSpec)

/-- ITS FALSE NEIGHBOUR: 'it returns false'. Refute it at one input. -/
def frameMostWrong : ChangeSpec := { name := "frameMost", fn := fun _ => fun
  | [d1, d2] => { results := [.lit (.bool false)], args := [d1, d2] }
  | _ => none }
def FrameMostWrongFalsely : Prop := frameMostRow.holds Tryd.pinned (OpenSpec.ofChange frameMostWrong)

/-- 'interchangelaw04.FramePieces': WHATEVER THE INPUT: true; the input reads as it did. -/
def framePiecesSpec : ChangeSpec := { name := "framePieces", fn := fun _ => fun
  | [d1, d2, d3] => { results := [.lit (.bool true)], args := [d1, d2, d3] }
  | _ => none }
def framePiecesRow : OpenClaim := { program := "ytdalcbhnnfabhaadoor", sum := "3bbea3c36fd99e3e5076abf4c55d0d4d250687c9a7c3d23ce0c990091bcc9745", func := "interchange/interchangelaw04.FramePieces", spec := "framePieces", unfollowed := true, recurses := true, named := ["interchange/frame.types", "interchange/num.widths"], apart := false, laid := [("interchange/num.widths", laid_interchange_num_widths), ("interchange/frame.types", laid_interchange_frame_types)] }
def FramePiecesSaid : Prop := framePiecesRow.holds Tryd.pinned (OpenSpec.ofChange framePiecesSpec)

/-- ITS FALSE NEIGHBOUR: 'it returns false'. Refute it at one input. -/
def framePiecesWrong : ChangeSpec := { name := "framePieces", fn := fun _ => fun
  | [d1, d2, d3] => { results := [.lit (.bool false)], args := [d1, d2, d3] }
  | _ => none }
def FramePiecesWrongFalsely : Prop := framePiecesRow.holds Tryd.pinned (OpenSpec.ofChange framePiecesWrong)

/-- 'interchangelaw04.FrameRows': WHATEVER THE INPUT: true; the input reads as it did. -/
def frameRowsSpec : ChangeSpec := { name := "frameRows", fn := fun _ => fun
  | [d] => { results := [.lit (.bool true)], args := [d] }
  | _ => none }
def frameRowsRow : OpenClaim := { program := "ytdalcbhnnfabhaadoor", sum := "3bbea3c36fd99e3e5076abf4c55d0d4d250687c9a7c3d23ce0c990091bcc9745", func := "interchange/interchangelaw04.FrameRows", spec := "frameRows", unfollowed := true, recurses := true, named := ["interchange/frame.types", "interchange/num.widths"], apart := false, laid := [("interchange/num.widths", laid_interchange_num_widths), ("interchange/frame.types", laid_interchange_frame_types)] }
def FrameRowsSaid : Prop := frameRowsRow.holds Tryd.pinned (OpenSpec.ofChange frameRowsSpec)

/-- ITS FALSE NEIGHBOUR: 'it returns false'. Refute it at one input. -/
def frameRowsWrong : ChangeSpec := { name := "frameRows", fn := fun _ => fun
  | [d] => { results := [.lit (.bool false)], args := [d] }
  | _ => none }
def FrameRowsWrongFalsely : Prop := frameRowsRow.holds Tryd.pinned (OpenSpec.ofChange frameRowsWrong)

/-- 'interchangelaw04.FrameBeats': WHATEVER THE INPUT: true; the input reads as it did. -/
def frameBeatsSpec : ChangeSpec := { name := "frameBeats", fn := fun _ => fun
  | [d1, d2] => { results := [.lit (.bool true)], args := [d1, d2] }
  | _ => none }
def frameBeatsRow : OpenClaim := { program := "ytdalcbhnnfabhaadoor", sum := "3bbea3c36fd99e3e5076abf4c55d0d4d250687c9a7c3d23ce0c990091bcc9745", func := "interchange/interchangelaw04.FrameBeats", spec := "frameBeats", unfollowed := true, recurses := true, named := ["interchange/frame.types", "interchange/num.widths"], apart := false, laid := [("interchange/num.widths", laid_interchange_num_widths), ("interchange/frame.types", laid_interchange_frame_types)] }
def FrameBeatsSaid : Prop := frameBeatsRow.holds Tryd.pinned (OpenSpec.ofChange frameBeatsSpec)

/-- ITS FALSE NEIGHBOUR: 'it returns false'. Refute it at one input. -/
def frameBeatsWrong : ChangeSpec := { name := "frameBeats", fn := fun _ => fun
  | [d1, d2] => { results := [.lit (.bool false)], args := [d1, d2] }
  | _ => none }
def FrameBeatsWrongFalsely : Prop := frameBeatsRow.holds Tryd.pinned (OpenSpec.ofChange frameBeatsWrong)

/-- 'interchangelaw04.FrameTakes': WHATEVER THE INPUT: true; the input reads as it did. -/
def frameTakesSpec : ChangeSpec := { name := "frameTakes", fn := fun _ => fun
  | [d1, d2, d3] => { results := [.lit (.bool true)], args := [d1, d2, d3] }
  | _ => none }
def frameTakesRow : OpenClaim := { program := "ytdalcbhnnfabhaadoor", sum := "3bbea3c36fd99e3e5076abf4c55d0d4d250687c9a7c3d23ce0c990091bcc9745", func := "interchange/interchangelaw04.FrameTakes", spec := "frameTakes", unfollowed := true, recurses := true, named := ["interchange/frame.types", "interchange/num.widths"], apart := false, laid := [("interchange/num.widths", laid_interchange_num_widths), ("interchange/frame.types", laid_interchange_frame_types)] }
def FrameTakesSaid : Prop := frameTakesRow.holds Tryd.pinned (OpenSpec.ofChange frameTakesSpec)

/-- ITS FALSE NEIGHBOUR: 'it returns false'. Refute it at one input. -/
def frameTakesWrong : ChangeSpec := { name := "frameTakes", fn := fun _ => fun
  | [d1, d2, d3] => { results := [.lit (.bool false)], args := [d1, d2, d3] }
  | _ => none }
def FrameTakesWrongFalsely : Prop := frameTakesRow.holds Tryd.pinned (OpenSpec.ofChange frameTakesWrong)

/- THE SECOND FORM. 'bulk': how many values and letters a reading holds, each counted each time it is reached (what is shared counts as often as it is met; a slice's spare places count too). A statement '..UptoSaid' is the law's where the arguments, and the package variables that the reading takes, are together of bulk at most 1048576: NARROWER than '..Said'. Prove '..Said' where nothing that the law and all that it calls make is longer than what came in: it says more and counts as full. Else prove '..UptoSaid'. A law counts once. -/
mutual
def uptoBulk {H : Type} : DataW H → Nat
  | .lit (.string bytes) => bytes.length + 1
  | .lit _ => 1
  | .nil => 1
  | .ptr d => uptoBulk d + 1
  | .slice elems spare => uptoBulkAll elems + uptoBulkAll spare + 1
  | .agg parts => uptoBulkAll parts + 1
  | .iface _ d => uptoBulk d + 1
  | .map entries => uptoBulkEntries entries + 1
  | .held _ => 1
def uptoBulkAll {H : Type} : List (DataW H) → Nat
  | [] => 0
  | d :: r => uptoBulk d + uptoBulkAll r
def uptoBulkEntries {H : Type} : List (Lit × DataW H) → Nat
  | [] => 0
  | x :: r => uptoBulkEntry x + uptoBulkEntries r
def uptoBulkEntry {H : Type} : Lit × DataW H → Nat
  | (.string bytes, d) => bytes.length + uptoBulk d + 1
  | (_, d) => uptoBulk d + 1
 end
def uptoSmall : (H : Type) → List (DataW H) → Bool := fun _ ds => decide (uptoBulkAll ds ≤ 1048576)
def OpenSpec.upto (s : _root_.Go.ChangeSpec) : _root_.Go.OpenSpec := { _root_.Go.OpenSpec.ofChange s with cond := some uptoSmall }

/-- 'interchangelaw04.FrameBegins', WHERE WHAT IT READS IS OF BULK AT MOST 1048576: true; the input reads as it did. -/
def frameBeginsUptoRow : OpenClaim := { program := "ytdalcbhnnfabhaadoor", sum := "3bbea3c36fd99e3e5076abf4c55d0d4d250687c9a7c3d23ce0c990091bcc9745", func := "interchange/interchangelaw04.FrameBegins", spec := "frameBegins", named := ["interchange/frame.types", "interchange/num.widths"], apart := false, laid := [("interchange/num.widths", laid_interchange_num_widths), ("interchange/frame.types", laid_interchange_frame_types)], narrowed := true }
def FrameBeginsUptoSaid : Prop := frameBeginsUptoRow.holds Tryd.pinned (OpenSpec.upto frameBeginsSpec)

/-- 'interchangelaw04.FrameBack', WHERE WHAT IT READS IS OF BULK AT MOST 1048576: true; the input reads as it did. -/
def frameBackUptoRow : OpenClaim := { program := "ytdalcbhnnfabhaadoor", sum := "3bbea3c36fd99e3e5076abf4c55d0d4d250687c9a7c3d23ce0c990091bcc9745", func := "interchange/interchangelaw04.FrameBack", spec := "frameBack", named := ["interchange/frame.types", "interchange/num.widths"], apart := false, laid := [("interchange/num.widths", laid_interchange_num_widths), ("interchange/frame.types", laid_interchange_frame_types)], narrowed := true }
def FrameBackUptoSaid : Prop := frameBackUptoRow.holds Tryd.pinned (OpenSpec.upto frameBackSpec)

/-- 'interchangelaw04.FrameMost', WHERE WHAT IT READS IS OF BULK AT MOST 1048576: true; the input reads as it did. -/
def frameMostUptoRow : OpenClaim := { program := "ytdalcbhnnfabhaadoor", sum := "3bbea3c36fd99e3e5076abf4c55d0d4d250687c9a7c3d23ce0c990091bcc9745", func := "interchange/interchangelaw04.FrameMost", spec := "frameMost", named := ["interchange/frame.types", "interchange/num.widths"], apart := false, laid := [("interchange/num.widths", laid_interchange_num_widths), ("interchange/frame.types", laid_interchange_frame_types)], narrowed := true }
def FrameMostUptoSaid : Prop := frameMostUptoRow.holds Tryd.pinned (OpenSpec.upto frameMostSpec)

/-- 'interchangelaw04.FramePieces', WHERE WHAT IT READS IS OF BULK AT MOST 1048576: true; the input reads as it did. -/
def framePiecesUptoRow : OpenClaim := { program := "ytdalcbhnnfabhaadoor", sum := "3bbea3c36fd99e3e5076abf4c55d0d4d250687c9a7c3d23ce0c990091bcc9745", func := "interchange/interchangelaw04.FramePieces", spec := "framePieces", unfollowed := true, recurses := true, named := ["interchange/frame.types", "interchange/num.widths"], apart := false, laid := [("interchange/num.widths", laid_interchange_num_widths), ("interchange/frame.types", laid_interchange_frame_types)], narrowed := true }
def FramePiecesUptoSaid : Prop := framePiecesUptoRow.holds Tryd.pinned (OpenSpec.upto framePiecesSpec)

/-- 'interchangelaw04.FrameRows', WHERE WHAT IT READS IS OF BULK AT MOST 1048576: true; the input reads as it did. -/
def frameRowsUptoRow : OpenClaim := { program := "ytdalcbhnnfabhaadoor", sum := "3bbea3c36fd99e3e5076abf4c55d0d4d250687c9a7c3d23ce0c990091bcc9745", func := "interchange/interchangelaw04.FrameRows", spec := "frameRows", unfollowed := true, recurses := true, named := ["interchange/frame.types", "interchange/num.widths"], apart := false, laid := [("interchange/num.widths", laid_interchange_num_widths), ("interchange/frame.types", laid_interchange_frame_types)], narrowed := true }
def FrameRowsUptoSaid : Prop := frameRowsUptoRow.holds Tryd.pinned (OpenSpec.upto frameRowsSpec)

/-- 'interchangelaw04.FrameBeats', WHERE WHAT IT READS IS OF BULK AT MOST 1048576: true; the input reads as it did. -/
def frameBeatsUptoRow : OpenClaim := { program := "ytdalcbhnnfabhaadoor", sum := "3bbea3c36fd99e3e5076abf4c55d0d4d250687c9a7c3d23ce0c990091bcc9745", func := "interchange/interchangelaw04.FrameBeats", spec := "frameBeats", unfollowed := true, recurses := true, named := ["interchange/frame.types", "interchange/num.widths"], apart := false, laid := [("interchange/num.widths", laid_interchange_num_widths), ("interchange/frame.types", laid_interchange_frame_types)], narrowed := true }
def FrameBeatsUptoSaid : Prop := frameBeatsUptoRow.holds Tryd.pinned (OpenSpec.upto frameBeatsSpec)

/-- 'interchangelaw04.FrameTakes', WHERE WHAT IT READS IS OF BULK AT MOST 1048576: true; the input reads as it did. -/
def frameTakesUptoRow : OpenClaim := { program := "ytdalcbhnnfabhaadoor", sum := "3bbea3c36fd99e3e5076abf4c55d0d4d250687c9a7c3d23ce0c990091bcc9745", func := "interchange/interchangelaw04.FrameTakes", spec := "frameTakes", unfollowed := true, recurses := true, named := ["interchange/frame.types", "interchange/num.widths"], apart := false, laid := [("interchange/num.widths", laid_interchange_num_widths), ("interchange/frame.types", laid_interchange_frame_types)], narrowed := true }
def FrameTakesUptoSaid : Prop := frameTakesUptoRow.holds Tryd.pinned (OpenSpec.upto frameTakesSpec)

end Rows
end Go.Proofs.YtdalcbhnnfabhaaDoor
