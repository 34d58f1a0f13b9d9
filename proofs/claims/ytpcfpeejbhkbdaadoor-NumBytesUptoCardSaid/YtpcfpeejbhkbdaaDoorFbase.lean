-- Printed by this session's program pf.py out of the kit's print.
import Derived.Test.YtpcfpeejbhkbdaaDoorProg
import Derived.Below
import Derived.Deep.Draws
import Derived.Deep.AppendLies
import Derived.Maps.AppendAt
import Derived.OwnWalk
import Derived.Laws.BytesArg
import Derived.Laws.MakeOwn
import Derived.Laws.OwnMore
import Derived.Deep.OwnRows
import Derived.Tactics
import Derived.Lib.ConvBytes
import Derived.Laws.Slices
import Derived.WalkKit
import Derived.KernelRfl
import Derived.RowKit3
import Derived.Deep.LoopGhost
import Derived.Deep.QuietTactic
import Derived.BigQuiet
import Derived.WideLaws
import Derived.Deep.DeepCutAuto
import Derived.Deep.CutBlock
import Derived.Deep.RegionHeld3
import Derived.Laws.Rows
import Derived.Lib.AppendStr
import Derived.ArgAppend
import Derived.Laws.IdiomCopy
import Derived.OrdersHeld
import Derived.Laws.BitsLemmas
import Derived.RowKit
import Derived.Test.YtpcfpeejbhkbdaaDoorWWords
import Derived.Test.YtpcfpeejbhkbdaaDoorWLast
import Derived.Test.YtpcfpeejbhkbdaaDoorWTab
import Derived.Test.YtpcfpeejbhkbdaaDoorWFour
import Derived.Test.YtpcfpeejbhkbdaaDoorWQPut
import Derived.Test.YtpcfpeejbhkbdaaDoorWApart
import Derived.Test.YtpcfpeejbhkbdaaDoorWArr
import Derived.Test.YtpcfpeejbhkbdaaDoorWZeros
import Derived.Test.YtpcfpeejbhkbdaaDoorWFoot
import Derived.Test.YtpcfpeejbhkbdaaDoorWKept
import Derived.Test.YtpcfpeejbhkbdaaDoorWShare
import Derived.Test.YtpcfpeejbhkbdaaDoorWN
import Derived.Test.YtpcfpeejbhkbdaaDoorWFootNe
import Derived.Test.YtpcfpeejbhkbdaaDoorWAt
import Derived.Test.YtpcfpeejbhkbdaaDoorWEqStruct
import Derived.Test.YtpcfpeejbhkbdaaDoorWRepsOne
import Derived.Test.YtpcfpeejbhkbdaaDoorWInv
import Derived.Test.YtpcfpeejbhkbdaaDoorWInvWords
import Derived.Test.YtpcfpeejbhkbdaaDoorWGuard
import Derived.Test.YtpcfpeejbhkbdaaDoorWNEv
import Derived.Test.YtpcfpeejbhkbdaaDoorWMore
namespace Go.Proofs.YtpcfpeejbhkbdaaDoor.F
open Go.RowKit Go.Proofs.YtpcfpeejbhkbdaaDoorW.PrintWords Go.Proofs.YtpcfpeejbhkbdaaDoorW.PrintLast Go.Proofs.YtpcfpeejbhkbdaaDoorW.PrintMore
attribute [local go_sem] max2_int min2_int max_two min_two max_three min_three max_four min_four
set_option linter.unusedVariables false
set_option linter.unusedSimpArgs false

def errW : Option Int → Value
  | none => .nilIface
  | some c => .iface 0 (.int .i64 c)
theorem errW_none : errW none = .nilIface := rfl
theorem errW_some (c : Int) : errW (some c) = .iface 0 (.int .i64 c) := rfl

theorem info4 : (Tryd.prog.info? 4).map (fun i => (i.zero, i.size, i.bytes)) = some (some (.bool false), 1, 1) := by kernel_rfl
theorem info5 : (Tryd.prog.info? 5).map (fun i => (i.zero, i.size, i.bytes)) = some (some (.int .u8 0), 1, 1) := by kernel_rfl
def rd_L3 (xs : List (List Bool)) (i : Int) : (List Bool) := xs.getD i.toNat ([] : List Bool)
theorem at_L3 {w : World} {A : Option Addr} {n : Nat} {xs : List (List Bool)} (h : Kd.C (Kd.slice 4 Kd.bool) w A n xs) (i : Int) (h0 : 0 ≤ i) (h1 : i < n) : ∃ ad A0 c0, A = some ad ∧ w.cell? (ad.add i.toNat) = some (.slice A0 (rd_L3 xs i).length c0) ∧ (rd_L3 xs i).length ≤ c0 ∧ Kd.bool.C w A0 (rd_L3 xs i).length (rd_L3 xs i) := by
  obtain ⟨ad, c, e, _, hK, hc0⟩ := Kd.C_get h ([] : List Bool) i h0 h1
  have hc : ∀ j u, c[j]? = some u → w.cell? (ad.add (i.toNat * 1 + j)) = some u := hc0
  obtain ⟨A0, c0, rfl, l0, g0⟩ := hK
  exact ⟨ad, A0, c0, e, by have hq := hc 0 _ rfl; rwa [Nat.mul_one, Nat.add_zero] at hq, l0, g0⟩

/-- THE TABLES: what the package-level variables hold. -/
structure Laid (w : World) : Prop where
  c0 : w.cell? ⟨0, 0, none⟩ = some (Value.int .i64 1)
  c1 : w.cell? ⟨0, 1, none⟩ = some (Value.int .i64 2)
  c2 : w.cell? ⟨0, 2, none⟩ = some (Value.int .i64 4)
  c3 : w.cell? ⟨0, 3, none⟩ = some (Value.int .i64 8)
theorem Laid.below {w w' : World} (h : Laid w) (hb : Below w.heap.size w w') : Laid w' :=
  ⟨pw_cell_below hb h.c0, pw_cell_below hb h.c1, pw_cell_below hb h.c2, pw_cell_below hb h.c3⟩
theorem Laid.drawn {w w' : World} (h : Laid w) (hb : Drawn0 w w') : Laid w' := h.below hb.below
end Go.Proofs.YtpcfpeejbhkbdaaDoor.F
