/- The table of the widths: what the row's list gives, and a world that holds it. -/
import Derived.Test.YtmpbhbbgnmkpgaaDoorFHopen
import Derived.Lib.LaidTab
import Derived.Deep.DeepHandedRow
namespace Go.Proofs.YtmpbhbbgnmkpgaaDoor.F
open Go.RowKit Go.Proofs.YtmpbhbbgnmkpgaaDoorW.PrintWords Go.Proofs.YtmpbhbbgnmkpgaaDoorW.PrintLast Go.Proofs.YtmpbhbbgnmkpgaaDoorW.PrintMore
set_option linter.unusedVariables false
set_option linter.unusedSimpArgs false
theorem g_widths : Tryd.prog.globalNamed "interchange/num.widths" = some 1 := by kernel_rfl
theorem g_widths_type : (Tryd.prog.globals[1]?).map (·.type) = some 67 := by kernel_rfl
theorem cells_widths : Tryd.prog.cellsOf 67 = 4 := by kernel_rfl
theorem cells_int : Tryd.prog.cellsOf 3 = 1 := by kernel_rfl
theorem table_widths {W : World} (h : laidMetH Tryd.prog [("interchange/num.widths", Rows.laid_interchange_num_widths)] W) : Lib.TabIs Tryd.prog W "interchange/num.widths" .i64 [1, 2, 4, 8] :=
  Lib.tabIs_of_head (rest := []) g_widths g_widths_type Tryd.underlying67 Tryd.underlying3 cells_int cells_widths h
theorem laid_of {W : World} (h : laidMetH Tryd.prog [("interchange/num.widths", Rows.laid_interchange_num_widths)] W) : Laid W :=
  ⟨(table_widths h).cell g_widths 0 (by decide), (table_widths h).cell g_widths 1 (by decide), (table_widths h).cell g_widths 2 (by decide), (table_widths h).cell g_widths 3 (by decide)⟩
noncomputable def laid_world (os : Os) : World :=
  { World.holding Tryd.prog os ⟨#[], #[], []⟩ with heap := (World.holding Tryd.prog os ⟨#[], #[], []⟩).heap.modify 1 fun
      | .cells _ t frozen => .cells #[.int .i64 1, .int .i64 2, .int .i64 4, .int .i64 8] t frozen
      | o => o }
end Go.Proofs.YtmpbhbbgnmkpgaaDoor.F
