/- The tables of the widths and of the frames' kinds: what the row's list gives, and a world that holds them. -/
import Derived.Test.YtdalcbhnnfabhaaDoorFHopen
import Derived.Lib.LaidTab
import Derived.Deep.DeepHandedRow
namespace Go.Proofs.YtdalcbhnnfabhaaDoor.F
open Go.RowKit Go.Proofs.YtdalcbhnnfabhaaDoorW.PrintWords Go.Proofs.YtdalcbhnnfabhaaDoorW.PrintLast Go.Proofs.YtdalcbhnnfabhaaDoorW.PrintMore
set_option linter.unusedVariables false
set_option linter.unusedSimpArgs false
theorem g_widths : Tryd.prog.globalNamed "interchange/num.widths" = some 1 := by kernel_rfl
theorem g_widths_type : (Tryd.prog.globals[1]?).map (·.type) = some 68 := by kernel_rfl
theorem g_types : Tryd.prog.globalNamed "interchange/frame.types" = some 0 := by kernel_rfl
theorem g_types_type : (Tryd.prog.globals[0]?).map (·.type) = some 64 := by kernel_rfl
theorem cells_widths : Tryd.prog.cellsOf 68 = 4 := by kernel_rfl
theorem cells_types : Tryd.prog.cellsOf 64 = 9 := by kernel_rfl
theorem cells_int : Tryd.prog.cellsOf 3 = 1 := by kernel_rfl
theorem cells_bool : Tryd.prog.cellsOf 4 = 1 := by kernel_rfl
/-- A row's array of truth values. -/
def boolData {H : Type} (zs : List Bool) : DataW H := .agg (zs.map fun z => .lit (.bool z))
theorem cells_of_bools {H : Type} {enc : TypeId × Value → H} {P : Program} {w : World} {base : Nat} {sp : Nat → Bool} {held : Bool} {fuel : Nat} {t e : TypeId} {n : Nat} {cs : List Value} {zs : List Bool} {p : List MemPlace}
    (ht : P.underlying t = some (.array n e)) (he : P.underlying e = some .bool) (hce : P.cellsOf e = 1) (hct : P.cellsOf t = n)
    (h : DataW.trod enc P w base sp held fuel t cs = some (boolData zs, p)) : cs = zs.map fun z => Value.bool z := by
  cases fuel with
  | zero => simp [DataW.trod] at h
  | succ fuel =>
    simp only [DataW.trod, ht, hce, hct, Nat.mul_one] at h
    split at h
    · obtain ⟨xs, hm, hx⟩ := Option.map_eq_some_iff.1 h
      have hxs : xs.map (·.1) = zs.map fun z => (DataW.lit (.bool z) : DataW H) := by
        have := congrArg Prod.fst hx
        simpa [boolData] using this
      have hxl : xs.length = n := by simpa using Lib.mapM_length hm
      have hzl : zs.length = n := by
        have := congrArg List.length hxs
        simp at this
        omega
      rename_i hl
      apply List.ext_getElem?
      intro i
      by_cases hi : i < n
      · obtain ⟨b, hb, hf⟩ := Lib.mapM_at hm i i (by simp [hi])
        obtain ⟨z, hc, rfl⟩ := DataW.trod_bool he hf
        have h1 : cs[i]? = some (.bool z) := by
          have := congrArg (·[0]?) hc
          simpa [List.getElem?_take, List.getElem?_drop] using this
        have h2 : (xs.map (·.1))[i]? = some (DataW.lit (.bool z) : DataW H) := by simp [hb]
        rw [hxs] at h2
        simp only [List.getElem?_map, Option.map_eq_some_iff, DataW.lit.injEq, Lit.bool.injEq] at h2
        obtain ⟨z', hz', rfl⟩ := h2
        simp [h1, hz']
      · rw [List.getElem?_eq_none (by omega), List.getElem?_eq_none (by simp; omega)]
    · cases h
theorem bools_of_met {P : Program} {W : World} {name : String} {zs : List Bool} {x : String × DataW Unit} {rest : List (String × DataW Unit)} {g : Nat} {t e : TypeId} {n : Nat}
    (hg : P.globalNamed name = some g) (hty : (P.globals[g]?).map (·.type) = some t) (ht : P.underlying t = some (.array n e)) (he : P.underlying e = some .bool) (hce : P.cellsOf e = 1) (hct : P.cellsOf t = n)
    (h : laidMet P (x :: (name, boolData zs) :: rest) W) : W.var? P name = some (zs.map fun z => Value.bool z).toArray := by
  obtain ⟨ps, ⟨_, _, _, _, _, _, _, _, _, _, ⟨g', t', cs, fuel, p, q, hg', ht', hvar, hd, _, _⟩, _⟩, _⟩ := h
  obtain rfl := Option.some.inj (hg.symm.trans hg')
  obtain rfl := Option.some.inj (hty.symm.trans ht')
  rw [hvar, ← cells_of_bools ht he hce hct hd]
theorem bool_cell {P : Program} {w : World} {name : String} {zs : List Bool} {g : Nat} (h : w.var? P name = some (zs.map fun z => Value.bool z).toArray) (hg : P.globalNamed name = some g) (i : Nat) (hi : i < zs.length) :
    w.cell? ⟨g, i, none⟩ = some (.bool (zs.getD i false)) := by
  have := World.var?_cell hg h i
  simpa [List.getD, hi] using this
theorem laid_of {W : World} (h : laidMetH Tryd.prog [("interchange/num.widths", Rows.laid_interchange_num_widths), ("interchange/frame.types", Rows.laid_interchange_frame_types)] W) : Laid W := by
  have tw : Lib.TabIs Tryd.prog W "interchange/num.widths" .i64 [1, 2, 4, 8] :=
    Lib.tabIs_of_head (rest := [("interchange/frame.types", Rows.laid_interchange_frame_types)]) g_widths g_widths_type Tryd.underlying68 Tryd.underlying3 cells_int cells_widths h
  have tt : W.var? Tryd.prog "interchange/frame.types" = some (([false, true, true, true, false, false, false, false, true] : List Bool).map fun z => Value.bool z).toArray :=
    bools_of_met (x := ("interchange/num.widths", Rows.laid_interchange_num_widths)) (rest := []) g_types g_types_type Tryd.underlying64 Tryd.underlying4 cells_bool cells_types h
  exact ⟨tw.cell g_widths 0 (by decide), tw.cell g_widths 1 (by decide), tw.cell g_widths 2 (by decide), tw.cell g_widths 3 (by decide),
    bool_cell tt g_types 0 (by decide), bool_cell tt g_types 1 (by decide), bool_cell tt g_types 2 (by decide), bool_cell tt g_types 3 (by decide), bool_cell tt g_types 4 (by decide),
    bool_cell tt g_types 5 (by decide), bool_cell tt g_types 6 (by decide), bool_cell tt g_types 7 (by decide), bool_cell tt g_types 8 (by decide)⟩
def put_widths (o : Obj) : Obj := match o with
  | .cells _ t frozen => .cells #[.int .i64 1, .int .i64 2, .int .i64 4, .int .i64 8] t frozen
  | o => o
def put_types (o : Obj) : Obj := match o with
  | .cells _ t frozen => .cells #[.bool false, .bool true, .bool true, .bool true, .bool false, .bool false, .bool false, .bool false, .bool true] t frozen
  | o => o
noncomputable def laid_world (os : Os) : World :=
  { World.holding Tryd.prog os ⟨#[], #[], []⟩ with heap := ((World.holding Tryd.prog os ⟨#[], #[], []⟩).heap.modify 1 put_widths).modify 0 put_types }
end Go.Proofs.YtdalcbhnnfabhaaDoor.F
