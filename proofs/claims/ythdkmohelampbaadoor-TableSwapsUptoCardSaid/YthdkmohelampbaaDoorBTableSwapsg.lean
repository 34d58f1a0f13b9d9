/- The fields of two tables, one's behind the other's, are a table with the keys of both, if it isn't too deep, for every input whose bulk is at most 1048576 (the second form). -/
import Derived.Test.YthdkmohelampbaaDoorCards
import Derived.Test.YthdkmohelampbaaDoorTie
import Derived.WalkKit
import Derived.ProofKit
import Derived.OpenShut
import Derived.Deep.DeepHandedRow
import Derived.Lib.LaidTab
import Derived.SizedLaws
import Derived.Carry
import Derived.SevenTiedAt
import Derived.Test.YthdkmohelampbaaDoorBTableSwapsa
import Derived.Test.YthdkmohelampbaaDoorBTableSwapsb
import Derived.Test.YthdkmohelampbaaDoorBTableSwapsc
import Derived.Test.YthdkmohelampbaaDoorBTableSwapsd
import Derived.Test.YthdkmohelampbaaDoorBTableSwapse
import Derived.Test.YthdkmohelampbaaDoorBTableSwapsf
namespace Go.Proofs.YthdkmohelampbaaDoor.F
open Go.RowKit Go.Proofs.YthdkmohelampbaaDoorW.PrintWords Go.Proofs.YthdkmohelampbaaDoorW.PrintLast Go.Proofs.YthdkmohelampbaaDoorW.PrintMore
attribute [local go_sem] max2_int min2_int max_two min_two max_three min_three max_four min_four
set_option linter.unusedVariables false
set_option linter.unusedSimpArgs false

/-! ### interchangelaw03_TableBack: function 7 -/
mutual
def interchangelaw03_TableBack.j0 : Nat → List ByteArray → List ByteArray → Int → Bool → ByteArray → Bool → Option (Bool)
  | 0, _, _, _, _, _, _ => none
  | k + 1, x3, x4, x6, x7, x8, x80 => if x80 = true then (some false) else (if x6 < 0 then (interchangelaw03_TableBack.j1 k x3 x4 x6 x7 x8 true) else (if x6 ≥ (x3.length : Int) then (interchangelaw03_TableBack.j1 k x3 x4 x6 x7 x8 true) else (interchangelaw03_TableBack.j1 k x3 x4 x6 x7 x8 ((x4.length : Int) != (x3.length : Int)))))
def interchangelaw03_TableBack.j1 : Nat → List ByteArray → List ByteArray → Int → Bool → ByteArray → Bool → Option (Bool)
  | 0, _, _, _, _, _, _ => none
  | k + 1, x3, x4, x6, x7, x8, x95 => if x95 = true then (if x7 = true then (some ((x4.length : Int) == (x3.length : Int))) else (some false)) else (interchangelaw03_TableBack.l0 k x3 x4 x6 x7 x8 0)
def interchangelaw03_TableBack.l0 : Nat → List ByteArray → List ByteArray → Int → Bool → ByteArray → Int → Option (Bool)
  | 0, _, _, _, _, _, _ => none
  | k + 1, x3, x4, x6, x7, x8, x16 => if x16 < x6 then (if 0 ≤ x16 then (if x16 < (x3.length : Int) then (if 0 ≤ x6 then (if x6 < (x3.length : Int) then (if (rdOf ByteArray.empty x3 x16).toList = (rdOf ByteArray.empty x3 x6).toList then (some x7) else (interchangelaw03_TableBack.l0 k x3 x4 x6 x7 x8 (wrap64 (x16 + 1)))) else (none)) else (none)) else (none)) else (none)) else (if 0 ≤ x6 then (if x6 < (x3.length : Int) then ((table_Find.f x8 (rdOf ByteArray.empty x3 x6)).bind fun bt221 => (if x7 = true then (if bt221.2 = true then (if x6 < (x4.length : Int) then (some (bt221.1.toList == (rdOf ByteArray.empty x4 x6).toList)) else (none)) else (some false)) else (some false))) else (none)) else (none))
end
def interchangelaw03_TableBack.f (k : Nat) (l0_0 : List ByteArray) (l0_1 : List ByteArray) (a0_2 : ByteArray) (a0_3 : Int) : Option (Bool) := (interchangelaw03_shown.f).bind fun t207 => (if (l0_0.length : Int) > 60 then (some t207) else ((table_Make.f l0_0 l0_1).bind fun bt208 => (if bt208.2 = 0 then (if bt208.1.size + a0_2.size ≤ 9223372036854775807 then ((table_Take.f (bt208.1 ++ a0_2)).bind fun bt210 => ((table_Keys.f bt208.1).bind fun bt213 => ((interchangeref02_Strings.f k bt213.1 l0_0).bind fun t217 => (if bt210.2.2 = 0 then (if bt210.1.toList = bt208.1.toList then (if bt210.2.1.toList = a0_2.toList then (if bt213.2 = 0 then (interchangelaw03_TableBack.j0 k l0_0 l0_1 a0_3 t207 bt208.1 (!t217)) else (interchangelaw03_TableBack.j0 k l0_0 l0_1 a0_3 t207 bt208.1 true)) else (interchangelaw03_TableBack.j0 k l0_0 l0_1 a0_3 t207 bt208.1 true)) else (interchangelaw03_TableBack.j0 k l0_0 l0_1 a0_3 t207 bt208.1 true)) else (interchangelaw03_TableBack.j0 k l0_0 l0_1 a0_3 t207 bt208.1 true))))) else (none)) else (if t207 = true then (some (bt208.1.toList == ([] : List UInt8))) else (some false)))))
theorem interchangelaw03_TableBack.mono_l : ∀ k, (∀ y0 y1 y2 y3 y4 y5, LeO (interchangelaw03_TableBack.j0 k y0 y1 y2 y3 y4 y5) (interchangelaw03_TableBack.j0 (k + 1) y0 y1 y2 y3 y4 y5)) ∧ (∀ y0 y1 y2 y3 y4 y5, LeO (interchangelaw03_TableBack.j1 k y0 y1 y2 y3 y4 y5) (interchangelaw03_TableBack.j1 (k + 1) y0 y1 y2 y3 y4 y5)) ∧ (∀ y0 y1 y2 y3 y4 y5, LeO (interchangelaw03_TableBack.l0 k y0 y1 y2 y3 y4 y5) (interchangelaw03_TableBack.l0 (k + 1) y0 y1 y2 y3 y4 y5))
  | 0 => ⟨fun _ _ _ _ _ _ r h => by simp [interchangelaw03_TableBack.j0] at h, fun _ _ _ _ _ _ r h => by simp [interchangelaw03_TableBack.j1] at h, fun _ _ _ _ _ _ r h => by simp [interchangelaw03_TableBack.l0] at h⟩
  | k + 1 => by
    obtain ⟨ih0, ih1, ih2⟩ := interchangelaw03_TableBack.mono_l k
    refine ⟨?_, ?_, ?_⟩
    · intro y0 y1 y2 y3 y4 y5
      unfold interchangelaw03_TableBack.j0
      repeat' first
      | (with_reducible exact ih0 _ _ _ _ _ _)
      | (with_reducible exact ih1 _ _ _ _ _ _)
      | (with_reducible exact ih2 _ _ _ _ _ _)
      | (with_reducible exact interchangeref02_Strings.mono _ _ _)
      | (with_reducible exact LeO.refl _)
      | (with_reducible exact LeO.none _)
      | (with_reducible refine LeO.ite ?_ ?_)
      | (with_reducible refine LeO.bind ?_ (fun _ => ?_))
      | exact ih0 _ _ _ _ _ _
      | exact ih1 _ _ _ _ _ _
      | exact ih2 _ _ _ _ _ _
      | exact interchangeref02_Strings.mono _ _ _
      | exact LeO.none _
      | refine LeO.ite ?_ ?_
      | refine LeO.bind ?_ (fun _ => ?_)
    · intro y0 y1 y2 y3 y4 y5
      unfold interchangelaw03_TableBack.j1
      repeat' first
      | (with_reducible exact ih0 _ _ _ _ _ _)
      | (with_reducible exact ih1 _ _ _ _ _ _)
      | (with_reducible exact ih2 _ _ _ _ _ _)
      | (with_reducible exact interchangeref02_Strings.mono _ _ _)
      | (with_reducible exact LeO.refl _)
      | (with_reducible exact LeO.none _)
      | (with_reducible refine LeO.ite ?_ ?_)
      | (with_reducible refine LeO.bind ?_ (fun _ => ?_))
      | exact ih0 _ _ _ _ _ _
      | exact ih1 _ _ _ _ _ _
      | exact ih2 _ _ _ _ _ _
      | exact interchangeref02_Strings.mono _ _ _
      | exact LeO.none _
      | refine LeO.ite ?_ ?_
      | refine LeO.bind ?_ (fun _ => ?_)
    · intro y0 y1 y2 y3 y4 y5
      unfold interchangelaw03_TableBack.l0
      repeat' first
      | (with_reducible exact ih0 _ _ _ _ _ _)
      | (with_reducible exact ih1 _ _ _ _ _ _)
      | (with_reducible exact ih2 _ _ _ _ _ _)
      | (with_reducible exact interchangeref02_Strings.mono _ _ _)
      | (with_reducible exact LeO.refl _)
      | (with_reducible exact LeO.none _)
      | (with_reducible refine LeO.ite ?_ ?_)
      | (with_reducible refine LeO.bind ?_ (fun _ => ?_))
      | exact ih0 _ _ _ _ _ _
      | exact ih1 _ _ _ _ _ _
      | exact ih2 _ _ _ _ _ _
      | exact interchangeref02_Strings.mono _ _ _
      | exact LeO.none _
      | refine LeO.ite ?_ ?_
      | refine LeO.bind ?_ (fun _ => ?_)
theorem interchangelaw03_TableBack.mono : ∀ a0 a1 a2 a3 k, LeO (interchangelaw03_TableBack.f k a0 a1 a2 a3) (interchangelaw03_TableBack.f (k + 1) a0 a1 a2 a3) := by
  intro a0 a1 a2 a3 k
  obtain ⟨ih0, ih1, ih2⟩ := interchangelaw03_TableBack.mono_l k
  unfold interchangelaw03_TableBack.f
  repeat' first
      | (with_reducible exact ih0 _ _ _ _ _ _)
      | (with_reducible exact ih1 _ _ _ _ _ _)
      | (with_reducible exact ih2 _ _ _ _ _ _)
      | (with_reducible exact interchangeref02_Strings.mono _ _ _)
      | (with_reducible exact LeO.refl _)
      | (with_reducible exact LeO.none _)
      | (with_reducible refine LeO.ite ?_ ?_)
      | (with_reducible refine LeO.bind ?_ (fun _ => ?_))
      | exact ih0 _ _ _ _ _ _
      | exact ih1 _ _ _ _ _ _
      | exact ih2 _ _ _ _ _ _
      | exact interchangeref02_Strings.mono _ _ _
      | exact LeO.none _
      | refine LeO.ite ?_ ?_
      | refine LeO.bind ?_ (fun _ => ?_)
set_option maxHeartbeats 8000000 in
set_option maxRecDepth 100000 in
theorem interchangelaw03_TableBack.calls (k : Nat) (A0_0 : Option Addr) (c0_0 : Nat) (l0_0 : List ByteArray) (A0_1 : Option Addr) (c0_1 : Nat) (l0_1 : List ByteArray) (a0_2 : ByteArray) (a0_3 : Int) (w : World) (hg : Laid w) (hr0_0 : Kd.C Kd.string w A0_0 l0_0.length l0_0) (hc0_0 : l0_0.length ≤ c0_0) (hr0_1 : Kd.C Kd.string w A0_1 l0_1.length l0_1) (hc0_1 : l0_1.length ≤ c0_1) (h : interchangelaw03_TableBack.f k l0_0 l0_1 a0_2 a0_3 = some true) :
    Calls Tryd.prog 7 #[.agg #[.slice A0_0 l0_0.length c0_0, .slice A0_1 l0_1.length c0_1, .string a0_2, .int .i64 a0_3]] w fun e w' => e = .returned (.bool true) ∧ Below w.heap.size w w' := by
  have HG := Aside0.mk hg
  clear hg
  have hu39 := Tryd.underlying39
  have HR0_0 := Aside0.mk hr0_0
  have HC0_0 := Aside0.mk hc0_0
  clear hr0_0 hc0_0
  have HR0_1 := Aside0.mk hr0_1
  have HC0_1 := Aside0.mk hc0_1
  clear hr0_1 hc0_1
  have HB := Aside0.mk (Below.refl w.heap.size w)
  have H : ((interchangelaw03_shown.f).bind fun t207 => (if (l0_0.length : Int) > 60 then (some t207) else ((table_Make.f l0_0 l0_1).bind fun bt208 => (if bt208.2 = 0 then (if bt208.1.size + a0_2.size ≤ 9223372036854775807 then ((table_Take.f (bt208.1 ++ a0_2)).bind fun bt210 => ((table_Keys.f bt208.1).bind fun bt213 => ((interchangeref02_Strings.f k bt213.1 l0_0).bind fun t217 => (if bt210.2.2 = 0 then (if bt210.1.toList = bt208.1.toList then (if bt210.2.1.toList = a0_2.toList then (if bt213.2 = 0 then (interchangelaw03_TableBack.j0 k l0_0 l0_1 a0_3 t207 bt208.1 (!t217)) else (interchangelaw03_TableBack.j0 k l0_0 l0_1 a0_3 t207 bt208.1 true)) else (interchangelaw03_TableBack.j0 k l0_0 l0_1 a0_3 t207 bt208.1 true)) else (interchangelaw03_TableBack.j0 k l0_0 l0_1 a0_3 t207 bt208.1 true)) else (interchangelaw03_TableBack.j0 k l0_0 l0_1 a0_3 t207 bt208.1 true))))) else (none)) else (if t207 = true then (some (bt208.1.toList == ([] : List UInt8))) else (some false)))))) = some true := h
  clear h
  replace H := Option.bind_eq_some_iff.mp H
  obtain ⟨t207, A20, H⟩ := H
  replace H : (if (l0_0.length : Int) > 60 then (some t207) else ((table_Make.f l0_0 l0_1).bind fun bt208 => (if bt208.2 = 0 then (if bt208.1.size + a0_2.size ≤ 9223372036854775807 then ((table_Take.f (bt208.1 ++ a0_2)).bind fun bt210 => ((table_Keys.f bt208.1).bind fun bt213 => ((interchangeref02_Strings.f k bt213.1 l0_0).bind fun t217 => (if bt210.2.2 = 0 then (if bt210.1.toList = bt208.1.toList then (if bt210.2.1.toList = a0_2.toList then (if bt213.2 = 0 then (interchangelaw03_TableBack.j0 k l0_0 l0_1 a0_3 t207 bt208.1 (!t217)) else (interchangelaw03_TableBack.j0 k l0_0 l0_1 a0_3 t207 bt208.1 true)) else (interchangelaw03_TableBack.j0 k l0_0 l0_1 a0_3 t207 bt208.1 true)) else (interchangelaw03_TableBack.j0 k l0_0 l0_1 a0_3 t207 bt208.1 true)) else (interchangelaw03_TableBack.j0 k l0_0 l0_1 a0_3 t207 bt208.1 true))))) else (none)) else (if t207 = true then (some (bt208.1.toList == ([] : List UInt8))) else (some false))))) = some true := H
  have A2 := Aside0.mk A20
  clear A20
  by_cases c3 : (l0_0.length : Int) > 60
  · rw [if_pos c3] at H
    have c3b0 : decide (60 < (l0_0.length : Int)) = true := decide_eq_true c3
    have c3b1 : decide (60 < l0_0.length) = true := decide_eq_true (by omega)
    clear c3
    have HR_ := Aside0.mk (Option.some.inj H)
    clear H
    go_enter Tryd.func7, Tryd.ntmps7
    go_wp2_with (first | ((with_reducible refine gate_dst (N := 1) rfl ?_); refine box_event ?hg (N := 1) ?hd (cs := #[.slice A0_0 l0_0.length c0_0, .slice A0_1 l0_1.length c0_1, .string a0_2, .int .i64 a0_3]) (t := 39) ?hr ?_; (case hd => rfl); (case hg => rfl); (case hr => first | (go_simp; done) | (go_simp; rfl)); intro gb206 hg w4 hbox hb; have n0_ := Aside0.mk (below_step (by repeat (first | (with_reducible first | exact HB.out | apply below_alloc | apply pw_below_drewN | apply below_drew1) | exact HB.out)) hb); have n1_ := Aside0.mk (hbox); have n2_ := Aside0.mk ((by rw [hg]; exact (below_size (by repeat (first | (with_reducible first | exact HB.out | apply below_alloc | apply pw_below_drewN | apply below_drew1) | exact HB.out))) : w.heap.size ≤ gb206)); have n3_ := Aside0.mk ((by rw [hg]; exact (below_size (by repeat (first | (with_reducible first | exact HB.out | apply below_alloc | apply pw_below_drewN | apply below_drew1) | exact HB.out))) : w.heap.size ≤ gb206)); clear HB; have HB := n0_; have BK206 := n1_; have GW206 := n2_; have GE206 := n3_; clear n0_ n1_ n2_ n3_; clear hb hbox hg; have hcz5_0 : w4.cell? ⟨gb206, 0, none⟩ = some (.slice A0_0 l0_0.length c0_0) := (blk_cell BK206.out 0).trans rfl; have hcz5_1 : w4.cell? ⟨gb206, 1, none⟩ = some (.slice A0_1 l0_1.length c0_1) := (blk_cell BK206.out 1).trans rfl; have hcz5_2 : w4.cell? ⟨gb206, 2, none⟩ = some (.string a0_2) := (blk_cell BK206.out 2).trans rfl; have hcz5_3 : w4.cell? ⟨gb206, 3, none⟩ = some (.int .i64 a0_3) := (blk_cell BK206.out 3).trans rfl; have hfz5_0 := blk_frozen BK206.out 0; have hfz5_1 := blk_frozen BK206.out 1; have hfz5_2 := blk_frozen BK206.out 2; have hfz5_3 := blk_frozen BK206.out 3) | (go_at_call 10; (with_reducible refine (interchangelaw03_shown.calls t207 _ ?lg A2.out).mono ?_); (case lg => exact (HG.out.below (by repeat (first | (with_reducible first | exact HB.out | apply below_alloc | apply pw_below_drewN | apply below_drew1 | refine below_set ?_ GE206.out) | exact HB.out)))); rintro e w6 ⟨rfl, hb⟩; have n0_ := Aside0.mk (blk_below (g := gb206) (o := .cells #[.slice A0_0 l0_0.length c0_0, .slice A0_1 l0_1.length c0_1, .string a0_2, .int .i64 a0_3] 39 (0, 0)) (by (with_reducible repeat (first | refine blk_drewN ?_ _ | refine blk_drew ?_ | refine blk_alloc ?_ _)); exact BK206.out) hb); have n1_ := Aside0.mk (below_step (by repeat (first | (with_reducible first | exact HB.out | apply below_alloc | apply pw_below_drewN | apply below_drew1 | refine below_set ?_ GE206.out) | exact HB.out)) hb); clear BK206; clear HB; have BK206 := n0_; have HB := n1_; clear n0_ n1_; (try clear hb); (try clear hb2); (try clear hk); (try clear hi)))
    repeat (go_quiet (first | ((with_reducible refine gate_dst (N := 1) rfl ?_); refine box_event ?hg (N := 1) ?hd (cs := #[.slice A0_0 l0_0.length c0_0, .slice A0_1 l0_1.length c0_1, .string a0_2, .int .i64 a0_3]) (t := 39) ?hr ?_; (case hd => rfl); (case hg => rfl); (case hr => first | (go_simp; done) | (go_simp; rfl)); intro gb206 hg w4 hbox hb; have n0_ := Aside0.mk (below_step (by repeat (first | (with_reducible first | exact HB.out | apply below_alloc | apply pw_below_drewN | apply below_drew1) | exact HB.out)) hb); have n1_ := Aside0.mk (hbox); have n2_ := Aside0.mk ((by rw [hg]; exact (below_size (by repeat (first | (with_reducible first | exact HB.out | apply below_alloc | apply pw_below_drewN | apply below_drew1) | exact HB.out))) : w.heap.size ≤ gb206)); have n3_ := Aside0.mk ((by rw [hg]; exact (below_size (by repeat (first | (with_reducible first | exact HB.out | apply below_alloc | apply pw_below_drewN | apply below_drew1) | exact HB.out))) : w.heap.size ≤ gb206)); clear HB; have HB := n0_; have BK206 := n1_; have GW206 := n2_; have GE206 := n3_; clear n0_ n1_ n2_ n3_; clear hb hbox hg; have hcz5_0 : w4.cell? ⟨gb206, 0, none⟩ = some (.slice A0_0 l0_0.length c0_0) := (blk_cell BK206.out 0).trans rfl; have hcz5_1 : w4.cell? ⟨gb206, 1, none⟩ = some (.slice A0_1 l0_1.length c0_1) := (blk_cell BK206.out 1).trans rfl; have hcz5_2 : w4.cell? ⟨gb206, 2, none⟩ = some (.string a0_2) := (blk_cell BK206.out 2).trans rfl; have hcz5_3 : w4.cell? ⟨gb206, 3, none⟩ = some (.int .i64 a0_3) := (blk_cell BK206.out 3).trans rfl; have hfz5_0 := blk_frozen BK206.out 0; have hfz5_1 := blk_frozen BK206.out 1; have hfz5_2 := blk_frozen BK206.out 2; have hfz5_3 := blk_frozen BK206.out 3) | (go_at_call 10; (with_reducible refine (interchangelaw03_shown.calls t207 _ ?lg A2.out).mono ?_); (case lg => exact (HG.out.below (by repeat (first | (with_reducible first | exact HB.out | apply below_alloc | apply pw_below_drewN | apply below_drew1 | refine below_set ?_ GE206.out) | exact HB.out)))); rintro e w6 ⟨rfl, hb⟩; have n0_ := Aside0.mk (blk_below (g := gb206) (o := .cells #[.slice A0_0 l0_0.length c0_0, .slice A0_1 l0_1.length c0_1, .string a0_2, .int .i64 a0_3] 39 (0, 0)) (by (with_reducible repeat (first | refine blk_drewN ?_ _ | refine blk_drew ?_ | refine blk_alloc ?_ _)); exact BK206.out) hb); have n1_ := Aside0.mk (below_step (by repeat (first | (with_reducible first | exact HB.out | apply below_alloc | apply pw_below_drewN | apply below_drew1 | refine below_set ?_ GE206.out) | exact HB.out)) hb); clear BK206; clear HB; have BK206 := n0_; have HB := n1_; clear n0_ n1_; (try clear hb); (try clear hb2); (try clear hk); (try clear hi))); try go_wp2_with (first | ((with_reducible refine gate_dst (N := 1) rfl ?_); refine box_event ?hg (N := 1) ?hd (cs := #[.slice A0_0 l0_0.length c0_0, .slice A0_1 l0_1.length c0_1, .string a0_2, .int .i64 a0_3]) (t := 39) ?hr ?_; (case hd => rfl); (case hg => rfl); (case hr => first | (go_simp; done) | (go_simp; rfl)); intro gb206 hg w4 hbox hb; have n0_ := Aside0.mk (below_step (by repeat (first | (with_reducible first | exact HB.out | apply below_alloc | apply pw_below_drewN | apply below_drew1) | exact HB.out)) hb); have n1_ := Aside0.mk (hbox); have n2_ := Aside0.mk ((by rw [hg]; exact (below_size (by repeat (first | (with_reducible first | exact HB.out | apply below_alloc | apply pw_below_drewN | apply below_drew1) | exact HB.out))) : w.heap.size ≤ gb206)); have n3_ := Aside0.mk ((by rw [hg]; exact (below_size (by repeat (first | (with_reducible first | exact HB.out | apply below_alloc | apply pw_below_drewN | apply below_drew1) | exact HB.out))) : w.heap.size ≤ gb206)); clear HB; have HB := n0_; have BK206 := n1_; have GW206 := n2_; have GE206 := n3_; clear n0_ n1_ n2_ n3_; clear hb hbox hg; have hcz5_0 : w4.cell? ⟨gb206, 0, none⟩ = some (.slice A0_0 l0_0.length c0_0) := (blk_cell BK206.out 0).trans rfl; have hcz5_1 : w4.cell? ⟨gb206, 1, none⟩ = some (.slice A0_1 l0_1.length c0_1) := (blk_cell BK206.out 1).trans rfl; have hcz5_2 : w4.cell? ⟨gb206, 2, none⟩ = some (.string a0_2) := (blk_cell BK206.out 2).trans rfl; have hcz5_3 : w4.cell? ⟨gb206, 3, none⟩ = some (.int .i64 a0_3) := (blk_cell BK206.out 3).trans rfl; have hfz5_0 := blk_frozen BK206.out 0; have hfz5_1 := blk_frozen BK206.out 1; have hfz5_2 := blk_frozen BK206.out 2; have hfz5_3 := blk_frozen BK206.out 3) | (go_at_call 10; (with_reducible refine (interchangelaw03_shown.calls t207 _ ?lg A2.out).mono ?_); (case lg => exact (HG.out.below (by repeat (first | (with_reducible first | exact HB.out | apply below_alloc | apply pw_below_drewN | apply below_drew1 | refine below_set ?_ GE206.out) | exact HB.out)))); rintro e w6 ⟨rfl, hb⟩; have n0_ := Aside0.mk (blk_below (g := gb206) (o := .cells #[.slice A0_0 l0_0.length c0_0, .slice A0_1 l0_1.length c0_1, .string a0_2, .int .i64 a0_3] 39 (0, 0)) (by (with_reducible repeat (first | refine blk_drewN ?_ _ | refine blk_drew ?_ | refine blk_alloc ?_ _)); exact BK206.out) hb); have n1_ := Aside0.mk (below_step (by repeat (first | (with_reducible first | exact HB.out | apply below_alloc | apply pw_below_drewN | apply below_drew1 | refine below_set ?_ GE206.out) | exact HB.out)) hb); clear BK206; clear HB; have BK206 := n0_; have HB := n1_; clear n0_ n1_; (try clear hb); (try clear hb2); (try clear hk); (try clear hi))))
    go_ret
    exact ⟨by have HR0_ := HR_.out; first | exact congrArg (fun b_ => Ending.returned (Value.bool b_)) HR0_ | (simpa using HR0_) | rfl | (simp [errW_none, errW_some] <;> rfl) | (simp [*, errW_none, errW_some] <;> rfl), by repeat (first | (with_reducible first | exact HB.out | apply below_alloc | apply pw_below_drewN | apply below_drew1 | refine below_set ?_ GE206.out) | exact HB.out)⟩
  · rw [if_neg c3] at H
    have c3b0 : decide (60 < (l0_0.length : Int)) = false := decide_eq_false c3
    have c3b1 : decide (60 < l0_0.length) = false := decide_eq_false (by omega)
    clear c3
    replace H := Option.bind_eq_some_iff.mp H
    obtain ⟨⟨t208, t209⟩, A70, H⟩ := H
    replace H : (if t209 = 0 then (if t208.size + a0_2.size ≤ 9223372036854775807 then ((table_Take.f (t208 ++ a0_2)).bind fun bt210 => ((table_Keys.f t208).bind fun bt213 => ((interchangeref02_Strings.f k bt213.1 l0_0).bind fun t217 => (if bt210.2.2 = 0 then (if bt210.1.toList = t208.toList then (if bt210.2.1.toList = a0_2.toList then (if bt213.2 = 0 then (interchangelaw03_TableBack.j0 k l0_0 l0_1 a0_3 t207 t208 (!t217)) else (interchangelaw03_TableBack.j0 k l0_0 l0_1 a0_3 t207 t208 true)) else (interchangelaw03_TableBack.j0 k l0_0 l0_1 a0_3 t207 t208 true)) else (interchangelaw03_TableBack.j0 k l0_0 l0_1 a0_3 t207 t208 true)) else (interchangelaw03_TableBack.j0 k l0_0 l0_1 a0_3 t207 t208 true))))) else (none)) else (if t207 = true then (some (t208.toList == ([] : List UInt8))) else (some false))) = some true := H
    have A7 := Aside0.mk A70
    clear A70
    by_cases c8 : t209 = 0
    · rw [if_pos c8] at H
      have c8b0 : (t209 == 0) = true := beq_iff_eq.mpr c8
      have c8b1 : (t209 != 0) = false := bne_eq_false_iff_eq.mpr c8
      clear c8
      by_cases c9 : t208.size + a0_2.size ≤ 9223372036854775807
      · rw [if_pos c9] at H
        have c9b0 := eq_true c9
        have c9b1 : decide (t208.size + a0_2.size ≤ 9223372036854775807) = true := decide_eq_true c9
        try have c9b2 : (9223372036854775807 < t208.size + a0_2.size) = False := eq_false (Nat.not_lt.2 c9)
        replace H := Option.bind_eq_some_iff.mp H
        obtain ⟨⟨t210, t211, t212⟩, A100, H⟩ := H
        replace H : ((table_Keys.f t208).bind fun bt213 => ((interchangeref02_Strings.f k bt213.1 l0_0).bind fun t217 => (if t212 = 0 then (if t210.toList = t208.toList then (if t211.toList = a0_2.toList then (if bt213.2 = 0 then (interchangelaw03_TableBack.j0 k l0_0 l0_1 a0_3 t207 t208 (!t217)) else (interchangelaw03_TableBack.j0 k l0_0 l0_1 a0_3 t207 t208 true)) else (interchangelaw03_TableBack.j0 k l0_0 l0_1 a0_3 t207 t208 true)) else (interchangelaw03_TableBack.j0 k l0_0 l0_1 a0_3 t207 t208 true)) else (interchangelaw03_TableBack.j0 k l0_0 l0_1 a0_3 t207 t208 true)))) = some true := H
        have A10 := Aside0.mk A100
        clear A100
        replace H := Option.bind_eq_some_iff.mp H
        obtain ⟨⟨t213, t214⟩, A110, H⟩ := H
        replace H : ((interchangeref02_Strings.f k t213 l0_0).bind fun t217 => (if t212 = 0 then (if t210.toList = t208.toList then (if t211.toList = a0_2.toList then (if t214 = 0 then (interchangelaw03_TableBack.j0 k l0_0 l0_1 a0_3 t207 t208 (!t217)) else (interchangelaw03_TableBack.j0 k l0_0 l0_1 a0_3 t207 t208 true)) else (interchangelaw03_TableBack.j0 k l0_0 l0_1 a0_3 t207 t208 true)) else (interchangelaw03_TableBack.j0 k l0_0 l0_1 a0_3 t207 t208 true)) else (interchangelaw03_TableBack.j0 k l0_0 l0_1 a0_3 t207 t208 true))) = some true := H
        have A11 := Aside0.mk A110
        clear A110
        replace H := Option.bind_eq_some_iff.mp H
        obtain ⟨t217, A120, H⟩ := H
        replace H : (if t212 = 0 then (if t210.toList = t208.toList then (if t211.toList = a0_2.toList then (if t214 = 0 then (interchangelaw03_TableBack.j0 k l0_0 l0_1 a0_3 t207 t208 (!t217)) else (interchangelaw03_TableBack.j0 k l0_0 l0_1 a0_3 t207 t208 true)) else (interchangelaw03_TableBack.j0 k l0_0 l0_1 a0_3 t207 t208 true)) else (interchangelaw03_TableBack.j0 k l0_0 l0_1 a0_3 t207 t208 true)) else (interchangelaw03_TableBack.j0 k l0_0 l0_1 a0_3 t207 t208 true)) = some true := H
        have A12 := Aside0.mk A120
        clear A120
        have HC13 := Aside0.mk H
        clear H
        go_enter Tryd.func7, Tryd.ntmps7
        go_upto_region 14 with (first | ((with_reducible refine gate_dst (N := 1) rfl ?_); refine box_event ?hg (N := 1) ?hd (cs := #[.slice A0_0 l0_0.length c0_0, .slice A0_1 l0_1.length c0_1, .string a0_2, .int .i64 a0_3]) (t := 39) ?hr ?_; (case hd => rfl); (case hg => rfl); (case hr => first | (go_simp; done) | (go_simp; rfl)); intro gb206 hg w14 hbox hb; have n0_ := Aside0.mk (below_step (by repeat (first | (with_reducible first | exact HB.out | apply below_alloc | apply pw_below_drewN | apply below_drew1) | exact HB.out)) hb); have n1_ := Aside0.mk (hbox); have n2_ := Aside0.mk ((by rw [hg]; exact (below_size (by repeat (first | (with_reducible first | exact HB.out | apply below_alloc | apply pw_below_drewN | apply below_drew1) | exact HB.out))) : w.heap.size ≤ gb206)); have n3_ := Aside0.mk ((by rw [hg]; exact (below_size (by repeat (first | (with_reducible first | exact HB.out | apply below_alloc | apply pw_below_drewN | apply below_drew1) | exact HB.out))) : w.heap.size ≤ gb206)); clear HB; have HB := n0_; have BK206 := n1_; have GW206 := n2_; have GE206 := n3_; clear n0_ n1_ n2_ n3_; clear hb hbox hg; have hcz15_0 : w14.cell? ⟨gb206, 0, none⟩ = some (.slice A0_0 l0_0.length c0_0) := (blk_cell BK206.out 0).trans rfl; have hcz15_1 : w14.cell? ⟨gb206, 1, none⟩ = some (.slice A0_1 l0_1.length c0_1) := (blk_cell BK206.out 1).trans rfl; have hcz15_2 : w14.cell? ⟨gb206, 2, none⟩ = some (.string a0_2) := (blk_cell BK206.out 2).trans rfl; have hcz15_3 : w14.cell? ⟨gb206, 3, none⟩ = some (.int .i64 a0_3) := (blk_cell BK206.out 3).trans rfl; have hfz15_0 := blk_frozen BK206.out 0; have hfz15_1 := blk_frozen BK206.out 1; have hfz15_2 := blk_frozen BK206.out 2; have hfz15_3 := blk_frozen BK206.out 3) | (go_at_call 10; (with_reducible refine (interchangelaw03_shown.calls t207 _ ?lg A2.out).mono ?_); (case lg => exact (HG.out.below (by repeat (first | (with_reducible first | exact HB.out | apply below_alloc | apply pw_below_drewN | apply below_drew1 | refine below_set ?_ GE206.out) | exact HB.out)))); rintro e w16 ⟨rfl, hb⟩; have n0_ := Aside0.mk (blk_below (g := gb206) (o := .cells #[.slice A0_0 l0_0.length c0_0, .slice A0_1 l0_1.length c0_1, .string a0_2, .int .i64 a0_3] 39 (0, 0)) (by (with_reducible repeat (first | refine blk_drewN ?_ _ | refine blk_drew ?_ | refine blk_alloc ?_ _)); exact BK206.out) hb); have n1_ := Aside0.mk (below_step (by repeat (first | (with_reducible first | exact HB.out | apply below_alloc | apply pw_below_drewN | apply below_drew1 | refine below_set ?_ GE206.out) | exact HB.out)) hb); clear BK206; clear HB; have BK206 := n0_; have HB := n1_; clear n0_ n1_; (try clear hb); (try clear hb2); (try clear hk); (try clear hi)) | (go_at_call 12; (with_reducible refine (table_Make.calls _ _ l0_0 _ _ l0_1 t208 t209 _ ?lg ?side1 ?side2 ?side3 ?side4 A7.out).mono ?_); (case lg => exact (HG.out.below (by repeat (first | (with_reducible first | exact HB.out | apply below_alloc | apply pw_below_drewN | apply below_drew1 | refine below_set ?_ GE206.out) | exact HB.out)))); (case side1 => repeat (first | exact (Kd.C_below HR0_0.out HB.out) | (with_reducible refine Kd.C_alloc ?_ _) | (with_reducible refine Kd.C_drewN ?_ _) | (with_reducible refine Kd.C_drew ?_))); (case side2 => exact HC0_0.out); (case side3 => repeat (first | exact (Kd.C_below HR0_1.out HB.out) | (with_reducible refine Kd.C_alloc ?_ _) | (with_reducible refine Kd.C_drewN ?_ _) | (with_reducible refine Kd.C_drew ?_))); (case side4 => exact HC0_1.out); rintro e w17 ⟨rfl, hb⟩; have n0_ := Aside0.mk (blk_below (g := gb206) (o := .cells #[.slice A0_0 l0_0.length c0_0, .slice A0_1 l0_1.length c0_1, .string a0_2, .int .i64 a0_3] 39 (0, 0)) (by (with_reducible repeat (first | refine blk_drewN ?_ _ | refine blk_drew ?_ | refine blk_alloc ?_ _)); exact BK206.out) hb); have n1_ := Aside0.mk (below_step (by repeat (first | (with_reducible first | exact HB.out | apply below_alloc | apply pw_below_drewN | apply below_drew1 | refine below_set ?_ GE206.out) | exact HB.out)) hb); clear BK206; clear HB; have BK206 := n0_; have HB := n1_; clear n0_ n1_; (try clear hb); (try clear hb2); (try clear hk); (try clear hi)) | (go_at_call 11; (with_reducible refine (table_Take.calls (t208 ++ a0_2) t210 t211 t212 _ ?lg A10.out).mono ?_); (case lg => exact (HG.out.below (by repeat (first | (with_reducible first | exact HB.out | apply below_alloc | apply pw_below_drewN | apply below_drew1 | refine below_set ?_ GE206.out) | exact HB.out)))); rintro e w18 ⟨rfl, hb⟩; have n0_ := Aside0.mk (blk_below (g := gb206) (o := .cells #[.slice A0_0 l0_0.length c0_0, .slice A0_1 l0_1.length c0_1, .string a0_2, .int .i64 a0_3] 39 (0, 0)) (by (with_reducible repeat (first | refine blk_drewN ?_ _ | refine blk_drew ?_ | refine blk_alloc ?_ _)); exact BK206.out) hb); have n1_ := Aside0.mk (below_step (by repeat (first | (with_reducible first | exact HB.out | apply below_alloc | apply pw_below_drewN | apply below_drew1 | refine below_set ?_ GE206.out) | exact HB.out)) hb); clear BK206; clear HB; have BK206 := n0_; have HB := n1_; clear n0_ n1_; (try clear hb); (try clear hb2); (try clear hk); (try clear hi)) | (go_at_call 17; (with_reducible refine (table_Keys.calls t208 t213 t214 _ ?lg A11.out).mono ?_); (case lg => exact (HG.out.below (by repeat (first | (with_reducible first | exact HB.out | apply below_alloc | apply pw_below_drewN | apply below_drew1 | refine below_set ?_ GE206.out) | exact HB.out)))); rintro e w19 ⟨v215, rfl, ho0, hb⟩; have n0_ := Aside0.mk (Kd.R_lower ho0 (below_size (by repeat (first | (with_reducible first | exact HB.out | apply below_alloc | apply pw_below_drewN | apply below_drew1 | refine below_set ?_ GE206.out) | exact HB.out)))); have n1_ := Aside0.mk (blk_below (g := gb206) (o := .cells #[.slice A0_0 l0_0.length c0_0, .slice A0_1 l0_1.length c0_1, .string a0_2, .int .i64 a0_3] 39 (0, 0)) (by (with_reducible repeat (first | refine blk_drewN ?_ _ | refine blk_drew ?_ | refine blk_alloc ?_ _)); exact BK206.out) hb); have n2_ := Aside0.mk (below_step (by repeat (first | (with_reducible first | exact HB.out | apply below_alloc | apply pw_below_drewN | apply below_drew1 | refine below_set ?_ GE206.out) | exact HB.out)) hb); clear BK206; clear HB; have HO216 := n0_; have BK206 := n1_; have HB := n2_; clear n0_ n1_ n2_; (try clear hb); (try clear hb2); (try clear hk); (try clear hi); (try clear ho0); obtain ⟨Ao20, co20, eo20⟩ := Kd.R_slice HO216.out; subst eo20) | (go_at_call 18; (with_reducible refine (interchangeref02_Strings.calls k _ _ t213 _ _ l0_0 t217 _ ?side1 ?side2 ?side3 ?side4 A12.out).mono ?_); (case side1 => repeat (first | exact (Kd.R_reads' HO216.out).2.2 | (with_reducible refine Kd.C_alloc ?_ _) | (with_reducible refine Kd.C_drewN ?_ _) | (with_reducible refine Kd.C_drew ?_))); (case side2 => exact (Kd.R_reads' HO216.out).2.1); (case side3 => repeat (first | exact (Kd.C_below HR0_0.out HB.out) | (with_reducible refine Kd.C_alloc ?_ _) | (with_reducible refine Kd.C_drewN ?_ _) | (with_reducible refine Kd.C_drew ?_))); (case side4 => exact HC0_0.out); rintro e w' ⟨rfl, ⟨nd, rfl⟩⟩; (try first | exact ⟨rfl, _, World.drewN_drewN _ _ _⟩ | exact ⟨rfl, _, Eq.trans (World.drewN_drewN _ _ _) (congrArg (World.drewN _) (Nat.add_assoc _ _ _))⟩)))
        repeat (go_quiet (first | ((with_reducible refine gate_dst (N := 1) rfl ?_); refine box_event ?hg (N := 1) ?hd (cs := #[.slice A0_0 l0_0.length c0_0, .slice A0_1 l0_1.length c0_1, .string a0_2, .int .i64 a0_3]) (t := 39) ?hr ?_; (case hd => rfl); (case hg => rfl); (case hr => first | (go_simp; done) | (go_simp; rfl)); intro gb206 hg w14 hbox hb; have n0_ := Aside0.mk (below_step (by repeat (first | (with_reducible first | exact HB.out | apply below_alloc | apply pw_below_drewN | apply below_drew1) | exact HB.out)) hb); have n1_ := Aside0.mk (hbox); have n2_ := Aside0.mk ((by rw [hg]; exact (below_size (by repeat (first | (with_reducible first | exact HB.out | apply below_alloc | apply pw_below_drewN | apply below_drew1) | exact HB.out))) : w.heap.size ≤ gb206)); have n3_ := Aside0.mk ((by rw [hg]; exact (below_size (by repeat (first | (with_reducible first | exact HB.out | apply below_alloc | apply pw_below_drewN | apply below_drew1) | exact HB.out))) : w.heap.size ≤ gb206)); clear HB; have HB := n0_; have BK206 := n1_; have GW206 := n2_; have GE206 := n3_; clear n0_ n1_ n2_ n3_; clear hb hbox hg; have hcz15_0 : w14.cell? ⟨gb206, 0, none⟩ = some (.slice A0_0 l0_0.length c0_0) := (blk_cell BK206.out 0).trans rfl; have hcz15_1 : w14.cell? ⟨gb206, 1, none⟩ = some (.slice A0_1 l0_1.length c0_1) := (blk_cell BK206.out 1).trans rfl; have hcz15_2 : w14.cell? ⟨gb206, 2, none⟩ = some (.string a0_2) := (blk_cell BK206.out 2).trans rfl; have hcz15_3 : w14.cell? ⟨gb206, 3, none⟩ = some (.int .i64 a0_3) := (blk_cell BK206.out 3).trans rfl; have hfz15_0 := blk_frozen BK206.out 0; have hfz15_1 := blk_frozen BK206.out 1; have hfz15_2 := blk_frozen BK206.out 2; have hfz15_3 := blk_frozen BK206.out 3) | (go_at_call 10; (with_reducible refine (interchangelaw03_shown.calls t207 _ ?lg A2.out).mono ?_); (case lg => exact (HG.out.below (by repeat (first | (with_reducible first | exact HB.out | apply below_alloc | apply pw_below_drewN | apply below_drew1 | refine below_set ?_ GE206.out) | exact HB.out)))); rintro e w16 ⟨rfl, hb⟩; have n0_ := Aside0.mk (blk_below (g := gb206) (o := .cells #[.slice A0_0 l0_0.length c0_0, .slice A0_1 l0_1.length c0_1, .string a0_2, .int .i64 a0_3] 39 (0, 0)) (by (with_reducible repeat (first | refine blk_drewN ?_ _ | refine blk_drew ?_ | refine blk_alloc ?_ _)); exact BK206.out) hb); have n1_ := Aside0.mk (below_step (by repeat (first | (with_reducible first | exact HB.out | apply below_alloc | apply pw_below_drewN | apply below_drew1 | refine below_set ?_ GE206.out) | exact HB.out)) hb); clear BK206; clear HB; have BK206 := n0_; have HB := n1_; clear n0_ n1_; (try clear hb); (try clear hb2); (try clear hk); (try clear hi)) | (go_at_call 12; (with_reducible refine (table_Make.calls _ _ l0_0 _ _ l0_1 t208 t209 _ ?lg ?side1 ?side2 ?side3 ?side4 A7.out).mono ?_); (case lg => exact (HG.out.below (by repeat (first | (with_reducible first | exact HB.out | apply below_alloc | apply pw_below_drewN | apply below_drew1 | refine below_set ?_ GE206.out) | exact HB.out)))); (case side1 => repeat (first | exact (Kd.C_below HR0_0.out HB.out) | (with_reducible refine Kd.C_alloc ?_ _) | (with_reducible refine Kd.C_drewN ?_ _) | (with_reducible refine Kd.C_drew ?_))); (case side2 => exact HC0_0.out); (case side3 => repeat (first | exact (Kd.C_below HR0_1.out HB.out) | (with_reducible refine Kd.C_alloc ?_ _) | (with_reducible refine Kd.C_drewN ?_ _) | (with_reducible refine Kd.C_drew ?_))); (case side4 => exact HC0_1.out); rintro e w17 ⟨rfl, hb⟩; have n0_ := Aside0.mk (blk_below (g := gb206) (o := .cells #[.slice A0_0 l0_0.length c0_0, .slice A0_1 l0_1.length c0_1, .string a0_2, .int .i64 a0_3] 39 (0, 0)) (by (with_reducible repeat (first | refine blk_drewN ?_ _ | refine blk_drew ?_ | refine blk_alloc ?_ _)); exact BK206.out) hb); have n1_ := Aside0.mk (below_step (by repeat (first | (with_reducible first | exact HB.out | apply below_alloc | apply pw_below_drewN | apply below_drew1 | refine below_set ?_ GE206.out) | exact HB.out)) hb); clear BK206; clear HB; have BK206 := n0_; have HB := n1_; clear n0_ n1_; (try clear hb); (try clear hb2); (try clear hk); (try clear hi)) | (go_at_call 11; (with_reducible refine (table_Take.calls (t208 ++ a0_2) t210 t211 t212 _ ?lg A10.out).mono ?_); (case lg => exact (HG.out.below (by repeat (first | (with_reducible first | exact HB.out | apply below_alloc | apply pw_below_drewN | apply below_drew1 | refine below_set ?_ GE206.out) | exact HB.out)))); rintro e w18 ⟨rfl, hb⟩; have n0_ := Aside0.mk (blk_below (g := gb206) (o := .cells #[.slice A0_0 l0_0.length c0_0, .slice A0_1 l0_1.length c0_1, .string a0_2, .int .i64 a0_3] 39 (0, 0)) (by (with_reducible repeat (first | refine blk_drewN ?_ _ | refine blk_drew ?_ | refine blk_alloc ?_ _)); exact BK206.out) hb); have n1_ := Aside0.mk (below_step (by repeat (first | (with_reducible first | exact HB.out | apply below_alloc | apply pw_below_drewN | apply below_drew1 | refine below_set ?_ GE206.out) | exact HB.out)) hb); clear BK206; clear HB; have BK206 := n0_; have HB := n1_; clear n0_ n1_; (try clear hb); (try clear hb2); (try clear hk); (try clear hi)) | (go_at_call 17; (with_reducible refine (table_Keys.calls t208 t213 t214 _ ?lg A11.out).mono ?_); (case lg => exact (HG.out.below (by repeat (first | (with_reducible first | exact HB.out | apply below_alloc | apply pw_below_drewN | apply below_drew1 | refine below_set ?_ GE206.out) | exact HB.out)))); rintro e w19 ⟨v215, rfl, ho0, hb⟩; have n0_ := Aside0.mk (Kd.R_lower ho0 (below_size (by repeat (first | (with_reducible first | exact HB.out | apply below_alloc | apply pw_below_drewN | apply below_drew1 | refine below_set ?_ GE206.out) | exact HB.out)))); have n1_ := Aside0.mk (blk_below (g := gb206) (o := .cells #[.slice A0_0 l0_0.length c0_0, .slice A0_1 l0_1.length c0_1, .string a0_2, .int .i64 a0_3] 39 (0, 0)) (by (with_reducible repeat (first | refine blk_drewN ?_ _ | refine blk_drew ?_ | refine blk_alloc ?_ _)); exact BK206.out) hb); have n2_ := Aside0.mk (below_step (by repeat (first | (with_reducible first | exact HB.out | apply below_alloc | apply pw_below_drewN | apply below_drew1 | refine below_set ?_ GE206.out) | exact HB.out)) hb); clear BK206; clear HB; have HO216 := n0_; have BK206 := n1_; have HB := n2_; clear n0_ n1_ n2_; (try clear hb); (try clear hb2); (try clear hk); (try clear hi); (try clear ho0); obtain ⟨Ao20, co20, eo20⟩ := Kd.R_slice HO216.out; subst eo20) | (go_at_call 18; (with_reducible refine (interchangeref02_Strings.calls k _ _ t213 _ _ l0_0 t217 _ ?side1 ?side2 ?side3 ?side4 A12.out).mono ?_); (case side1 => repeat (first | exact (Kd.R_reads' HO216.out).2.2 | (with_reducible refine Kd.C_alloc ?_ _) | (with_reducible refine Kd.C_drewN ?_ _) | (with_reducible refine Kd.C_drew ?_))); (case side2 => exact (Kd.R_reads' HO216.out).2.1); (case side3 => repeat (first | exact (Kd.C_below HR0_0.out HB.out) | (with_reducible refine Kd.C_alloc ?_ _) | (with_reducible refine Kd.C_drewN ?_ _) | (with_reducible refine Kd.C_drew ?_))); (case side4 => exact HC0_0.out); rintro e w' ⟨rfl, ⟨nd, rfl⟩⟩; (try first | exact ⟨rfl, _, World.drewN_drewN _ _ _⟩ | exact ⟨rfl, _, Eq.trans (World.drewN_drewN _ _ _) (congrArg (World.drewN _) (Nat.add_assoc _ _ _))⟩))); go_upto_region 14 with (first | ((with_reducible refine gate_dst (N := 1) rfl ?_); refine box_event ?hg (N := 1) ?hd (cs := #[.slice A0_0 l0_0.length c0_0, .slice A0_1 l0_1.length c0_1, .string a0_2, .int .i64 a0_3]) (t := 39) ?hr ?_; (case hd => rfl); (case hg => rfl); (case hr => first | (go_simp; done) | (go_simp; rfl)); intro gb206 hg w14 hbox hb; have n0_ := Aside0.mk (below_step (by repeat (first | (with_reducible first | exact HB.out | apply below_alloc | apply pw_below_drewN | apply below_drew1) | exact HB.out)) hb); have n1_ := Aside0.mk (hbox); have n2_ := Aside0.mk ((by rw [hg]; exact (below_size (by repeat (first | (with_reducible first | exact HB.out | apply below_alloc | apply pw_below_drewN | apply below_drew1) | exact HB.out))) : w.heap.size ≤ gb206)); have n3_ := Aside0.mk ((by rw [hg]; exact (below_size (by repeat (first | (with_reducible first | exact HB.out | apply below_alloc | apply pw_below_drewN | apply below_drew1) | exact HB.out))) : w.heap.size ≤ gb206)); clear HB; have HB := n0_; have BK206 := n1_; have GW206 := n2_; have GE206 := n3_; clear n0_ n1_ n2_ n3_; clear hb hbox hg; have hcz15_0 : w14.cell? ⟨gb206, 0, none⟩ = some (.slice A0_0 l0_0.length c0_0) := (blk_cell BK206.out 0).trans rfl; have hcz15_1 : w14.cell? ⟨gb206, 1, none⟩ = some (.slice A0_1 l0_1.length c0_1) := (blk_cell BK206.out 1).trans rfl; have hcz15_2 : w14.cell? ⟨gb206, 2, none⟩ = some (.string a0_2) := (blk_cell BK206.out 2).trans rfl; have hcz15_3 : w14.cell? ⟨gb206, 3, none⟩ = some (.int .i64 a0_3) := (blk_cell BK206.out 3).trans rfl; have hfz15_0 := blk_frozen BK206.out 0; have hfz15_1 := blk_frozen BK206.out 1; have hfz15_2 := blk_frozen BK206.out 2; have hfz15_3 := blk_frozen BK206.out 3) | (go_at_call 10; (with_reducible refine (interchangelaw03_shown.calls t207 _ ?lg A2.out).mono ?_); (case lg => exact (HG.out.below (by repeat (first | (with_reducible first | exact HB.out | apply below_alloc | apply pw_below_drewN | apply below_drew1 | refine below_set ?_ GE206.out) | exact HB.out)))); rintro e w16 ⟨rfl, hb⟩; have n0_ := Aside0.mk (blk_below (g := gb206) (o := .cells #[.slice A0_0 l0_0.length c0_0, .slice A0_1 l0_1.length c0_1, .string a0_2, .int .i64 a0_3] 39 (0, 0)) (by (with_reducible repeat (first | refine blk_drewN ?_ _ | refine blk_drew ?_ | refine blk_alloc ?_ _)); exact BK206.out) hb); have n1_ := Aside0.mk (below_step (by repeat (first | (with_reducible first | exact HB.out | apply below_alloc | apply pw_below_drewN | apply below_drew1 | refine below_set ?_ GE206.out) | exact HB.out)) hb); clear BK206; clear HB; have BK206 := n0_; have HB := n1_; clear n0_ n1_; (try clear hb); (try clear hb2); (try clear hk); (try clear hi)) | (go_at_call 12; (with_reducible refine (table_Make.calls _ _ l0_0 _ _ l0_1 t208 t209 _ ?lg ?side1 ?side2 ?side3 ?side4 A7.out).mono ?_); (case lg => exact (HG.out.below (by repeat (first | (with_reducible first | exact HB.out | apply below_alloc | apply pw_below_drewN | apply below_drew1 | refine below_set ?_ GE206.out) | exact HB.out)))); (case side1 => repeat (first | exact (Kd.C_below HR0_0.out HB.out) | (with_reducible refine Kd.C_alloc ?_ _) | (with_reducible refine Kd.C_drewN ?_ _) | (with_reducible refine Kd.C_drew ?_))); (case side2 => exact HC0_0.out); (case side3 => repeat (first | exact (Kd.C_below HR0_1.out HB.out) | (with_reducible refine Kd.C_alloc ?_ _) | (with_reducible refine Kd.C_drewN ?_ _) | (with_reducible refine Kd.C_drew ?_))); (case side4 => exact HC0_1.out); rintro e w17 ⟨rfl, hb⟩; have n0_ := Aside0.mk (blk_below (g := gb206) (o := .cells #[.slice A0_0 l0_0.length c0_0, .slice A0_1 l0_1.length c0_1, .string a0_2, .int .i64 a0_3] 39 (0, 0)) (by (with_reducible repeat (first | refine blk_drewN ?_ _ | refine blk_drew ?_ | refine blk_alloc ?_ _)); exact BK206.out) hb); have n1_ := Aside0.mk (below_step (by repeat (first | (with_reducible first | exact HB.out | apply below_alloc | apply pw_below_drewN | apply below_drew1 | refine below_set ?_ GE206.out) | exact HB.out)) hb); clear BK206; clear HB; have BK206 := n0_; have HB := n1_; clear n0_ n1_; (try clear hb); (try clear hb2); (try clear hk); (try clear hi)) | (go_at_call 11; (with_reducible refine (table_Take.calls (t208 ++ a0_2) t210 t211 t212 _ ?lg A10.out).mono ?_); (case lg => exact (HG.out.below (by repeat (first | (with_reducible first | exact HB.out | apply below_alloc | apply pw_below_drewN | apply below_drew1 | refine below_set ?_ GE206.out) | exact HB.out)))); rintro e w18 ⟨rfl, hb⟩; have n0_ := Aside0.mk (blk_below (g := gb206) (o := .cells #[.slice A0_0 l0_0.length c0_0, .slice A0_1 l0_1.length c0_1, .string a0_2, .int .i64 a0_3] 39 (0, 0)) (by (with_reducible repeat (first | refine blk_drewN ?_ _ | refine blk_drew ?_ | refine blk_alloc ?_ _)); exact BK206.out) hb); have n1_ := Aside0.mk (below_step (by repeat (first | (with_reducible first | exact HB.out | apply below_alloc | apply pw_below_drewN | apply below_drew1 | refine below_set ?_ GE206.out) | exact HB.out)) hb); clear BK206; clear HB; have BK206 := n0_; have HB := n1_; clear n0_ n1_; (try clear hb); (try clear hb2); (try clear hk); (try clear hi)) | (go_at_call 17; (with_reducible refine (table_Keys.calls t208 t213 t214 _ ?lg A11.out).mono ?_); (case lg => exact (HG.out.below (by repeat (first | (with_reducible first | exact HB.out | apply below_alloc | apply pw_below_drewN | apply below_drew1 | refine below_set ?_ GE206.out) | exact HB.out)))); rintro e w19 ⟨v215, rfl, ho0, hb⟩; have n0_ := Aside0.mk (Kd.R_lower ho0 (below_size (by repeat (first | (with_reducible first | exact HB.out | apply below_alloc | apply pw_below_drewN | apply below_drew1 | refine below_set ?_ GE206.out) | exact HB.out)))); have n1_ := Aside0.mk (blk_below (g := gb206) (o := .cells #[.slice A0_0 l0_0.length c0_0, .slice A0_1 l0_1.length c0_1, .string a0_2, .int .i64 a0_3] 39 (0, 0)) (by (with_reducible repeat (first | refine blk_drewN ?_ _ | refine blk_drew ?_ | refine blk_alloc ?_ _)); exact BK206.out) hb); have n2_ := Aside0.mk (below_step (by repeat (first | (with_reducible first | exact HB.out | apply below_alloc | apply pw_below_drewN | apply below_drew1 | refine below_set ?_ GE206.out) | exact HB.out)) hb); clear BK206; clear HB; have HO216 := n0_; have BK206 := n1_; have HB := n2_; clear n0_ n1_ n2_; (try clear hb); (try clear hb2); (try clear hk); (try clear hi); (try clear ho0); obtain ⟨Ao20, co20, eo20⟩ := Kd.R_slice HO216.out; subst eo20) | (go_at_call 18; (with_reducible refine (interchangeref02_Strings.calls k _ _ t213 _ _ l0_0 t217 _ ?side1 ?side2 ?side3 ?side4 A12.out).mono ?_); (case side1 => repeat (first | exact (Kd.R_reads' HO216.out).2.2 | (with_reducible refine Kd.C_alloc ?_ _) | (with_reducible refine Kd.C_drewN ?_ _) | (with_reducible refine Kd.C_drew ?_))); (case side2 => exact (Kd.R_reads' HO216.out).2.1); (case side3 => repeat (first | exact (Kd.C_below HR0_0.out HB.out) | (with_reducible refine Kd.C_alloc ?_ _) | (with_reducible refine Kd.C_drewN ?_ _) | (with_reducible refine Kd.C_drew ?_))); (case side4 => exact HC0_0.out); rintro e w' ⟨rfl, ⟨nd, rfl⟩⟩; (try first | exact ⟨rfl, _, World.drewN_drewN _ _ _⟩ | exact ⟨rfl, _, Eq.trans (World.drewN_drewN _ _ _) (congrArg (World.drewN _) (Nat.add_assoc _ _ _))⟩))))
        (try simp only [Act.put, List.setIfInBounds_toArray, List.set_cons_zero, List.set_cons_succ])
        go_cut [80] (fun v80 wc => ∃ (kq : Nat) (x80_12 : Bool), v80 = .bool x80_12 ∧ Aside0 (interchangelaw03_TableBack.j0 kq l0_0 l0_1 a0_3 t207 t208 x80_12 = some true) ∧ Aside0 (kq ≤ k) ∧ Aside0 (wc.heap[gb206]? = some (.cells #[(.slice A0_0 l0_0.length c0_0), (.slice A0_1 l0_1.length c0_1), .string a0_2, .int .i64 a0_3] 39 (0, 0))) ∧ Aside0 (Below w.heap.size w wc))
        case first =>
          have H := HC13.out
          clear HC13
          by_cases c21 : t212 = 0
          · rw [if_pos c21] at H
            have c21b0 : (t212 == 0) = true := beq_iff_eq.mpr c21
            have c21b1 : (t212 != 0) = false := bne_eq_false_iff_eq.mpr c21
            clear c21
            (first | rw [c21b0] | (simp only [i64_w, i32_w]; rw [c21b0]) | skip)
            by_cases c22 : t210.toList = t208.toList
            · rw [if_pos c22] at H
              have c22b0 : (t210.toList == t208.toList) = true := beq_iff_eq.mpr c22
              have c22b1 : (t210.toList != t208.toList) = false := bne_eq_false_iff_eq.mpr c22
              clear c22
              by_cases c23 : t211.toList = a0_2.toList
              · rw [if_pos c23] at H
                have c23b0 : (t211.toList == a0_2.toList) = true := beq_iff_eq.mpr c23
                have c23b1 : (t211.toList != a0_2.toList) = false := bne_eq_false_iff_eq.mpr c23
                clear c23
                by_cases c24 : t214 = 0
                · rw [if_pos c24] at H
                  have c24b0 : (t214 == 0) = true := beq_iff_eq.mpr c24
                  have c24b1 : (t214 != 0) = false := bne_eq_false_iff_eq.mpr c24
                  clear c24
                  have H' := Aside0.mk H
                  clear H
                  go_wp2
                  repeat (go_quiet (fail); try go_wp2)
                  go_meet
                  case rel => exact ⟨_, (!t217), (by first | rfl | (simp; done) | (simp [*]; done)), H', ⟨by first | omega | exact Nat.le_refl _⟩, ⟨by (with_reducible repeat (first | refine blk_drewN ?_ _ | refine blk_drew ?_ | refine blk_alloc ?_ _)); exact BK206.out⟩, ⟨by repeat (first | (with_reducible first | exact HB.out | apply below_alloc | apply pw_below_drewN | apply below_drew1 | refine below_set ?_ GE206.out) | exact HB.out)⟩⟩
                · rw [if_neg c24] at H
                  have c24b0 : (t214 == 0) = false := beq_eq_false_iff_ne.mpr c24
                  have c24b1 : (t214 != 0) = true := bne_iff_ne.mpr c24
                  have H' := Aside0.mk H
                  clear H
                  go_wp2
                  repeat (go_quiet (fail); try go_wp2)
                  go_meet
                  case rel => exact ⟨_, (true), (by first | rfl | (simp; done) | (simp [*]; done)), H', ⟨by first | omega | exact Nat.le_refl _⟩, ⟨by (with_reducible repeat (first | refine blk_drewN ?_ _ | refine blk_drew ?_ | refine blk_alloc ?_ _)); exact BK206.out⟩, ⟨by repeat (first | (with_reducible first | exact HB.out | apply below_alloc | apply pw_below_drewN | apply below_drew1 | refine below_set ?_ GE206.out) | exact HB.out)⟩⟩
              · rw [if_neg c23] at H
                have c23b0 : (t211.toList == a0_2.toList) = false := beq_eq_false_iff_ne.mpr c23
                have c23b1 : (t211.toList != a0_2.toList) = true := bne_iff_ne.mpr c23
                have H' := Aside0.mk H
                clear H
                go_wp2
                repeat (go_quiet (fail); try go_wp2)
                go_meet
                case rel => exact ⟨_, (true), (by first | rfl | (simp; done) | (simp [*]; done)), H', ⟨by first | omega | exact Nat.le_refl _⟩, ⟨by (with_reducible repeat (first | refine blk_drewN ?_ _ | refine blk_drew ?_ | refine blk_alloc ?_ _)); exact BK206.out⟩, ⟨by repeat (first | (with_reducible first | exact HB.out | apply below_alloc | apply pw_below_drewN | apply below_drew1 | refine below_set ?_ GE206.out) | exact HB.out)⟩⟩
            · rw [if_neg c22] at H
              have c22b0 : (t210.toList == t208.toList) = false := beq_eq_false_iff_ne.mpr c22
              have c22b1 : (t210.toList != t208.toList) = true := bne_iff_ne.mpr c22
              have H' := Aside0.mk H
              clear H
              go_wp2
              repeat (go_quiet (fail); try go_wp2)
              go_meet
              case rel => exact ⟨_, (true), (by first | rfl | (simp; done) | (simp [*]; done)), H', ⟨by first | omega | exact Nat.le_refl _⟩, ⟨by (with_reducible repeat (first | refine blk_drewN ?_ _ | refine blk_drew ?_ | refine blk_alloc ?_ _)); exact BK206.out⟩, ⟨by repeat (first | (with_reducible first | exact HB.out | apply below_alloc | apply pw_below_drewN | apply below_drew1 | refine below_set ?_ GE206.out) | exact HB.out)⟩⟩
          · rw [if_neg c21] at H
            have c21b0 : (t212 == 0) = false := beq_eq_false_iff_ne.mpr c21
            have c21b1 : (t212 != 0) = true := bne_iff_ne.mpr c21
            (first | rw [c21b0] | (simp only [i64_w, i32_w]; rw [c21b0]) | skip)
            have H' := Aside0.mk H
            clear H
            go_wp2
            repeat (go_quiet (fail); try go_wp2)
            go_meet
            case rel => exact ⟨_, (true), (by first | rfl | (simp; done) | (simp [*]; done)), H', ⟨by first | omega | exact Nat.le_refl _⟩, ⟨by (with_reducible repeat (first | refine blk_drewN ?_ _ | refine blk_drew ?_ | refine blk_alloc ?_ _)); exact BK206.out⟩, ⟨by repeat (first | (with_reducible first | exact HB.out | apply below_alloc | apply pw_below_drewN | apply below_drew1 | refine below_set ?_ GE206.out) | exact HB.out)⟩⟩
        case rest =>
          clear HC13
          try clear c2
          try clear p2
          try clear c3
          try clear c3b0
          try clear c3b1
          try clear c7
          try clear c8
          try clear c8b0
          try clear c8b1
          try clear c9
          try clear c9b0
          try clear c9b1
          try clear c9b2
          try clear c21
          try clear c21b0
          try clear c21b1
          try clear c22
          try clear c22b0
          try clear c22b1
          try clear c23
          try clear c23b0
          try clear c23b1
          try clear c24
          try clear c24b0
          try clear c24b1
          try clear hcz15_0
          try clear hcz15_1
          try clear hcz15_2
          try clear hcz15_3
          try clear hcz5_0
          try clear hcz5_1
          try clear hcz5_2
          try clear hcz5_3
          try clear hfz15_0
          try clear hfz15_1
          try clear hfz15_2
          try clear hfz15_3
          try clear hfz5_0
          try clear hfz5_1
          try clear hfz5_2
          try clear hfz5_3
          obtain ⟨kq, x80_12, rfl, HA, HJ12, BK206, HB⟩ := hcut
          cases kq with
          | zero => exact absurd HA.out (by simp [interchangelaw03_TableBack.j0])
          | succ kj12 =>
            have H := HA.out
            clear HA
            simp only [interchangelaw03_TableBack.j0] at H
            by_cases c25 : x80_12 = true
            · subst c25
              have H1 : (some false) = some true := by rw [if_pos rfl] at H; first | done | exact H
              clear H
              have H := H1
              clear H1
              exact absurd H (by decide)
            · replace c25 := Bool.eq_false_iff.mpr c25
              subst c25
              have H1 : (if a0_3 < 0 then (interchangelaw03_TableBack.j1 kj12 l0_0 l0_1 a0_3 t207 t208 true) else (if a0_3 ≥ (l0_0.length : Int) then (interchangelaw03_TableBack.j1 kj12 l0_0 l0_1 a0_3 t207 t208 true) else (interchangelaw03_TableBack.j1 kj12 l0_0 l0_1 a0_3 t207 t208 ((l0_1.length : Int) != (l0_0.length : Int))))) = some true := by rw [if_neg (show ¬ (false = true) by decide)] at H; first | done | exact H
              clear H
              have H := H1
              clear H1
              have HC26 := Aside0.mk H
              clear H
              go_upto_region 16 with (fail)
              repeat (go_quiet (fail); go_upto_region 16 with (fail))
              go_cut [95] (fun v95 wc => ∃ (kq : Nat) (x95_25 : Bool), v95 = .bool x95_25 ∧ Aside0 (interchangelaw03_TableBack.j1 kq l0_0 l0_1 a0_3 t207 t208 x95_25 = some true) ∧ Aside0 (kq ≤ kj12) ∧ Aside0 (wc.heap[gb206]? = some (.cells #[(.slice A0_0 l0_0.length c0_0), (.slice A0_1 l0_1.length c0_1), .string a0_2, .int .i64 a0_3] 39 (0, 0))) ∧ Aside0 (Below w.heap.size w wc))
              case first =>
                have H := HC26.out
                clear HC26
                by_cases c27 : a0_3 < 0
                · rw [if_pos c27] at H
                  have c27b0 : decide (a0_3 < 0) = true := decide_eq_true c27
                  clear c27
                  (first | rw [c27b0] | (simp only [i64_w, i32_w]; rw [c27b0]) | skip)
                  have H' := Aside0.mk H
                  clear H
                  go_wp2
                  repeat (go_quiet (fail); try go_wp2)
                  go_meet
                  case rel => exact ⟨_, (true), (by first | rfl | (simp; done) | (simp [*]; done)), H', ⟨by have := HJ12.out; first | omega | exact Nat.le_refl _⟩, ⟨by (with_reducible repeat (first | refine blk_drewN ?_ _ | refine blk_drew ?_ | refine blk_alloc ?_ _)); exact BK206.out⟩, ⟨by repeat (first | (with_reducible first | exact HB.out | apply below_alloc | apply pw_below_drewN | apply below_drew1 | refine below_set ?_ GE206.out) | exact HB.out)⟩⟩
                · rw [if_neg c27] at H
                  have c27b0 : decide (a0_3 < 0) = false := decide_eq_false c27
                  clear c27
                  (first | rw [c27b0] | (simp only [i64_w, i32_w]; rw [c27b0]) | skip)
                  by_cases c28 : a0_3 ≥ (l0_0.length : Int)
                  · rw [if_pos c28] at H
                    have c28b0 : decide ((l0_0.length : Int) ≤ a0_3) = true := decide_eq_true c28
                    clear c28
                    have H' := Aside0.mk H
                    clear H
                    go_wp2
                    repeat (go_quiet (fail); try go_wp2)
                    go_meet
                    case rel => exact ⟨_, (true), (by first | rfl | (simp; done) | (simp [*]; done)), H', ⟨by have := HJ12.out; first | omega | exact Nat.le_refl _⟩, ⟨by (with_reducible repeat (first | refine blk_drewN ?_ _ | refine blk_drew ?_ | refine blk_alloc ?_ _)); exact BK206.out⟩, ⟨by repeat (first | (with_reducible first | exact HB.out | apply below_alloc | apply pw_below_drewN | apply below_drew1 | refine below_set ?_ GE206.out) | exact HB.out)⟩⟩
                  · rw [if_neg c28] at H
                    have c28b0 : decide ((l0_0.length : Int) ≤ a0_3) = false := decide_eq_false c28
                    clear c28
                    have H' := Aside0.mk H
                    clear H
                    go_wp2
                    repeat (go_quiet (fail); try go_wp2)
                    go_meet
                    case rel => exact ⟨_, (((l0_1.length : Int) != (l0_0.length : Int))), (by first | rfl | (simp; done) | (simp [*]; done)), H', ⟨by have := HJ12.out; first | omega | exact Nat.le_refl _⟩, ⟨by (with_reducible repeat (first | refine blk_drewN ?_ _ | refine blk_drew ?_ | refine blk_alloc ?_ _)); exact BK206.out⟩, ⟨by repeat (first | (with_reducible first | exact HB.out | apply below_alloc | apply pw_below_drewN | apply below_drew1 | refine below_set ?_ GE206.out) | exact HB.out)⟩⟩
              case rest =>
                clear HC26
                try clear c2
                try clear p2
                try clear c3
                try clear c3b0
                try clear c3b1
                try clear c7
                try clear c8
                try clear c8b0
                try clear c8b1
                try clear c9
                try clear c9b0
                try clear c9b1
                try clear c9b2
                try clear c21
                try clear c21b0
                try clear c21b1
                try clear c22
                try clear c22b0
                try clear c22b1
                try clear c23
                try clear c23b0
                try clear c23b1
                try clear c24
                try clear c24b0
                try clear c24b1
                try clear c25
                try clear c27
                try clear c27b0
                try clear c28
                try clear c28b0
                try clear hcz15_0
                try clear hcz15_1
                try clear hcz15_2
                try clear hcz15_3
                try clear hcz5_0
                try clear hcz5_1
                try clear hcz5_2
                try clear hcz5_3
                try clear hfz15_0
                try clear hfz15_1
                try clear hfz15_2
                try clear hfz15_3
                try clear hfz5_0
                try clear hfz5_1
                try clear hfz5_2
                try clear hfz5_3
                try clear p2
                obtain ⟨kq, x95_25, rfl, HA, HJ25, BK206, HB⟩ := hcut
                cases kq with
                | zero => exact absurd HA.out (by simp [interchangelaw03_TableBack.j1])
                | succ kj25 =>
                  have H := HA.out
                  clear HA
                  simp only [interchangelaw03_TableBack.j1] at H
                  by_cases c29 : x95_25 = true
                  · subst c29
                    have H1 : (if t207 = true then (some ((l0_1.length : Int) == (l0_0.length : Int))) else (some false)) = some true := by rw [if_pos rfl] at H; first | done | exact H
                    clear H
                    have H := H1
                    clear H1
                    by_cases c30 : t207 = true
                    · subst c30
                      have H1 : (some ((l0_1.length : Int) == (l0_0.length : Int))) = some true := by rw [if_pos rfl] at H; first | done | exact H
                      clear H
                      have H := H1
                      clear H1
                      have HR_ := Aside0.mk (Option.some.inj H)
                      clear H
                      go_wp2
                      repeat (go_quiet (fail); try go_wp2)
                      go_ret
                      exact ⟨by have HR0_ := HR_.out; first | exact congrArg (fun b_ => Ending.returned (Value.bool b_)) HR0_ | (simpa using HR0_) | rfl | (simp [errW_none, errW_some] <;> rfl) | (simp [*, errW_none, errW_some] <;> rfl), by repeat (first | (with_reducible first | exact HB.out | apply below_alloc | apply pw_below_drewN | apply below_drew1 | refine below_set ?_ GE206.out) | exact HB.out)⟩
                    · replace c30 := Bool.eq_false_iff.mpr c30
                      subst c30
                      have H1 : (some false) = some true := by rw [if_neg (show ¬ (false = true) by decide)] at H; first | done | exact H
                      clear H
                      have H := H1
                      clear H1
                      exact absurd H (by decide)
                  · replace c29 := Bool.eq_false_iff.mpr c29
                    subst c29
                    have H1 : (interchangelaw03_TableBack.l0 kj25 l0_0 l0_1 a0_3 t207 t208 0) = some true := by rw [if_neg (show ¬ (false = true) by decide)] at H; first | done | exact H
                    clear H
                    have H := H1
                    clear H1
                    have H' := Aside0.mk H
                    clear H
                    go_wp2
                    repeat (go_quiet (fail); try go_wp2)
                    go_loopg [16] kj25 (fun kq v16 w' => ∃ (x16_3 : Int), v16 = .int .i64 x16_3 ∧ Aside0 (interchangelaw03_TableBack.l0 kq l0_0 l0_1 a0_3 t207 t208 x16_3 = some true) ∧ Aside0 (kq ≤ kj25) ∧ Aside0 (w'.heap[gb206]? = some (.cells #[(.slice A0_0 l0_0.length c0_0), (.slice A0_1 l0_1.length c0_1), .string a0_2, .int .i64 a0_3] 39 (0, 0))) ∧ Aside0 (Below w.heap.size w w'))
                    case atStart => exact ⟨(0), (by first | rfl | (simp; done) | (simp [*]; done)), H', ⟨Nat.le_refl _⟩, ⟨by (with_reducible repeat (first | refine blk_drewN ?_ _ | refine blk_drew ?_ | refine blk_alloc ?_ _)); exact BK206.out⟩, ⟨by repeat (first | (with_reducible first | exact HB.out | apply below_alloc | apply pw_below_drewN | apply below_drew1 | refine below_set ?_ GE206.out) | exact HB.out)⟩⟩
                    case round =>
                      clear H'
                      try clear c2
                      try clear p2
                      try clear c3
                      try clear c3b0
                      try clear c3b1
                      try clear c7
                      try clear c8
                      try clear c8b0
                      try clear c8b1
                      try clear c9
                      try clear c9b0
                      try clear c9b1
                      try clear c9b2
                      try clear c21
                      try clear c21b0
                      try clear c21b1
                      try clear c22
                      try clear c22b0
                      try clear c22b1
                      try clear c23
                      try clear c23b0
                      try clear c23b1
                      try clear c24
                      try clear c24b0
                      try clear c24b1
                      try clear c25
                      try clear c27
                      try clear c27b0
                      try clear c28
                      try clear c28b0
                      try clear c29
                      try clear c30
                      try clear hcz15_0
                      try clear hcz15_1
                      try clear hcz15_2
                      try clear hcz15_3
                      try clear hcz5_0
                      try clear hcz5_1
                      try clear hcz5_2
                      try clear hcz5_3
                      try clear hfz15_0
                      try clear hfz15_1
                      try clear hfz15_2
                      try clear hfz15_3
                      try clear hfz5_0
                      try clear hfz5_1
                      try clear hfz5_2
                      try clear hfz5_3
                      try clear p2
                      obtain ⟨x16_3, rfl, HA, HK3, BK206, HB⟩ := hrel
                      cases gk with
                      | zero => exact absurd HA.out (by simp [interchangelaw03_TableBack.l0])
                      | succ k3 =>
                        have H := HA.out
                        clear HA
                        simp only [interchangelaw03_TableBack.l0] at H
                        by_cases c31 : x16_3 < a0_3
                        · rw [if_pos c31] at H
                          have c31b0 : decide (x16_3 < a0_3) = true := decide_eq_true c31
                          clear c31
                          by_cases c32 : 0 ≤ x16_3
                          · rw [if_pos c32] at H
                            have c32b0 : decide (0 ≤ x16_3) = true := decide_eq_true c32
                            clear c32
                            by_cases c33 : x16_3 < (l0_0.length : Int)
                            · rw [if_pos c33] at H
                              have c33b0 : decide (x16_3 < (l0_0.length : Int)) = true := decide_eq_true c33
                              clear c33
                              by_cases c34 : 0 ≤ a0_3
                              · rw [if_pos c34] at H
                                have c34b0 : decide (0 ≤ a0_3) = true := decide_eq_true c34
                                clear c34
                                by_cases c35 : a0_3 < (l0_0.length : Int)
                                · rw [if_pos c35] at H
                                  have c35b0 : decide (a0_3 < (l0_0.length : Int)) = true := decide_eq_true c35
                                  clear c35
                                  by_cases c36 : (rdOf ByteArray.empty l0_0 x16_3).toList = (rdOf ByteArray.empty l0_0 a0_3).toList
                                  · rw [if_pos c36] at H
                                    have c36b0 : ((rdOf ByteArray.empty l0_0 x16_3).toList == (rdOf ByteArray.empty l0_0 a0_3).toList) = true := beq_iff_eq.mpr c36
                                    have c36b1 : ((rdOf ByteArray.empty l0_0 x16_3).toList != (rdOf ByteArray.empty l0_0 a0_3).toList) = false := bne_eq_false_iff_eq.mpr c36
                                    clear c36
                                    have HR_ := Aside0.mk (Option.some.inj H)
                                    clear H
                                    have p218 : 0 ≤ (x16_3 : Int) := of_decide_eq_true (by first | (with_reducible assumption) | assumption)
                                    have q218 : x16_3 < (l0_0.length : Int) := of_decide_eq_true (by first | (with_reducible assumption) | assumption)
                                    obtain ⟨ad218, e218, hx218_0⟩ := Kd.at_string HR0_0.out x16_3 p218 q218
                                    cases e218
                                    replace hx218_0 := (HB.out.cell (World.block_lt_of_cell? w _ hx218_0)).trans hx218_0
                                    replace p218 := eq_true p218
                                    replace q218 := eq_true q218
                                    have p219 : 0 ≤ (a0_3 : Int) := of_decide_eq_true (by first | (with_reducible assumption) | assumption)
                                    have q219 : a0_3 < (l0_0.length : Int) := of_decide_eq_true (by first | (with_reducible assumption) | assumption)
                                    obtain ⟨ad219, e219, hx219_0⟩ := Kd.at_string HR0_0.out a0_3 p219 q219
                                    obtain rfl : ad218 = ad219 := (by injection e219)
                                    replace hx219_0 := (HB.out.cell (World.block_lt_of_cell? w _ hx219_0)).trans hx219_0
                                    replace p219 := eq_true p219
                                    replace q219 := eq_true q219
                                    go_wp2
                                    repeat (go_quiet (fail); try go_wp2)
                                    go_ret
                                    exact ⟨by have HR0_ := HR_.out; first | exact congrArg (fun b_ => Ending.returned (Value.bool b_)) HR0_ | (simpa using HR0_) | rfl | (simp [errW_none, errW_some] <;> rfl) | (simp [*, errW_none, errW_some] <;> rfl), by repeat (first | (with_reducible first | exact HB.out | apply below_alloc | apply pw_below_drewN | apply below_drew1 | refine below_set ?_ GE206.out) | exact HB.out)⟩
                                  · rw [if_neg c36] at H
                                    have c36b0 : ((rdOf ByteArray.empty l0_0 x16_3).toList == (rdOf ByteArray.empty l0_0 a0_3).toList) = false := beq_eq_false_iff_ne.mpr c36
                                    have c36b1 : ((rdOf ByteArray.empty l0_0 x16_3).toList != (rdOf ByteArray.empty l0_0 a0_3).toList) = true := bne_iff_ne.mpr c36
                                    have H' := Aside0.mk H
                                    clear H
                                    have p218 : 0 ≤ (x16_3 : Int) := of_decide_eq_true (by first | (with_reducible assumption) | assumption)
                                    have q218 : x16_3 < (l0_0.length : Int) := of_decide_eq_true (by first | (with_reducible assumption) | assumption)
                                    obtain ⟨ad218, e218, hx218_0⟩ := Kd.at_string HR0_0.out x16_3 p218 q218
                                    cases e218
                                    replace hx218_0 := (HB.out.cell (World.block_lt_of_cell? w _ hx218_0)).trans hx218_0
                                    replace p218 := eq_true p218
                                    replace q218 := eq_true q218
                                    have p219 : 0 ≤ (a0_3 : Int) := of_decide_eq_true (by first | (with_reducible assumption) | assumption)
                                    have q219 : a0_3 < (l0_0.length : Int) := of_decide_eq_true (by first | (with_reducible assumption) | assumption)
                                    obtain ⟨ad219, e219, hx219_0⟩ := Kd.at_string HR0_0.out a0_3 p219 q219
                                    obtain rfl : ad218 = ad219 := (by injection e219)
                                    replace hx219_0 := (HB.out.cell (World.block_lt_of_cell? w _ hx219_0)).trans hx219_0
                                    replace p219 := eq_true p219
                                    replace q219 := eq_true q219
                                    go_wp2
                                    repeat (go_quiet (fail); try go_wp2)
                                    go_roundg k3
                                    case measure => have := HJ12.out; have := HJ25.out; have := HK3.out; omega
                                    case rel => exact ⟨(wrap64 (x16_3 + 1)), (by first | rfl | (simp; done) | (simp [*]; done)), H', ⟨by have := HJ12.out; have := HJ25.out; have := HK3.out; omega⟩, ⟨by (with_reducible repeat (first | refine blk_drewN ?_ _ | refine blk_drew ?_ | refine blk_alloc ?_ _)); exact BK206.out⟩, ⟨by repeat (first | (with_reducible first | exact HB.out | apply below_alloc | apply pw_below_drewN | apply below_drew1 | refine below_set ?_ GE206.out) | exact HB.out)⟩⟩
                                · rw [if_neg c35] at H
                                  exact absurd H (by simp)
                              · rw [if_neg c34] at H
                                exact absurd H (by simp)
                            · rw [if_neg c33] at H
                              exact absurd H (by simp)
                          · rw [if_neg c32] at H
                            exact absurd H (by simp)
                        · rw [if_neg c31] at H
                          have c31b0 : decide (x16_3 < a0_3) = false := decide_eq_false c31
                          clear c31
                          by_cases c37 : 0 ≤ a0_3
                          · rw [if_pos c37] at H
                            have c37b0 : decide (0 ≤ a0_3) = true := decide_eq_true c37
                            clear c37
                            by_cases c38 : a0_3 < (l0_0.length : Int)
                            · rw [if_pos c38] at H
                              have c38b0 : decide (a0_3 < (l0_0.length : Int)) = true := decide_eq_true c38
                              clear c38
                              replace H := Option.bind_eq_some_iff.mp H
                              obtain ⟨⟨t221, t222⟩, A390, H⟩ := H
                              replace H : (if t207 = true then (if t222 = true then (if a0_3 < (l0_1.length : Int) then (some (t221.toList == (rdOf ByteArray.empty l0_1 a0_3).toList)) else (none)) else (some false)) else (some false)) = some true := H
                              have A39 := Aside0.mk A390
                              clear A390
                              by_cases c40 : t207 = true
                              · subst c40
                                have H1 : (if t222 = true then (if a0_3 < (l0_1.length : Int) then (some (t221.toList == (rdOf ByteArray.empty l0_1 a0_3).toList)) else (none)) else (some false)) = some true := by rw [if_pos rfl] at H; first | done | exact H
                                clear H
                                have H := H1
                                clear H1
                                by_cases c41 : t222 = true
                                · subst c41
                                  have H1 : (if a0_3 < (l0_1.length : Int) then (some (t221.toList == (rdOf ByteArray.empty l0_1 a0_3).toList)) else (none)) = some true := by rw [if_pos rfl] at H; first | done | exact H
                                  clear H
                                  have H := H1
                                  clear H1
                                  by_cases c42 : a0_3 < (l0_1.length : Int)
                                  · rw [if_pos c42] at H
                                    have c42b0 : decide (a0_3 < (l0_1.length : Int)) = true := decide_eq_true c42
                                    clear c42
                                    have HR_ := Aside0.mk (Option.some.inj H)
                                    clear H
                                    have p220 : 0 ≤ (a0_3 : Int) := of_decide_eq_true (by first | (with_reducible assumption) | assumption)
                                    have q220 : a0_3 < (l0_0.length : Int) := of_decide_eq_true (by first | (with_reducible assumption) | assumption)
                                    obtain ⟨ad220, e220, hx220_0⟩ := Kd.at_string HR0_0.out a0_3 p220 q220
                                    cases e220
                                    replace hx220_0 := (HB.out.cell (World.block_lt_of_cell? w _ hx220_0)).trans hx220_0
                                    replace p220 := eq_true p220
                                    replace q220 := eq_true q220
                                    go_wp2_with (first | (go_at_call 16; (with_reducible refine (table_Find.calls t208 (rdOf ByteArray.empty l0_0 a0_3) t221 true _ ?lg A39.out).mono ?_); (case lg => exact (HG.out.below (by repeat (first | (with_reducible first | exact HB.out | apply below_alloc | apply pw_below_drewN | apply below_drew1 | refine below_set ?_ GE206.out) | exact HB.out)))); rintro e w43 ⟨rfl, hb⟩; have n0_ := Aside0.mk (blk_below (g := gb206) (o := .cells #[.slice (some ad220) l0_0.length c0_0, .slice A0_1 l0_1.length c0_1, .string a0_2, .int .i64 a0_3] 39 (0, 0)) (by (with_reducible repeat (first | refine blk_drewN ?_ _ | refine blk_drew ?_ | refine blk_alloc ?_ _)); exact BK206.out) hb); have n1_ := Aside0.mk (below_step (by repeat (first | (with_reducible first | exact HB.out | apply below_alloc | apply pw_below_drewN | apply below_drew1 | refine below_set ?_ GE206.out) | exact HB.out)) hb); clear BK206; clear HB; have BK206 := n0_; have HB := n1_; clear n0_ n1_; (try clear hb); (try clear hb2); (try clear hk); (try clear hi); have p223 : 0 ≤ (a0_3 : Int) := of_decide_eq_true (by first | (with_reducible assumption) | assumption); have q223 : a0_3 < (l0_1.length : Int) := of_decide_eq_true (by first | (with_reducible assumption) | assumption); obtain ⟨ad223, e223, hx223_0⟩ := Kd.at_string HR0_1.out a0_3 p223 q223; cases e223; replace hx223_0 := (HB.out.cell (World.block_lt_of_cell? w _ hx223_0)).trans hx223_0; replace p223 := eq_true p223; replace q223 := eq_true q223))
                                    repeat (go_quiet (first | (go_at_call 16; (with_reducible refine (table_Find.calls t208 (rdOf ByteArray.empty l0_0 a0_3) t221 true _ ?lg A39.out).mono ?_); (case lg => exact (HG.out.below (by repeat (first | (with_reducible first | exact HB.out | apply below_alloc | apply pw_below_drewN | apply below_drew1 | refine below_set ?_ GE206.out) | exact HB.out)))); rintro e w43 ⟨rfl, hb⟩; have n0_ := Aside0.mk (blk_below (g := gb206) (o := .cells #[.slice (some ad220) l0_0.length c0_0, .slice A0_1 l0_1.length c0_1, .string a0_2, .int .i64 a0_3] 39 (0, 0)) (by (with_reducible repeat (first | refine blk_drewN ?_ _ | refine blk_drew ?_ | refine blk_alloc ?_ _)); exact BK206.out) hb); have n1_ := Aside0.mk (below_step (by repeat (first | (with_reducible first | exact HB.out | apply below_alloc | apply pw_below_drewN | apply below_drew1 | refine below_set ?_ GE206.out) | exact HB.out)) hb); clear BK206; clear HB; have BK206 := n0_; have HB := n1_; clear n0_ n1_; (try clear hb); (try clear hb2); (try clear hk); (try clear hi); have p223 : 0 ≤ (a0_3 : Int) := of_decide_eq_true (by first | (with_reducible assumption) | assumption); have q223 : a0_3 < (l0_1.length : Int) := of_decide_eq_true (by first | (with_reducible assumption) | assumption); obtain ⟨ad223, e223, hx223_0⟩ := Kd.at_string HR0_1.out a0_3 p223 q223; cases e223; replace hx223_0 := (HB.out.cell (World.block_lt_of_cell? w _ hx223_0)).trans hx223_0; replace p223 := eq_true p223; replace q223 := eq_true q223)); try go_wp2_with (first | (go_at_call 16; (with_reducible refine (table_Find.calls t208 (rdOf ByteArray.empty l0_0 a0_3) t221 true _ ?lg A39.out).mono ?_); (case lg => exact (HG.out.below (by repeat (first | (with_reducible first | exact HB.out | apply below_alloc | apply pw_below_drewN | apply below_drew1 | refine below_set ?_ GE206.out) | exact HB.out)))); rintro e w43 ⟨rfl, hb⟩; have n0_ := Aside0.mk (blk_below (g := gb206) (o := .cells #[.slice (some ad220) l0_0.length c0_0, .slice A0_1 l0_1.length c0_1, .string a0_2, .int .i64 a0_3] 39 (0, 0)) (by (with_reducible repeat (first | refine blk_drewN ?_ _ | refine blk_drew ?_ | refine blk_alloc ?_ _)); exact BK206.out) hb); have n1_ := Aside0.mk (below_step (by repeat (first | (with_reducible first | exact HB.out | apply below_alloc | apply pw_below_drewN | apply below_drew1 | refine below_set ?_ GE206.out) | exact HB.out)) hb); clear BK206; clear HB; have BK206 := n0_; have HB := n1_; clear n0_ n1_; (try clear hb); (try clear hb2); (try clear hk); (try clear hi); have p223 : 0 ≤ (a0_3 : Int) := of_decide_eq_true (by first | (with_reducible assumption) | assumption); have q223 : a0_3 < (l0_1.length : Int) := of_decide_eq_true (by first | (with_reducible assumption) | assumption); obtain ⟨ad223, e223, hx223_0⟩ := Kd.at_string HR0_1.out a0_3 p223 q223; cases e223; replace hx223_0 := (HB.out.cell (World.block_lt_of_cell? w _ hx223_0)).trans hx223_0; replace p223 := eq_true p223; replace q223 := eq_true q223)))
                                    go_ret
                                    exact ⟨by have HR0_ := HR_.out; first | exact congrArg (fun b_ => Ending.returned (Value.bool b_)) HR0_ | (simpa using HR0_) | rfl | (simp [errW_none, errW_some] <;> rfl) | (simp [*, errW_none, errW_some] <;> rfl), by repeat (first | (with_reducible first | exact HB.out | apply below_alloc | apply pw_below_drewN | apply below_drew1 | refine below_set ?_ GE206.out) | exact HB.out)⟩
                                  · rw [if_neg c42] at H
                                    exact absurd H (by simp)
                                · replace c41 := Bool.eq_false_iff.mpr c41
                                  subst c41
                                  have H1 : (some false) = some true := by rw [if_neg (show ¬ (false = true) by decide)] at H; first | done | exact H
                                  clear H
                                  have H := H1
                                  clear H1
                                  exact absurd H (by decide)
                              · replace c40 := Bool.eq_false_iff.mpr c40
                                subst c40
                                have H1 : (some false) = some true := by rw [if_neg (show ¬ (false = true) by decide)] at H; first | done | exact H
                                clear H
                                have H := H1
                                clear H1
                                exact absurd H (by decide)
                            · rw [if_neg c38] at H
                              exact absurd H (by simp)
                          · rw [if_neg c37] at H
                            exact absurd H (by simp)
      · rw [if_neg c9] at H
        exact absurd H (by simp)
    · rw [if_neg c8] at H
      have c8b0 : (t209 == 0) = false := beq_eq_false_iff_ne.mpr c8
      have c8b1 : (t209 != 0) = true := bne_iff_ne.mpr c8
      by_cases c46 : t207 = true
      · subst c46
        have H1 : (some (t208.toList == ([] : List UInt8))) = some true := by rw [if_pos rfl] at H; first | done | exact H
        clear H
        have H := H1
        clear H1
        have HR_ := Aside0.mk (Option.some.inj H)
        clear H
        go_enter Tryd.func7, Tryd.ntmps7
        go_wp2_with (first | ((with_reducible refine gate_dst (N := 1) rfl ?_); refine box_event ?hg (N := 1) ?hd (cs := #[.slice A0_0 l0_0.length c0_0, .slice A0_1 l0_1.length c0_1, .string a0_2, .int .i64 a0_3]) (t := 39) ?hr ?_; (case hd => rfl); (case hg => rfl); (case hr => first | (go_simp; done) | (go_simp; rfl)); intro gb206 hg w47 hbox hb; have n0_ := Aside0.mk (below_step (by repeat (first | (with_reducible first | exact HB.out | apply below_alloc | apply pw_below_drewN | apply below_drew1) | exact HB.out)) hb); have n1_ := Aside0.mk (hbox); have n2_ := Aside0.mk ((by rw [hg]; exact (below_size (by repeat (first | (with_reducible first | exact HB.out | apply below_alloc | apply pw_below_drewN | apply below_drew1) | exact HB.out))) : w.heap.size ≤ gb206)); have n3_ := Aside0.mk ((by rw [hg]; exact (below_size (by repeat (first | (with_reducible first | exact HB.out | apply below_alloc | apply pw_below_drewN | apply below_drew1) | exact HB.out))) : w.heap.size ≤ gb206)); clear HB; have HB := n0_; have BK206 := n1_; have GW206 := n2_; have GE206 := n3_; clear n0_ n1_ n2_ n3_; clear hb hbox hg; have hcz48_0 : w47.cell? ⟨gb206, 0, none⟩ = some (.slice A0_0 l0_0.length c0_0) := (blk_cell BK206.out 0).trans rfl; have hcz48_1 : w47.cell? ⟨gb206, 1, none⟩ = some (.slice A0_1 l0_1.length c0_1) := (blk_cell BK206.out 1).trans rfl; have hcz48_2 : w47.cell? ⟨gb206, 2, none⟩ = some (.string a0_2) := (blk_cell BK206.out 2).trans rfl; have hcz48_3 : w47.cell? ⟨gb206, 3, none⟩ = some (.int .i64 a0_3) := (blk_cell BK206.out 3).trans rfl; have hfz48_0 := blk_frozen BK206.out 0; have hfz48_1 := blk_frozen BK206.out 1; have hfz48_2 := blk_frozen BK206.out 2; have hfz48_3 := blk_frozen BK206.out 3) | (go_at_call 10; (with_reducible refine (interchangelaw03_shown.calls true _ ?lg A2.out).mono ?_); (case lg => exact (HG.out.below (by repeat (first | (with_reducible first | exact HB.out | apply below_alloc | apply pw_below_drewN | apply below_drew1 | refine below_set ?_ GE206.out) | exact HB.out)))); rintro e w49 ⟨rfl, hb⟩; have n0_ := Aside0.mk (blk_below (g := gb206) (o := .cells #[.slice A0_0 l0_0.length c0_0, .slice A0_1 l0_1.length c0_1, .string a0_2, .int .i64 a0_3] 39 (0, 0)) (by (with_reducible repeat (first | refine blk_drewN ?_ _ | refine blk_drew ?_ | refine blk_alloc ?_ _)); exact BK206.out) hb); have n1_ := Aside0.mk (below_step (by repeat (first | (with_reducible first | exact HB.out | apply below_alloc | apply pw_below_drewN | apply below_drew1 | refine below_set ?_ GE206.out) | exact HB.out)) hb); clear BK206; clear HB; have BK206 := n0_; have HB := n1_; clear n0_ n1_; (try clear hb); (try clear hb2); (try clear hk); (try clear hi)) | (go_at_call 12; (with_reducible refine (table_Make.calls _ _ l0_0 _ _ l0_1 t208 t209 _ ?lg ?side1 ?side2 ?side3 ?side4 A7.out).mono ?_); (case lg => exact (HG.out.below (by repeat (first | (with_reducible first | exact HB.out | apply below_alloc | apply pw_below_drewN | apply below_drew1 | refine below_set ?_ GE206.out) | exact HB.out)))); (case side1 => repeat (first | exact (Kd.C_below HR0_0.out HB.out) | (with_reducible refine Kd.C_alloc ?_ _) | (with_reducible refine Kd.C_drewN ?_ _) | (with_reducible refine Kd.C_drew ?_))); (case side2 => exact HC0_0.out); (case side3 => repeat (first | exact (Kd.C_below HR0_1.out HB.out) | (with_reducible refine Kd.C_alloc ?_ _) | (with_reducible refine Kd.C_drewN ?_ _) | (with_reducible refine Kd.C_drew ?_))); (case side4 => exact HC0_1.out); rintro e w50 ⟨rfl, hb⟩; have n0_ := Aside0.mk (blk_below (g := gb206) (o := .cells #[.slice A0_0 l0_0.length c0_0, .slice A0_1 l0_1.length c0_1, .string a0_2, .int .i64 a0_3] 39 (0, 0)) (by (with_reducible repeat (first | refine blk_drewN ?_ _ | refine blk_drew ?_ | refine blk_alloc ?_ _)); exact BK206.out) hb); have n1_ := Aside0.mk (below_step (by repeat (first | (with_reducible first | exact HB.out | apply below_alloc | apply pw_below_drewN | apply below_drew1 | refine below_set ?_ GE206.out) | exact HB.out)) hb); clear BK206; clear HB; have BK206 := n0_; have HB := n1_; clear n0_ n1_; (try clear hb); (try clear hb2); (try clear hk); (try clear hi)))
        repeat (go_quiet (first | ((with_reducible refine gate_dst (N := 1) rfl ?_); refine box_event ?hg (N := 1) ?hd (cs := #[.slice A0_0 l0_0.length c0_0, .slice A0_1 l0_1.length c0_1, .string a0_2, .int .i64 a0_3]) (t := 39) ?hr ?_; (case hd => rfl); (case hg => rfl); (case hr => first | (go_simp; done) | (go_simp; rfl)); intro gb206 hg w47 hbox hb; have n0_ := Aside0.mk (below_step (by repeat (first | (with_reducible first | exact HB.out | apply below_alloc | apply pw_below_drewN | apply below_drew1) | exact HB.out)) hb); have n1_ := Aside0.mk (hbox); have n2_ := Aside0.mk ((by rw [hg]; exact (below_size (by repeat (first | (with_reducible first | exact HB.out | apply below_alloc | apply pw_below_drewN | apply below_drew1) | exact HB.out))) : w.heap.size ≤ gb206)); have n3_ := Aside0.mk ((by rw [hg]; exact (below_size (by repeat (first | (with_reducible first | exact HB.out | apply below_alloc | apply pw_below_drewN | apply below_drew1) | exact HB.out))) : w.heap.size ≤ gb206)); clear HB; have HB := n0_; have BK206 := n1_; have GW206 := n2_; have GE206 := n3_; clear n0_ n1_ n2_ n3_; clear hb hbox hg; have hcz48_0 : w47.cell? ⟨gb206, 0, none⟩ = some (.slice A0_0 l0_0.length c0_0) := (blk_cell BK206.out 0).trans rfl; have hcz48_1 : w47.cell? ⟨gb206, 1, none⟩ = some (.slice A0_1 l0_1.length c0_1) := (blk_cell BK206.out 1).trans rfl; have hcz48_2 : w47.cell? ⟨gb206, 2, none⟩ = some (.string a0_2) := (blk_cell BK206.out 2).trans rfl; have hcz48_3 : w47.cell? ⟨gb206, 3, none⟩ = some (.int .i64 a0_3) := (blk_cell BK206.out 3).trans rfl; have hfz48_0 := blk_frozen BK206.out 0; have hfz48_1 := blk_frozen BK206.out 1; have hfz48_2 := blk_frozen BK206.out 2; have hfz48_3 := blk_frozen BK206.out 3) | (go_at_call 10; (with_reducible refine (interchangelaw03_shown.calls true _ ?lg A2.out).mono ?_); (case lg => exact (HG.out.below (by repeat (first | (with_reducible first | exact HB.out | apply below_alloc | apply pw_below_drewN | apply below_drew1 | refine below_set ?_ GE206.out) | exact HB.out)))); rintro e w49 ⟨rfl, hb⟩; have n0_ := Aside0.mk (blk_below (g := gb206) (o := .cells #[.slice A0_0 l0_0.length c0_0, .slice A0_1 l0_1.length c0_1, .string a0_2, .int .i64 a0_3] 39 (0, 0)) (by (with_reducible repeat (first | refine blk_drewN ?_ _ | refine blk_drew ?_ | refine blk_alloc ?_ _)); exact BK206.out) hb); have n1_ := Aside0.mk (below_step (by repeat (first | (with_reducible first | exact HB.out | apply below_alloc | apply pw_below_drewN | apply below_drew1 | refine below_set ?_ GE206.out) | exact HB.out)) hb); clear BK206; clear HB; have BK206 := n0_; have HB := n1_; clear n0_ n1_; (try clear hb); (try clear hb2); (try clear hk); (try clear hi)) | (go_at_call 12; (with_reducible refine (table_Make.calls _ _ l0_0 _ _ l0_1 t208 t209 _ ?lg ?side1 ?side2 ?side3 ?side4 A7.out).mono ?_); (case lg => exact (HG.out.below (by repeat (first | (with_reducible first | exact HB.out | apply below_alloc | apply pw_below_drewN | apply below_drew1 | refine below_set ?_ GE206.out) | exact HB.out)))); (case side1 => repeat (first | exact (Kd.C_below HR0_0.out HB.out) | (with_reducible refine Kd.C_alloc ?_ _) | (with_reducible refine Kd.C_drewN ?_ _) | (with_reducible refine Kd.C_drew ?_))); (case side2 => exact HC0_0.out); (case side3 => repeat (first | exact (Kd.C_below HR0_1.out HB.out) | (with_reducible refine Kd.C_alloc ?_ _) | (with_reducible refine Kd.C_drewN ?_ _) | (with_reducible refine Kd.C_drew ?_))); (case side4 => exact HC0_1.out); rintro e w50 ⟨rfl, hb⟩; have n0_ := Aside0.mk (blk_below (g := gb206) (o := .cells #[.slice A0_0 l0_0.length c0_0, .slice A0_1 l0_1.length c0_1, .string a0_2, .int .i64 a0_3] 39 (0, 0)) (by (with_reducible repeat (first | refine blk_drewN ?_ _ | refine blk_drew ?_ | refine blk_alloc ?_ _)); exact BK206.out) hb); have n1_ := Aside0.mk (below_step (by repeat (first | (with_reducible first | exact HB.out | apply below_alloc | apply pw_below_drewN | apply below_drew1 | refine below_set ?_ GE206.out) | exact HB.out)) hb); clear BK206; clear HB; have BK206 := n0_; have HB := n1_; clear n0_ n1_; (try clear hb); (try clear hb2); (try clear hk); (try clear hi))); try go_wp2_with (first | ((with_reducible refine gate_dst (N := 1) rfl ?_); refine box_event ?hg (N := 1) ?hd (cs := #[.slice A0_0 l0_0.length c0_0, .slice A0_1 l0_1.length c0_1, .string a0_2, .int .i64 a0_3]) (t := 39) ?hr ?_; (case hd => rfl); (case hg => rfl); (case hr => first | (go_simp; done) | (go_simp; rfl)); intro gb206 hg w47 hbox hb; have n0_ := Aside0.mk (below_step (by repeat (first | (with_reducible first | exact HB.out | apply below_alloc | apply pw_below_drewN | apply below_drew1) | exact HB.out)) hb); have n1_ := Aside0.mk (hbox); have n2_ := Aside0.mk ((by rw [hg]; exact (below_size (by repeat (first | (with_reducible first | exact HB.out | apply below_alloc | apply pw_below_drewN | apply below_drew1) | exact HB.out))) : w.heap.size ≤ gb206)); have n3_ := Aside0.mk ((by rw [hg]; exact (below_size (by repeat (first | (with_reducible first | exact HB.out | apply below_alloc | apply pw_below_drewN | apply below_drew1) | exact HB.out))) : w.heap.size ≤ gb206)); clear HB; have HB := n0_; have BK206 := n1_; have GW206 := n2_; have GE206 := n3_; clear n0_ n1_ n2_ n3_; clear hb hbox hg; have hcz48_0 : w47.cell? ⟨gb206, 0, none⟩ = some (.slice A0_0 l0_0.length c0_0) := (blk_cell BK206.out 0).trans rfl; have hcz48_1 : w47.cell? ⟨gb206, 1, none⟩ = some (.slice A0_1 l0_1.length c0_1) := (blk_cell BK206.out 1).trans rfl; have hcz48_2 : w47.cell? ⟨gb206, 2, none⟩ = some (.string a0_2) := (blk_cell BK206.out 2).trans rfl; have hcz48_3 : w47.cell? ⟨gb206, 3, none⟩ = some (.int .i64 a0_3) := (blk_cell BK206.out 3).trans rfl; have hfz48_0 := blk_frozen BK206.out 0; have hfz48_1 := blk_frozen BK206.out 1; have hfz48_2 := blk_frozen BK206.out 2; have hfz48_3 := blk_frozen BK206.out 3) | (go_at_call 10; (with_reducible refine (interchangelaw03_shown.calls true _ ?lg A2.out).mono ?_); (case lg => exact (HG.out.below (by repeat (first | (with_reducible first | exact HB.out | apply below_alloc | apply pw_below_drewN | apply below_drew1 | refine below_set ?_ GE206.out) | exact HB.out)))); rintro e w49 ⟨rfl, hb⟩; have n0_ := Aside0.mk (blk_below (g := gb206) (o := .cells #[.slice A0_0 l0_0.length c0_0, .slice A0_1 l0_1.length c0_1, .string a0_2, .int .i64 a0_3] 39 (0, 0)) (by (with_reducible repeat (first | refine blk_drewN ?_ _ | refine blk_drew ?_ | refine blk_alloc ?_ _)); exact BK206.out) hb); have n1_ := Aside0.mk (below_step (by repeat (first | (with_reducible first | exact HB.out | apply below_alloc | apply pw_below_drewN | apply below_drew1 | refine below_set ?_ GE206.out) | exact HB.out)) hb); clear BK206; clear HB; have BK206 := n0_; have HB := n1_; clear n0_ n1_; (try clear hb); (try clear hb2); (try clear hk); (try clear hi)) | (go_at_call 12; (with_reducible refine (table_Make.calls _ _ l0_0 _ _ l0_1 t208 t209 _ ?lg ?side1 ?side2 ?side3 ?side4 A7.out).mono ?_); (case lg => exact (HG.out.below (by repeat (first | (with_reducible first | exact HB.out | apply below_alloc | apply pw_below_drewN | apply below_drew1 | refine below_set ?_ GE206.out) | exact HB.out)))); (case side1 => repeat (first | exact (Kd.C_below HR0_0.out HB.out) | (with_reducible refine Kd.C_alloc ?_ _) | (with_reducible refine Kd.C_drewN ?_ _) | (with_reducible refine Kd.C_drew ?_))); (case side2 => exact HC0_0.out); (case side3 => repeat (first | exact (Kd.C_below HR0_1.out HB.out) | (with_reducible refine Kd.C_alloc ?_ _) | (with_reducible refine Kd.C_drewN ?_ _) | (with_reducible refine Kd.C_drew ?_))); (case side4 => exact HC0_1.out); rintro e w50 ⟨rfl, hb⟩; have n0_ := Aside0.mk (blk_below (g := gb206) (o := .cells #[.slice A0_0 l0_0.length c0_0, .slice A0_1 l0_1.length c0_1, .string a0_2, .int .i64 a0_3] 39 (0, 0)) (by (with_reducible repeat (first | refine blk_drewN ?_ _ | refine blk_drew ?_ | refine blk_alloc ?_ _)); exact BK206.out) hb); have n1_ := Aside0.mk (below_step (by repeat (first | (with_reducible first | exact HB.out | apply below_alloc | apply pw_below_drewN | apply below_drew1 | refine below_set ?_ GE206.out) | exact HB.out)) hb); clear BK206; clear HB; have BK206 := n0_; have HB := n1_; clear n0_ n1_; (try clear hb); (try clear hb2); (try clear hk); (try clear hi))))
        go_ret
        exact ⟨by have HR0_ := HR_.out; first | exact congrArg (fun b_ => Ending.returned (Value.bool b_)) HR0_ | (simpa using HR0_) | rfl | (simp [errW_none, errW_some] <;> rfl) | (simp [*, errW_none, errW_some] <;> rfl), by repeat (first | (with_reducible first | exact HB.out | apply below_alloc | apply pw_below_drewN | apply below_drew1 | refine below_set ?_ GE206.out) | exact HB.out)⟩
      · replace c46 := Bool.eq_false_iff.mpr c46
        subst c46
        have H1 : (some false) = some true := by rw [if_neg (show ¬ (false = true) by decide)] at H; first | done | exact H
        clear H
        have H := H1
        clear H1
        exact absurd H (by decide)


end Go.Proofs.YthdkmohelampbaaDoor.F
namespace Go.Proofs.YthdkmohelampbaaDoor.F
open Go.RowKit Go.Proofs.YthdkmohelampbaaDoorW.PrintWords Go.Proofs.YthdkmohelampbaaDoorW.PrintLast Go.Proofs.YthdkmohelampbaaDoorW.PrintMore
set_option linter.unusedVariables false
set_option linter.unusedSimpArgs false
theorem bulk_texts (l : List ByteArray) : (l.map (fun a => a.size + 1)).sum = sumB l + l.length := by
  unfold sumB
  induction l with
  | nil => rfl
  | cons x l ih => simp only [List.map_cons, List.sum_cons, List.length_cons, ih]; omega
theorem fst_zip : ∀ (ks vs : List ByteArray), ks.length = vs.length → (ks.zip vs).map (·.1) = ks
  | [], _, _ => by simp
  | k :: ks, [], h => by simp at h
  | k :: ks, v :: vs, h => by
    simp only [List.length_cons, Nat.add_right_cancel_iff] at h
    rw [List.zip_cons_cons, List.map_cons, fst_zip ks vs h]
theorem whole_taken {t : ByteArray} (h : wholeR t = 0) (more : ByteArray) : takenR (t ++ more) (tabR (t ++ more)) = (t, more, 0) := by
  unfold wholeR at h
  by_cases e : (tabR t).2.1 = 0
  · rw [if_pos e] at h
    by_cases e0 : (tabR t).1.size = 0
    · obtain ⟨a, ha, _, hm, _⟩ := tab_pre e
      have hr := ba_empty e0
      rw [hr, app_empty] at ha
      subst ha
      have h2 := hm more
      generalize tabR (t ++ more) = T at h2 ⊢
      subst h2
      exact taken_pre rfl rfl
    · rw [if_neg e0] at h
      exact absurd h (show ¬ (3 : Int) = 0 by decide)
  · rw [if_neg e] at h
    exact absurd h e
/-- a table that is made is told again -/
theorem made_back (ks vs : List ByteArray) (hz : (flatF ks vs).size ≤ 4294967295) (h : (makeR ks vs).2 = 0) :
    ks.length = vs.length ∧ keysR (makeR ks vs).1 = (ks, 0) ∧ (∀ more, takenR ((makeR ks vs).1 ++ more) (tabR ((makeR ks vs).1 ++ more)) = ((makeR ks vs).1, more, 0)) ∧ ∀ key, findR (makeR ks vs).1 key = findF key (ks.zip vs) := by
  obtain ⟨h1, h2, _⟩ := make_iff ks vs hz
  obtain ⟨hl, ho, hw⟩ := h1.1 h
  rw [h2 h]
  have ht := lay_take (n := 4) ⟨#[]⟩ (long_zero hz)
  rw [app_empty] at ht
  have hin : inR (layR 4 (flatF ks vs)).1 = flatF ks vs := by rw [(whole_in hw).1, ht]
  have hf := fld_flat ks vs hl ho
  refine ⟨hl, ?_, whole_taken hw, fun key => ?_⟩
  · unfold keysR
    rw [if_pos hw, hin, hf, fst_zip ks vs hl]
  · unfold findR
    rw [if_pos hw, hin, hf]
theorem findF_zip (key : ByteArray) : ∀ (ks vs : List ByteArray) (i : Nat), ks.length = vs.length → i < ks.length → (∀ j, j < i → ¬ (ks.getD j ByteArray.empty).toList = key.toList) → (ks.getD i ByteArray.empty).toList = key.toList → findF key (ks.zip vs) = (vs.getD i ByteArray.empty, true)
  | [], _, i, _, h, _, _ => absurd h (Nat.not_lt_zero _)
  | k :: ks, [], i, h, _, _, _ => by simp at h
  | k :: ks, v :: vs, 0, h, _, _, e => by
    rw [List.zip_cons_cons, findF, if_pos (show (k, v).fst.toList = key.toList from e)]
    rfl
  | k :: ks, v :: vs, i + 1, h, hi, hn, e => by
    simp only [List.length_cons, Nat.add_right_cancel_iff] at h
    rw [List.zip_cons_cons, findF, if_neg (show ¬ (k, v).fst.toList = key.toList from hn 0 (Nat.zero_lt_succ _))]
    exact findF_zip key ks vs i h (by simpa using hi) (fun j hj => hn (j + 1) (by omega)) e
theorem back_loop (ks vs : List ByteArray) (t : ByteArray) (i : Nat) (hi : i < ks.length) (hl : ks.length = vs.length) (hz : ks.length ≤ 4611686018427387904) (hF : ∀ key, table_Find.f t key = some (findF key (ks.zip vs))) :
    ∀ (d k n : Nat), n + d = i → d < k → (∀ j, j < n → ¬ (ks.getD j ByteArray.empty).toList = (ks.getD i ByteArray.empty).toList) → interchangelaw03_TableBack.l0 k ks vs (i : Int) true t (n : Int) = some true := by
  intro d
  induction d with
  | zero =>
    intro k n h hk hn
    obtain ⟨k, rfl⟩ : ∃ j, k = j + 1 := ⟨k - 1, by omega⟩
    obtain rfl : n = i := by omega
    have hr : rdOf ByteArray.empty ks (n : Int) = ks.getD n ByteArray.empty := rfl
    have hr2 : rdOf ByteArray.empty vs (n : Int) = vs.getD n ByteArray.empty := rfl
    rw [interchangelaw03_TableBack.l0, if_neg (by omega), if_pos (by omega), if_pos (by omega), hr, hF, Option.bind_some, findF_zip _ ks vs n hl hi hn rfl, if_pos rfl, if_pos rfl, if_pos (by omega), hr2, beq_self_eq_true]
  | succ d ih =>
    intro k n h hk hn
    obtain ⟨k, rfl⟩ : ∃ j, k = j + 1 := ⟨k - 1, by omega⟩
    have hr : ∀ n : Nat, rdOf ByteArray.empty ks (n : Int) = ks.getD n ByteArray.empty := fun _ => rfl
    have hw : wrap64 ((n : Int) + 1) = ((n + 1 : Nat) : Int) := by rw [wrap64_of (by omega) (by omega)]; omega
    rw [interchangelaw03_TableBack.l0, if_pos (by omega), if_pos (by omega), if_pos (by omega), if_pos (by omega), if_pos (by omega), hr, hr, hw]
    by_cases e : (ks.getD n ByteArray.empty).toList = (ks.getD i ByteArray.empty).toList
    · rw [if_pos e]
    · rw [if_neg e]
      refine ih k (n + 1) (by omega) (by omega) (fun j hj => ?_)
      by_cases hj2 : j = n
      · subst hj2; exact e
      · exact hn j (by omega)
theorem tableBack_pure (b0 : List ByteArray × List ByteArray × ByteArray × Int) (g0 : (b0.1.length ≤ maxLen ∧ ∀ x ∈ b0.1, x.size ≤ maxLen) ∧ (b0.2.1.length ≤ maxLen ∧ ∀ x ∈ b0.2.1, x.size ≤ maxLen) ∧ b0.2.2.1.size ≤ maxLen ∧ (Lit.int .i64 b0.2.2.2).wf = true)
    (hb : (fun a => (fun l => (l.map (fun a => a.size + 1)).sum + 1) a.1 + (fun l => (l.map (fun a => a.size + 1)).sum + 1) a.2.1 + (fun a => a.size + 1) a.2.2.1 + (fun _ => 1) a.2.2.2) b0 ≤ 1048576) : ∃ k, interchangelaw03_TableBack.f k b0.1 b0.2.1 b0.2.2.1 b0.2.2.2 = some true := by
  obtain ⟨ks, vs, more, i⟩ := b0
  have hz : ((ks.map (fun a => a.size + 1)).sum + 1) + ((vs.map (fun a => a.size + 1)).sum + 1) + (more.size + 1) + 1 ≤ 1048576 := hb
  rw [bulk_texts, bulk_texts] at hz
  clear g0 hb
  have hfl := flat_size ks vs
  have hmk := make_iff ks vs (by omega)
  have hbk := made_back ks vs (by omega)
  have hM : table_Make.f ks vs = some (makeR ks vs) := by
    unfold table_Make.f
    rw [if_pos (by unfold makeOk; omega)]
  have hlz := lay_size 4 (flatF ks vs)
  obtain ⟨k, hk⟩ : ∃ k : Nat, ks.length + 100 ≤ k := ⟨_, Nat.le_refl _⟩
  obtain ⟨k, rfl⟩ : ∃ j, k = j + 2 := ⟨k - 2, by omega⟩
  refine ⟨k + 2, ?_⟩
  simp only
  unfold interchangelaw03_TableBack.f
  rw [shown_t, Option.bind_some]
  by_cases c : (ks.length : Int) > 60
  · rw [if_pos c]
  rw [if_neg c, hM, Option.bind_some]
  obtain ⟨-, m1, m2⟩ := hmk
  clear hM
  have hsz : (makeR ks vs).1.size ≤ 1048576 * 10 := by
    by_cases e : (makeR ks vs).2 = 0
    · rw [m1 e]; omega
    · rw [m2 e]; exact Nat.zero_le _
  generalize makeR ks vs = m at m1 m2 hbk hsz ⊢
  obtain ⟨t, q⟩ := m
  simp only at m1 m2 hbk hsz ⊢
  by_cases e : q = 0
  · obtain ⟨hl, h2, h3, h4⟩ := hbk e
    have hT : table_Take.f (t ++ more) = some (t, more, 0) := by
      unfold table_Take.f
      rw [if_pos (by rw [size_append]; omega), h3]
    have hK : table_Keys.f t = some (ks, 0) := by
      unfold table_Keys.f
      rw [if_pos (by omega), h2]
    have hF : ∀ key, table_Find.f t key = some (findF key (ks.zip vs)) := by
      intro key
      unfold table_Find.f
      rw [if_pos (by omega), h4]
    rw [if_pos e, if_pos (by omega), hT, Option.bind_some, hK, Option.bind_some]
    simp only
    rw [strings_k ks ks (by omega) (by omega), Option.bind_some, if_pos trivial, if_pos trivial, if_pos trivial, if_pos trivial, decide_eq_true (show ks = ks from rfl), interchangelaw03_TableBack.j0, if_neg (by decide)]
    by_cases c1 : i < 0
    · rw [if_pos c1, interchangelaw03_TableBack.j1, if_pos rfl, if_pos rfl, beq_iff_eq.2 (by omega)]
    rw [if_neg c1]
    by_cases c2 : i ≥ (ks.length : Int)
    · rw [if_pos c2, interchangelaw03_TableBack.j1, if_pos rfl, if_pos rfl, beq_iff_eq.2 (by omega)]
    rw [if_neg c2, interchangelaw03_TableBack.j1, bne_eq_false_iff_eq.2 (by omega), if_neg (by decide)]
    obtain ⟨n, rfl⟩ : ∃ n : Nat, i = (n : Int) := ⟨i.toNat, by omega⟩
    exact back_loop ks vs t n (by omega) hl (by omega) hF n k 0 (by omega) (by omega) (fun j hj => absurd hj (Nat.not_lt_zero _))
  · have := m2 e
    subst this
    rw [if_neg e, if_pos trivial]
    rw [toList_data]
    rfl
end Go.Proofs.YthdkmohelampbaaDoor.F
namespace Go.Proofs.YthdkmohelampbaaDoor.F
open Go.RowKit Go.Proofs.YthdkmohelampbaaDoorW.PrintWords Go.Proofs.YthdkmohelampbaaDoorW.PrintLast Go.Proofs.YthdkmohelampbaaDoorW.PrintMore
set_option linter.unusedVariables false
set_option linter.unusedSimpArgs false
/-- when what is made of some keys with one value is a table -/
theorem make_same (ks vs : List ByteArray) (hl : ks.length = vs.length) (hz : (flatF ks vs).size ≤ 4294967295) : (makeR ks vs).2 = 0 ↔ okF ks vs ∧ ∀ v ∈ vs, Shallow v := by
  rw [(make_iff ks vs hz).1]
  constructor
  · rintro ⟨h1, h2, h3⟩
    exact ⟨h2, (whole_flat ks vs h1 h2 hz).1 h3⟩
  · rintro ⟨h2, h3⟩
    exact ⟨hl, h2, (whole_flat ks vs hl h2 hz).2 h3⟩
theorem make_app (k1 v1 k2 v2 : List ByteArray) (h1 : k1.length = v1.length) (h2 : k2.length = v2.length) (hz : (flatF (k1 ++ k2) (v1 ++ v2)).size ≤ 4294967295) : (makeR (k1 ++ k2) (v1 ++ v2)).2 = 0 ↔ (makeR k1 v1).2 = 0 ∧ (makeR k2 v2).2 = 0 := by
  have hf := flatF_app k1 v1 k2 v2 h1
  have hs := congrArg ByteArray.size hf
  rw [size_append] at hs
  rw [make_same _ _ (by simp only [List.length_append]; omega) hz, make_same k1 v1 h1 (by omega), make_same k2 v2 h2 (by omega)]
  unfold okF
  simp only [List.mem_append]
  constructor
  · rintro ⟨⟨a, b⟩, c⟩
    exact ⟨⟨⟨fun k h => a k (.inl h), fun k h => b k (.inl h)⟩, fun k h => c k (.inl h)⟩, ⟨fun k h => a k (.inr h), fun k h => b k (.inr h)⟩, fun k h => c k (.inr h)⟩
  · rintro ⟨⟨⟨a, b⟩, c⟩, ⟨a', b'⟩, c'⟩
    exact ⟨⟨fun k h => h.elim (a k) (a' k), fun k h => h.elim (b k) (b' k)⟩, fun k h => h.elim (c k) (c' k)⟩
theorem rep_succ (v : ByteArray) (n : Nat) : List.replicate n v ++ [v] = List.replicate (n + 1) v := by
  rw [List.replicate_succ', ]
theorem rep_len (v : ByteArray) (n : Nat) : (List.replicate n v).length = n := List.length_replicate
theorem sumB_rep (v : ByteArray) : ∀ n : Nat, sumB (List.replicate n v) = n * v.size
  | 0 => by simp [sumB]
  | n + 1 => by rw [List.replicate_succ, sumB_cons, sumB_rep v n, Nat.succ_mul]; omega
theorem four_drop {x : ByteArray} (h : x.size ≤ 4294967295) : (layR 4 x).1.extract 4 (layR 4 x).1.size = x := by
  have h4 : (toBA (be 4 x.size)).size = 4 := by rw [toBA_size, be_length]
  rw [long_ok h]
  show (toBA (be 4 x.size) ++ x).extract 4 (toBA (be 4 x.size) ++ x).size = x
  have := extract_app_right (toBA (be 4 x.size)) x
  rw [h4] at this
  exact this
/-- behind the loops -/
theorem swaps_end (k : Nat) (a b : List ByteArray) (v : ByteArray) (hab : a.length + b.length ≤ 40) (hz : sumB a + a.length + 1 + (sumB b + b.length + 1) + (v.size + 1) ≤ 1048576) (hk : 12 ≤ k) :
    interchangelaw03_TableSwaps.l1 (k + 1) a b v true (List.replicate a.length v) (List.replicate b.length v) (b.length : Int) = some true := by
  have r1 := sumB_rep v a.length
  have r2 := sumB_rep v b.length
  have l1 := rep_len v a.length
  have l2 := rep_len v b.length
  generalize List.replicate a.length v = x at r1 l1
  generalize List.replicate b.length v = y at r2 l2
  have hm1 : a.length * v.size ≤ 40 * v.size := Nat.mul_le_mul_right _ (by omega)
  have hm2 : b.length * v.size ≤ 40 * v.size := Nat.mul_le_mul_right _ (by omega)
  have f1 := flat_size a x
  have f2 := flat_size b y
  have f3 := flatF_app a x b y l1.symm
  have f4 := congrArg ByteArray.size f3
  rw [size_append] at f4
  have m1 := make_iff a x (by omega)
  have m2 := make_iff b y (by omega)
  have m3 := make_iff (a ++ b) (x ++ y) (by omega)
  have ma := make_app a x b y l1.symm l2.symm (by omega)
  have M1 : table_Make.f a x = some (makeR a x) := by
    unfold table_Make.f
    rw [if_pos (by unfold makeOk; omega)]
  have M2 : table_Make.f b y = some (makeR b y) := by
    unfold table_Make.f
    rw [if_pos (by unfold makeOk; omega)]
  have M3 : table_Make.f (a ++ b) (x ++ y) = some (makeR (a ++ b) (x ++ y)) := by
    unfold table_Make.f
    rw [if_pos (by unfold makeOk; rw [sumB_app, sumB_app, List.length_append]; omega)]
  have z1 := long_size (s := flatF a x) (by omega)
  have z2 := long_size (s := flatF b y) (by omega)
  have z3 := long_size (s := flatF (a ++ b) (x ++ y)) (by omega)
  have d1 := four_drop (x := flatF a x) (by omega)
  have d2 := four_drop (x := flatF b y) (by omega)
  have d3 := four_drop (x := flatF (a ++ b) (x ++ y)) (by omega)
  rw [f3] at z3 d3 m3
  rw [interchangelaw03_TableSwaps.l1, if_neg (by omega), M1, Option.bind_some, M2, Option.bind_some, Option.bind_some, if_pos (by simp only [List.length_nil]; omega), Option.bind_some, if_pos (by simp only [List.nil_append]; omega), Option.bind_some,
    if_pos (by simp only [List.length_nil]; omega), Option.bind_some, if_pos (by simp only [List.nil_append]; omega), List.nil_append, List.nil_append, M3, Option.bind_some]
  clear M1 M2 M3
  obtain ⟨-, m1, -⟩ := m1
  obtain ⟨-, m2, -⟩ := m2
  obtain ⟨m3w, m3, m3e⟩ := m3
  generalize makeR a x = g1 at m1 ma ⊢
  generalize makeR b y = g2 at m2 ma ⊢
  generalize makeR (a ++ b) (x ++ y) = g3 at m3 m3w m3e ma ⊢
  generalize (layR 4 (flatF a x)).1 = t1 at m1 z1 d1
  generalize (layR 4 (flatF b y)).1 = t2 at m2 z2 d2
  generalize (layR 4 (flatF a x ++ flatF b y)).1 = t3 at m3 m3w z3 d3
  obtain ⟨s, e⟩ := g1
  obtain ⟨t, f⟩ := g2
  obtain ⟨u, g⟩ := g3
  simp only at m1 m2 m3 m3w m3e ma ⊢
  by_cases e1 : e = 0
  · by_cases e2 : f = 0
    · have e3 := ma.2 ⟨e1, e2⟩
      have hw := (m3w.1 e3).2.2
      have h1 := m1 e1
      have h2 := m2 e2
      have h3 := m3 e3
      subst h1 h2 h3
      have hD : deepR u = ((tabR u).2.2, 0) := by unfold deepR; rw [if_pos hw]
      rw [size_append] at z3
      rw [if_pos e1, if_pos e2, rDeep_k hk u (by omega), Option.bind_some, hD]
      simp only
      rw [if_pos trivial, if_pos e3, if_pos trivial, if_pos (by rw [wrap64_of (x := (s.size : Int) + (t.size : Int)) (by omega) (by omega), wrap64_of (by omega) (by omega)]; omega), if_pos (by omega), if_pos (by omega), if_pos (by omega), d1, d2, d3,
        if_pos (by omega), beq_self_eq_true]
    · have e3 : ¬ g = 0 := fun h => e2 (ma.1 h).2
      rw [if_pos e1, if_neg e2, if_pos trivial, bne_iff_ne.2 e3]
  · have e3 : ¬ g = 0 := fun h => e1 (ma.1 h).1
    rw [if_neg e1, if_pos trivial, bne_iff_ne.2 e3]
theorem swaps_l1 (a b : List ByteArray) (v : ByteArray) (hab : a.length + b.length ≤ 40) (hz : sumB a + a.length + 1 + (sumB b + b.length + 1) + (v.size + 1) ≤ 1048576) : ∀ (d k i : Nat), i + d = b.length → 12 + d ≤ k →
    interchangelaw03_TableSwaps.l1 (k + 1) a b v true (List.replicate a.length v) (List.replicate i v) (i : Int) = some true := by
  intro d
  induction d with
  | zero =>
    intro k i hi hk
    obtain rfl : i = b.length := by omega
    exact swaps_end k a b v hab hz (by omega)
  | succ d ih =>
    intro k i hi hk
    obtain ⟨k, rfl⟩ : ∃ j, k = j + 1 := ⟨k - 1, by omega⟩
    have hw : wrap64 ((i : Int) + 1) = ((i + 1 : Nat) : Int) := by rw [wrap64_of (by omega) (by omega)]; omega
    rw [interchangelaw03_TableSwaps.l1, if_pos (by omega), if_pos (by rw [rep_len]; omega), rep_succ, hw]
    exact ih k (i + 1) (by omega) (by omega)
theorem swaps_l0 (a b : List ByteArray) (v : ByteArray) (hab : a.length + b.length ≤ 40) (hz : sumB a + a.length + 1 + (sumB b + b.length + 1) + (v.size + 1) ≤ 1048576) : ∀ (d k i : Nat), i + d = a.length → 100 + d ≤ k →
    interchangelaw03_TableSwaps.l0 k a b v true (List.replicate i v) (i : Int) = some true := by
  intro d
  induction d with
  | zero =>
    intro k i hi hk
    obtain rfl : i = a.length := by omega
    obtain ⟨k, rfl⟩ : ∃ j, k = j + 2 := ⟨k - 2, by omega⟩
    rw [interchangelaw03_TableSwaps.l0, if_neg (by omega)]
    exact swaps_l1 a b v hab hz b.length k 0 (by omega) (by omega)
  | succ d ih =>
    intro k i hi hk
    obtain ⟨k, rfl⟩ : ∃ j, k = j + 1 := ⟨k - 1, by omega⟩
    have hw : wrap64 ((i : Int) + 1) = ((i + 1 : Nat) : Int) := by rw [wrap64_of (by omega) (by omega)]; omega
    rw [interchangelaw03_TableSwaps.l0, if_pos (by omega), if_pos (by rw [rep_len]; omega), rep_succ, hw]
    exact ih k (i + 1) (by omega) (by omega)
theorem tableSwaps_pure (b0 b1 : List ByteArray) (b2 : ByteArray) (g0 : b0.length ≤ maxLen ∧ ∀ x ∈ b0, x.size ≤ maxLen) (g1 : b1.length ≤ maxLen ∧ ∀ x ∈ b1, x.size ≤ maxLen) (g2 : b2.size ≤ maxLen)
    (hb : (fun l => (l.map (fun a => a.size + 1)).sum + 1) b0 + (fun l => (l.map (fun a => a.size + 1)).sum + 1) b1 + (fun a => a.size + 1) b2 ≤ 1048576) : ∃ k, interchangelaw03_TableSwaps.f k b0 b1 b2 = some true := by
  have hz : ((b0.map (fun a => a.size + 1)).sum + 1) + ((b1.map (fun a => a.size + 1)).sum + 1) + (b2.size + 1) ≤ 1048576 := hb
  rw [bulk_texts, bulk_texts] at hz
  clear g0 g1 g2 hb
  obtain ⟨k, hk⟩ : ∃ k : Nat, 200 ≤ k := ⟨_, Nat.le_refl _⟩
  refine ⟨k, ?_⟩
  unfold interchangelaw03_TableSwaps.f
  rw [shown_t, Option.bind_some, wrap64_of (by omega) (by omega)]
  by_cases c : (b0.length : Int) + (b1.length : Int) > 40
  · rw [if_pos c]
  · rw [if_neg c]
    exact swaps_l0 b0 b1 b2 (by omega) hz b0.length k 0 (by omega) (by omega)
end Go.Proofs.YthdkmohelampbaaDoor.F
namespace Go.Proofs.YthdkmohelampbaaDoor.F
open Go.ChangeShapes Go.WideShapes Go.ChangeAt Go.RowKit Go.Proofs.YthdkmohelampbaaDoorW.PrintWords Go.Proofs.YthdkmohelampbaaDoorW.PrintLast
set_option linter.unusedVariables false
set_option linter.unusedSimpArgs false

set_option maxHeartbeats 2000000 in
theorem tableSwaps_contract (H : Type) (enc : TypeId × Value → H) (W : World) (base : Nat) (args : Array Value) (ds gs : List (DataW H)) (before : List MemPlace)
    (hval0 : ∀ (j : Nat) t v, Tryd.f4.params[j]? = some t → args[j]? = some v → Value.okWide Tryd.prog W .any base t v)
    (hW : DataW.Whole enc Tryd.prog Tryd.f4.params.toList Rows.tableSwapsSpec.vars false W args.toList ds gs before) (hL : laidMetH Tryd.prog Rows.tableSwapsUptoRow.laid W)
    (hk : Rows.uptoSmall H (ds ++ gs) = true) :
    Calls Tryd.prog 4 args W fun e W' => ∃ v, e = .returned v ∧ Rows.tableSwapsSpec.post enc Tryd.prog Tryd.f4 false true false false W args v W' := by
  have hW' := hW
  obtain ⟨p, q, hA0, hV, rfl, hfz, hnd⟩ := hW
  have hA : DataW.TrodAll enc Tryd.prog W 0 (fun _ => true) true Tryd.f4.params.toList args.toList ds p := hA0
  have hval : ∀ (j : Nat) t v, Tryd.f4.params[j]? = some t → args[j]? = some v → Value.okWide Tryd.prog W .any base t v := hval0
  rw [Tryd.params4] at hA hval
  obtain ⟨v0, vs0, d0, ds0, p0, q0, hargs, rfl, rfl, h0, r0⟩ := trodAll_cons hA
  obtain ⟨v1, vs1, d1, ds1, p1, q1, rfl, rfl, rfl, h1, r1⟩ := trodAll_cons r0
  obtain ⟨v2, vs2, d2, ds2, p2, q2, rfl, rfl, rfl, h2, r2⟩ := trodAll_cons r1
  obtain ⟨rfl, rfl, rfl⟩ := trodAll_nil r2
  obtain rfl : args = #[v0, v1, v2] := by cases args; simp_all
  obtain ⟨rfl, rfl⟩ := trodVars_none hV
  have hg := laid_of hL
  have k0 := h0
  have lt0 : ∀ x ∈ p0, x.block < W.heap.size := by obtain ⟨m, hm⟩ := k0; exact DataW.trod_lt m _ _ _ hm
  obtain ⟨fuel0, hf0⟩ := h0
  obtain ⟨b0, e0, g0, z0, u0⟩ := (opened_slice Tryd.underlying27 (by kernel_rfl) (opened_string Tryd.underlying9)).out enc W fuel0 _ _ hf0
  obtain ⟨A0, c0, rfl, hc0, hr0⟩ := shape_slice Tryd.underlying27 (hval 0 27 v0 rfl rfl) e0
  have k1 := h1
  have lt1 : ∀ x ∈ p1, x.block < W.heap.size := by obtain ⟨m, hm⟩ := k1; exact DataW.trod_lt m _ _ _ hm
  obtain ⟨fuel1, hf1⟩ := h1
  obtain ⟨b1, e1, g1, z1, u1⟩ := (opened_slice Tryd.underlying27 (by kernel_rfl) (opened_string Tryd.underlying9)).out enc W fuel1 _ _ hf1
  obtain ⟨A1, c1, rfl, hc1, hr1⟩ := shape_slice Tryd.underlying27 (hval 1 27 v1 rfl rfl) e1
  have k2 := h2
  have lt2 : ∀ x ∈ p2, x.block < W.heap.size := by obtain ⟨m, hm⟩ := k2; exact DataW.trod_lt m _ _ _ hm
  obtain ⟨fuel2, hf2⟩ := h2
  obtain ⟨b2, e2, g2, z2, u2⟩ := (opened_string Tryd.underlying9).out enc W fuel2 _ _ hf2
  obtain rfl := shape_string Tryd.underlying9 (hval 2 9 v2 rfl rfl) e2
  have hbulk : Rows.uptoBulk d0 + Rows.uptoBulk d1 + Rows.uptoBulk d2 ≤ 1048576 := by
    have := of_decide_eq_true hk
    simp only [List.append_nil, Rows.uptoBulkAll] at this
    omega
  have hbb : (fun l => (l.map (fun a => a.size + 1)).sum + 1) b0 + (fun l => (l.map (fun a => a.size + 1)).sum + 1) b1 + (fun a => a.size + 1) b2 ≤ 1048576 := by
    have y0 : (fun l => (l.map (fun a => a.size + 1)).sum + 1) b0 ≤ Rows.uptoBulk d0 := u0
    have y1 : (fun l => (l.map (fun a => a.size + 1)).sum + 1) b1 ≤ Rows.uptoBulk d1 := u1
    have y2 : (fun a => a.size + 1) b2 ≤ Rows.uptoBulk d2 := u2
    omega
  obtain ⟨k, hpure⟩ := tableSwaps_pure b0 b1 b2 g0 g1 g2 hbb
  refine (interchangelaw03_TableSwaps.calls k A0 c0 b0 A1 c1 b1 b2 W hg hr0 hc0 hr1 hc1 hpure).mono fun e W' ⟨he, bel⟩ => ?_
  subst he
  exact ⟨_, rfl, _, _, _, [], _, [], hW', trodAll_mk1 (shut_bool Tryd.underlying4 _), (trodAll_cons_mk (Below.trod laid_out (by kernel_rfl) (of_decide_eq_true (by kernel_rfl)) k0 bel lt0) (trodAll_cons_mk (Below.trod laid_out (by kernel_rfl) (of_decide_eq_true (by kernel_rfl)) k1 bel lt1) (trodAll_cons_mk (Below.trod laid_out (by kernel_rfl) (of_decide_eq_true (by kernel_rfl)) k2 bel lt2) trodAll_mk0))), rfl, bel.frame _, fun h => by cases h⟩

theorem tableSwaps_reads (os : Os) {H : Type} (enc : TypeId × Value → H) : ∃ places, DataW.whole enc Tryd.prog ((laid_world os).forCall (fun _ _ => 0) ⟨#[], #[.slice none 0 0, .slice none 0 0, .string ByteArray.empty], []⟩).memory Tryd.f4.params.toList Rows.tableSwapsSpec.vars false (#[.slice none 0 0, .slice none 0 0, .string ByteArray.empty] : Array Value).toList 8 = some ([.nil, .nil, .lit (.string [])], [], places) :=
  ⟨[], by kernel_rfl⟩
theorem tableSwaps_met (os : Os) : laidMet Tryd.prog Rows.tableSwapsUptoRow.laid ((laid_world os).forCall (fun _ _ => 0) ⟨#[], #[.slice none 0 0, .slice none 0 0, .string ByteArray.empty], []⟩).memory :=
  laidMet_of_run' 8 (by kernel_rfl) (by kernel_rfl)
set_option maxRecDepth 100000 in
theorem tableSwaps_lifted (os : Os) (started : os.Started) (H : Type) (enc : TypeId × Value → H) (F : Stop.Interp) :
    ReturnsInHanded {} Tryd.checked os 4 .any ((Rows.OpenSpec.upto Rows.tableSwapsSpec).preRow enc Tryd.prog Tryd.f4 Rows.tableSwapsUptoRow.domain false Rows.tableSwapsUptoRow.laid) (((Rows.OpenSpec.upto Rows.tableSwapsSpec).at F).post enc Tryd.prog Tryd.f4 false true false false) := by
  obtain ⟨places, hx⟩ := tableSwaps_reads os enc
  refine returnsInHanded_of_row (C := Tryd.checked) (s := (Rows.OpenSpec.upto Rows.tableSwapsSpec)) own_knob started (by kernel_rfl) Tryd.func4
    (witness_row_at (enc := enc) (C := Tryd.checked) false (laid_world os) #[.slice none 0 0, .slice none 0 0, .string ByteArray.empty] rfl (by kernel_rfl) (by kernel_rfl) (by kernel_rfl)
      (OpenSpec.preRow_of_cond 8 hx (by kernel_rfl) (fun k hk => by cases hk; kernel_rfl) (by kernel_rfl) (tableSwaps_met os))) ?_
  intro W base args ds gs before hval hW _ hcond hsz hL _ _
  exact tableSwaps_contract H enc W base args ds gs before hval hW hL (hcond _ rfl)
theorem tableSwaps_said : Rows.TableSwapsUptoSaid :=
  OpenClaim.holds_of_cond 4 Tryd.f4 rfl rfl rfl rfl rfl rfl rfl ⟨rfl, rfl, rfl, rfl, rfl⟩ rfl rfl rfl rfl rfl (by kernel_rfl) Tryd.func4 (by kernel_rfl)
    (of_decide_eq_true (by kernel_rfl)) (by unfold Func.isWrapper; first | (rw [if_pos (by decide +kernel)]; kernel_rfl) | (rw [if_neg (by decide +kernel)]; exact ⟨rfl, rfl⟩))
    (fun os started H enc _ F => by rw [OpenClaim.pre_eq_preRow]; exact tableSwaps_lifted os started H enc F)
theorem tableSwaps_plain (f : FuncId) (fn : Func) (hf : Tryd.pinned.checked.prog.funcNamed "interchange/interchangelaw03.TableSwaps" = some f) (hfn : Tryd.pinned.checked.prog.funcs[f]? = some fn) :
    false = Tryd.pinned.checked.prog.looks [] ∧ ∀ (j : Nat) t, fn.params[j]? = some t → Tryd.pinned.checked.prog.wantsStandIn t = false := by
  obtain rfl : f = 4 := Option.some.inj ((show Tryd.prog.funcNamed "interchange/interchangelaw03.TableSwaps" = some 4 by kernel_rfl).symm.trans hf) |>.symm
  obtain rfl : fn = Tryd.f4 := (Option.some.inj (Tryd.func4.symm.trans hfn)).symm
  refine ⟨by kernel_rfl, fun j t ht => ?_⟩
  rw [Tryd.params4] at ht
  have hm := Array.mem_of_getElem? ht
  simp only [List.mem_toArray, List.mem_cons, List.not_mem_nil, or_false] at hm
  rcases hm with rfl | rfl | rfl
  · exact (show Tryd.prog.wantsStandIn 27 = false by kernel_rfl)
  · exact (show Tryd.prog.wantsStandIn 27 = false by kernel_rfl)
  · exact (show Tryd.prog.wantsStandIn 9 = false by kernel_rfl)
theorem tableSwaps_holds : Rows.TableSwapsUptoCardSaid :=
  Claim7.holds_tied_plain_at .later [] _ _ _ _ tableSwaps_said (fun _ h => by cases h) (by kernel_rfl) (fun _ h => by cases h) tableSwapsUpto_row_tie rfl ⟨rfl, rfl⟩ (by kernel_rfl) rfl tableSwaps_plain (by kernel_rfl)
#print axioms tableSwaps_holds
end Go.Proofs.YthdkmohelampbaaDoor.F
