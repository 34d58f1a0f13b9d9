/- Texts of this session for the law TableBack, one behind the other: interchangelaw03TableBack, Hopen, Hlaid. -/
import Derived.Test.YthdkmohelampbaaDoorRows
import Derived.SizedLaws
import Derived.ProofKit
import Derived.OpenShut
import Derived.Deep.Slices
import Derived.Lib.LaidTab
import Derived.Deep.DeepHandedRow
import Derived.Test.YthdkmohelampbaaDoorBTableBacka
import Derived.Test.YthdkmohelampbaaDoorBTableBackb
namespace Go.Proofs.YthdkmohelampbaaDoor.F
open Go.RowKit Go.Proofs.YthdkmohelampbaaDoorW.PrintWords Go.Proofs.YthdkmohelampbaaDoorW.PrintLast Go.Proofs.YthdkmohelampbaaDoorW.PrintMore
attribute [local go_sem] max2_int min2_int max_two min_two max_three min_three max_four min_four
set_option linter.unusedVariables false
set_option linter.unusedSimpArgs false

/-! ### interchangelaw03_TableBack: function 7 -/
mutual
def interchangelaw03_TableBack.j0 : Nat → List ByteArray → List ByteArray → Int → Bool → ByteArray → Bool → Option (Bool)
  | 0, _, _, _, _, _, _ => none
  | k + 1, x3, x4, x6, x7, x8, x80 => if x80 = true then (some false) else (if x6 < 0 then (interchangelaw03_TableBack.j1 k x3 x4 x6 x7 x8 true) else (if x6 ≥ (x3.length : Int) then (interchangelaw03_TableBack.j1 k x3 x4 x6 x7 x8 true) else (interchangelaw03_TableBack.j1 k x3 x4 x6 x7 x8 ((x4.length : Int) != (x3.length : Int)))))
def interchangelaw03_TableBack.j1 : Nat → List ByteArray → List ByteArray → Int → Bool → ByteArray → Bool → Option (Bool)
  | 0, _, _, _, _, _, _ => none
  | k + 1, x3, x4, x6, x7, x8, x95 => if x95 = true then (if x7 = true then (some ((x4.length : Int) == (x3.length : Int))) else (some false)) else (interchangelaw03_TableBack.l0 k x3 x4 x6 x7 x8 0)
def interchangelaw03_TableBack.l0 : Nat → List ByteArray → List ByteArray → Int → Bool → ByteArray → Int → Option (Bool)
  | 0, _, _, _, _, _, _ => none
  | k + 1, x3, x4, x6, x7, x8, x16 => if x16 < x6 then (if 0 ≤ x16 then (if x16 < (x3.length : Int) then (if 0 ≤ x6 then (if x6 < (x3.length : Int) then (if (rdOf ByteArray.empty x3 x16).toList = (rdOf ByteArray.empty x3 x6).toList then (some x7) else (interchangelaw03_TableBack.l0 k x3 x4 x6 x7 x8 (wrap64 (x16 + 1)))) else (none)) else (none)) else (none)) else (none)) else (if 0 ≤ x6 then (if x6 < (x3.length : Int) then ((table_Find.f x8 (rdOf ByteArray.empty x3 x6)).bind fun bt221 => (if x7 = true then (if bt221.2 = true then (if x6 < (x4.length : Int) then (some (bt221.1.toList == (rdOf ByteArray.empty x4 x6).toList)) else (none)) else (some false)) else (some false))) else (none)) else (none))
end
def interchangelaw03_TableBack.f (k : Nat) (l0_0 : List ByteArray) (l0_1 : List ByteArray) (a0_2 : ByteArray) (a0_3 : Int) : Option (Bool) := (interchangelaw03_shown.f).bind fun t207 => (if (l0_0.length : Int) > 60 then (some t207) else ((table_Make.f l0_0 l0_1).bind fun bt208 => (if bt208.2 = 0 then (if bt208.1.size + a0_2.size ≤ 9223372036854775807 then ((table_Take.f (bt208.1 ++ a0_2)).bind fun bt210 => ((table_Keys.f bt208.1).bind fun bt213 => ((interchangeref02_Strings.f k bt213.1 l0_0).bind fun t217 => (if bt210.2.2 = 0 then (if bt210.1.toList = bt208.1.toList then (if bt210.2.1.toList = a0_2.toList then (if bt213.2 = 0 then (interchangelaw03_TableBack.j0 k l0_0 l0_1 a0_3 t207 bt208.1 (!t217)) else (interchangelaw03_TableBack.j0 k l0_0 l0_1 a0_3 t207 bt208.1 true)) else (interchangelaw03_TableBack.j0 k l0_0 l0_1 a0_3 t207 bt208.1 true)) else (interchangelaw03_TableBack.j0 k l0_0 l0_1 a0_3 t207 bt208.1 true)) else (interchangelaw03_TableBack.j0 k l0_0 l0_1 a0_3 t207 bt208.1 true))))) else (none)) else (if t207 = true then (some (bt208.1.toList == ([] : List UInt8))) else (some false)))))
theorem interchangelaw03_TableBack.mono_l : ∀ k, (∀ y0 y1 y2 y3 y4 y5, LeO (interchangelaw03_TableBack.j0 k y0 y1 y2 y3 y4 y5) (interchangelaw03_TableBack.j0 (k + 1) y0 y1 y2 y3 y4 y5)) ∧ (∀ y0 y1 y2 y3 y4 y5, LeO (interchangelaw03_TableBack.j1 k y0 y1 y2 y3 y4 y5) (interchangelaw03_TableBack.j1 (k + 1) y0 y1 y2 y3 y4 y5)) ∧ (∀ y0 y1 y2 y3 y4 y5, LeO (interchangelaw03_TableBack.l0 k y0 y1 y2 y3 y4 y5) (interchangelaw03_TableBack.l0 (k + 1) y0 y1 y2 y3 y4 y5))
  | 0 => ⟨fun _ _ _ _ _ _ r h => by simp [interchangelaw03_TableBack.j0] at h, fun _ _ _ _ _ _ r h => by simp [interchangelaw03_TableBack.j1] at h, fun _ _ _ _ _ _ r h => by simp [interchangelaw03_TableBack.l0] at h⟩
  | k + 1 => by
    obtain ⟨ih0, ih1, ih2⟩ := interchangelaw03_TableBack.mono_l k
    refine ⟨?_, ?_, ?_⟩
    · intro y0 y1 y2 y3 y4 y5
      unfold interchangelaw03_TableBack.j0
      repeat' first
      | (with_reducible exact ih0 _ _ _ _ _ _)
      | (with_reducible exact ih1 _ _ _ _ _ _)
      | (with_reducible exact ih2 _ _ _ _ _ _)
      | (with_reducible exact interchangeref02_Strings.mono _ _ _)
      | (with_reducible exact LeO.refl _)
      | (with_reducible exact LeO.none _)
      | (with_reducible refine LeO.ite ?_ ?_)
      | (with_reducible refine LeO.bind ?_ (fun _ => ?_))
      | exact ih0 _ _ _ _ _ _
      | exact ih1 _ _ _ _ _ _
      | exact ih2 _ _ _ _ _ _
      | exact interchangeref02_Strings.mono _ _ _
      | exact LeO.none _
      | refine LeO.ite ?_ ?_
      | refine LeO.bind ?_ (fun _ => ?_)
    · intro y0 y1 y2 y3 y4 y5
      unfold interchangelaw03_TableBack.j1
      repeat' first
      | (with_reducible exact ih0 _ _ _ _ _ _)
      | (with_reducible exact ih1 _ _ _ _ _ _)
      | (with_reducible exact ih2 _ _ _ _ _ _)
      | (with_reducible exact interchangeref02_Strings.mono _ _ _)
      | (with_reducible exact LeO.refl _)
      | (with_reducible exact LeO.none _)
      | (with_reducible refine LeO.ite ?_ ?_)
      | (with_reducible refine LeO.bind ?_ (fun _ => ?_))
      | exact ih0 _ _ _ _ _ _
      | exact ih1 _ _ _ _ _ _
      | exact ih2 _ _ _ _ _ _
      | exact interchangeref02_Strings.mono _ _ _
      | exact LeO.none _
      | refine LeO.ite ?_ ?_
      | refine LeO.bind ?_ (fun _ => ?_)
    · intro y0 y1 y2 y3 y4 y5
      unfold interchangelaw03_TableBack.l0
      repeat' first
      | (with_reducible exact ih0 _ _ _ _ _ _)
      | (with_reducible exact ih1 _ _ _ _ _ _)
      | (with_reducible exact ih2 _ _ _ _ _ _)
      | (with_reducible exact interchangeref02_Strings.mono _ _ _)
      | (with_reducible exact LeO.refl _)
      | (with_reducible exact LeO.none _)
      | (with_reducible refine LeO.ite ?_ ?_)
      | (with_reducible refine LeO.bind ?_ (fun _ => ?_))
      | exact ih0 _ _ _ _ _ _
      | exact ih1 _ _ _ _ _ _
      | exact ih2 _ _ _ _ _ _
      | exact interchangeref02_Strings.mono _ _ _
      | exact LeO.none _
      | refine LeO.ite ?_ ?_
      | refine LeO.bind ?_ (fun _ => ?_)
theorem interchangelaw03_TableBack.mono : ∀ a0 a1 a2 a3 k, LeO (interchangelaw03_TableBack.f k a0 a1 a2 a3) (interchangelaw03_TableBack.f (k + 1) a0 a1 a2 a3) := by
  intro a0 a1 a2 a3 k
  obtain ⟨ih0, ih1, ih2⟩ := interchangelaw03_TableBack.mono_l k
  unfold interchangelaw03_TableBack.f
  repeat' first
      | (with_reducible exact ih0 _ _ _ _ _ _)
      | (with_reducible exact ih1 _ _ _ _ _ _)
      | (with_reducible exact ih2 _ _ _ _ _ _)
      | (with_reducible exact interchangeref02_Strings.mono _ _ _)
      | (with_reducible exact LeO.refl _)
      | (with_reducible exact LeO.none _)
      | (with_reducible refine LeO.ite ?_ ?_)
      | (with_reducible refine LeO.bind ?_ (fun _ => ?_))
      | exact ih0 _ _ _ _ _ _
      | exact ih1 _ _ _ _ _ _
      | exact ih2 _ _ _ _ _ _
      | exact interchangeref02_Strings.mono _ _ _
      | exact LeO.none _
      | refine LeO.ite ?_ ?_
      | refine LeO.bind ?_ (fun _ => ?_)
set_option maxHeartbeats 8000000 in
set_option maxRecDepth 100000 in
theorem interchangelaw03_TableBack.calls (k : Nat) (A0_0 : Option Addr) (c0_0 : Nat) (l0_0 : List ByteArray) (A0_1 : Option Addr) (c0_1 : Nat) (l0_1 : List ByteArray) (a0_2 : ByteArray) (a0_3 : Int) (w : World) (hg : Laid w) (hr0_0 : Kd.C Kd.string w A0_0 l0_0.length l0_0) (hc0_0 : l0_0.length ≤ c0_0) (hr0_1 : Kd.C Kd.string w A0_1 l0_1.length l0_1) (hc0_1 : l0_1.length ≤ c0_1) (h : interchangelaw03_TableBack.f k l0_0 l0_1 a0_2 a0_3 = some true) :
    Calls Tryd.prog 7 #[.agg #[.slice A0_0 l0_0.length c0_0, .slice A0_1 l0_1.length c0_1, .string a0_2, .int .i64 a0_3]] w fun e w' => e = .returned (.bool true) ∧ Below w.heap.size w w' := by
  have HG := Aside0.mk hg
  clear hg
  have hu39 := Tryd.underlying39
  have HR0_0 := Aside0.mk hr0_0
  have HC0_0 := Aside0.mk hc0_0
  clear hr0_0 hc0_0
  have HR0_1 := Aside0.mk hr0_1
  have HC0_1 := Aside0.mk hc0_1
  clear hr0_1 hc0_1
  have HB := Aside0.mk (Below.refl w.heap.size w)
  have H : ((interchangelaw03_shown.f).bind fun t207 => (if (l0_0.length : Int) > 60 then (some t207) else ((table_Make.f l0_0 l0_1).bind fun bt208 => (if bt208.2 = 0 then (if bt208.1.size + a0_2.size ≤ 9223372036854775807 then ((table_Take.f (bt208.1 ++ a0_2)).bind fun bt210 => ((table_Keys.f bt208.1).bind fun bt213 => ((interchangeref02_Strings.f k bt213.1 l0_0).bind fun t217 => (if bt210.2.2 = 0 then (if bt210.1.toList = bt208.1.toList then (if bt210.2.1.toList = a0_2.toList then (if bt213.2 = 0 then (interchangelaw03_TableBack.j0 k l0_0 l0_1 a0_3 t207 bt208.1 (!t217)) else (interchangelaw03_TableBack.j0 k l0_0 l0_1 a0_3 t207 bt208.1 true)) else (interchangelaw03_TableBack.j0 k l0_0 l0_1 a0_3 t207 bt208.1 true)) else (interchangelaw03_TableBack.j0 k l0_0 l0_1 a0_3 t207 bt208.1 true)) else (interchangelaw03_TableBack.j0 k l0_0 l0_1 a0_3 t207 bt208.1 true))))) else (none)) else (if t207 = true then (some (bt208.1.toList == ([] : List UInt8))) else (some false)))))) = some true := h
  clear h
  replace H := Option.bind_eq_some_iff.mp H
  obtain ⟨t207, A20, H⟩ := H
  replace H : (if (l0_0.length : Int) > 60 then (some t207) else ((table_Make.f l0_0 l0_1).bind fun bt208 => (if bt208.2 = 0 then (if bt208.1.size + a0_2.size ≤ 9223372036854775807 then ((table_Take.f (bt208.1 ++ a0_2)).bind fun bt210 => ((table_Keys.f bt208.1).bind fun bt213 => ((interchangeref02_Strings.f k bt213.1 l0_0).bind fun t217 => (if bt210.2.2 = 0 then (if bt210.1.toList = bt208.1.toList then (if bt210.2.1.toList = a0_2.toList then (if bt213.2 = 0 then (interchangelaw03_TableBack.j0 k l0_0 l0_1 a0_3 t207 bt208.1 (!t217)) else (interchangelaw03_TableBack.j0 k l0_0 l0_1 a0_3 t207 bt208.1 true)) else (interchangelaw03_TableBack.j0 k l0_0 l0_1 a0_3 t207 bt208.1 true)) else (interchangelaw03_TableBack.j0 k l0_0 l0_1 a0_3 t207 bt208.1 true)) else (interchangelaw03_TableBack.j0 k l0_0 l0_1 a0_3 t207 bt208.1 true))))) else (none)) else (if t207 = true then (some (bt208.1.toList == ([] : List UInt8))) else (some false))))) = some true := H
  have A2 := Aside0.mk A20
  clear A20
  by_cases c3 : (l0_0.length : Int) > 60
  · rw [if_pos c3] at H
    have c3b0 : decide (60 < (l0_0.length : Int)) = true := decide_eq_true c3
    have c3b1 : decide (60 < l0_0.length) = true := decide_eq_true (by omega)
    clear c3
    have HR_ := Aside0.mk (Option.some.inj H)
    clear H
    go_enter Tryd.func7, Tryd.ntmps7
    go_wp2_with (first | ((with_reducible refine gate_dst (N := 1) rfl ?_); refine box_event ?hg (N := 1) ?hd (cs := #[.slice A0_0 l0_0.length c0_0, .slice A0_1 l0_1.length c0_1, .string a0_2, .int .i64 a0_3]) (t := 39) ?hr ?_; (case hd => rfl); (case hg => rfl); (case hr => first | (go_simp; done) | (go_simp; rfl)); intro gb206 hg w4 hbox hb; have n0_ := Aside0.mk (below_step (by repeat (first | (with_reducible first | exact HB.out | apply below_alloc | apply pw_below_drewN | apply below_drew1) | exact HB.out)) hb); have n1_ := Aside0.mk (hbox); have n2_ := Aside0.mk ((by rw [hg]; exact (below_size (by repeat (first | (with_reducible first | exact HB.out | apply below_alloc | apply pw_below_drewN | apply below_drew1) | exact HB.out))) : w.heap.size ≤ gb206)); have n3_ := Aside0.mk ((by rw [hg]; exact (below_size (by repeat (first | (with_reducible first | exact HB.out | apply below_alloc | apply pw_below_drewN | apply below_drew1) | exact HB.out))) : w.heap.size ≤ gb206)); clear HB; have HB := n0_; have BK206 := n1_; have GW206 := n2_; have GE206 := n3_; clear n0_ n1_ n2_ n3_; clear hb hbox hg; have hcz5_0 : w4.cell? ⟨gb206, 0, none⟩ = some (.slice A0_0 l0_0.length c0_0) := (blk_cell BK206.out 0).trans rfl; have hcz5_1 : w4.cell? ⟨gb206, 1, none⟩ = some (.slice A0_1 l0_1.length c0_1) := (blk_cell BK206.out 1).trans rfl; have hcz5_2 : w4.cell? ⟨gb206, 2, none⟩ = some (.string a0_2) := (blk_cell BK206.out 2).trans rfl; have hcz5_3 : w4.cell? ⟨gb206, 3, none⟩ = some (.int .i64 a0_3) := (blk_cell BK206.out 3).trans rfl; have hfz5_0 := blk_frozen BK206.out 0; have hfz5_1 := blk_frozen BK206.out 1; have hfz5_2 := blk_frozen BK206.out 2; have hfz5_3 := blk_frozen BK206.out 3) | (go_at_call 10; (with_reducible refine (interchangelaw03_shown.calls t207 _ ?lg A2.out).mono ?_); (case lg => exact (HG.out.below (by repeat (first | (with_reducible first | exact HB.out | apply below_alloc | apply pw_below_drewN | apply below_drew1 | refine below_set ?_ GE206.out) | exact HB.out)))); rintro e w6 ⟨rfl, hb⟩; have n0_ := Aside0.mk (blk_below (g := gb206) (o := .cells #[.slice A0_0 l0_0.length c0_0, .slice A0_1 l0_1.length c0_1, .string a0_2, .int .i64 a0_3] 39 (0, 0)) (by (with_reducible repeat (first | refine blk_drewN ?_ _ | refine blk_drew ?_ | refine blk_alloc ?_ _)); exact BK206.out) hb); have n1_ := Aside0.mk (below_step (by repeat (first | (with_reducible first | exact HB.out | apply below_alloc | apply pw_below_drewN | apply below_drew1 | refine below_set ?_ GE206.out) | exact HB.out)) hb); clear BK206; clear HB; have BK206 := n0_; have HB := n1_; clear n0_ n1_; (try clear hb); (try clear hb2); (try clear hk); (try clear hi)))
    repeat (go_quiet (first | ((with_reducible refine gate_dst (N := 1) rfl ?_); refine box_event ?hg (N := 1) ?hd (cs := #[.slice A0_0 l0_0.length c0_0, .slice A0_1 l0_1.length c0_1, .string a0_2, .int .i64 a0_3]) (t := 39) ?hr ?_; (case hd => rfl); (case hg => rfl); (case hr => first | (go_simp; done) | (go_simp; rfl)); intro gb206 hg w4 hbox hb; have n0_ := Aside0.mk (below_step (by repeat (first | (with_reducible first | exact HB.out | apply below_alloc | apply pw_below_drewN | apply below_drew1) | exact HB.out)) hb); have n1_ := Aside0.mk (hbox); have n2_ := Aside0.mk ((by rw [hg]; exact (below_size (by repeat (first | (with_reducible first | exact HB.out | apply below_alloc | apply pw_below_drewN | apply below_drew1) | exact HB.out))) : w.heap.size ≤ gb206)); have n3_ := Aside0.mk ((by rw [hg]; exact (below_size (by repeat (first | (with_reducible first | exact HB.out | apply below_alloc | apply pw_below_drewN | apply below_drew1) | exact HB.out))) : w.heap.size ≤ gb206)); clear HB; have HB := n0_; have BK206 := n1_; have GW206 := n2_; have GE206 := n3_; clear n0_ n1_ n2_ n3_; clear hb hbox hg; have hcz5_0 : w4.cell? ⟨gb206, 0, none⟩ = some (.slice A0_0 l0_0.length c0_0) := (blk_cell BK206.out 0).trans rfl; have hcz5_1 : w4.cell? ⟨gb206, 1, none⟩ = some (.slice A0_1 l0_1.length c0_1) := (blk_cell BK206.out 1).trans rfl; have hcz5_2 : w4.cell? ⟨gb206, 2, none⟩ = some (.string a0_2) := (blk_cell BK206.out 2).trans rfl; have hcz5_3 : w4.cell? ⟨gb206, 3, none⟩ = some (.int .i64 a0_3) := (blk_cell BK206.out 3).trans rfl; have hfz5_0 := blk_frozen BK206.out 0; have hfz5_1 := blk_frozen BK206.out 1; have hfz5_2 := blk_frozen BK206.out 2; have hfz5_3 := blk_frozen BK206.out 3) | (go_at_call 10; (with_reducible refine (interchangelaw03_shown.calls t207 _ ?lg A2.out).mono ?_); (case lg => exact (HG.out.below (by repeat (first | (with_reducible first | exact HB.out | apply below_alloc | apply pw_below_drewN | apply below_drew1 | refine below_set ?_ GE206.out) | exact HB.out)))); rintro e w6 ⟨rfl, hb⟩; have n0_ := Aside0.mk (blk_below (g := gb206) (o := .cells #[.slice A0_0 l0_0.length c0_0, .slice A0_1 l0_1.length c0_1, .string a0_2, .int .i64 a0_3] 39 (0, 0)) (by (with_reducible repeat (first | refine blk_drewN ?_ _ | refine blk_drew ?_ | refine blk_alloc ?_ _)); exact BK206.out) hb); have n1_ := Aside0.mk (below_step (by repeat (first | (with_reducible first | exact HB.out | apply below_alloc | apply pw_below_drewN | apply below_drew1 | refine below_set ?_ GE206.out) | exact HB.out)) hb); clear BK206; clear HB; have BK206 := n0_; have HB := n1_; clear n0_ n1_; (try clear hb); (try clear hb2); (try clear hk); (try clear hi))); try go_wp2_with (first | ((with_reducible refine gate_dst (N := 1) rfl ?_); refine box_event ?hg (N := 1) ?hd (cs := #[.slice A0_0 l0_0.length c0_0, .slice A0_1 l0_1.length c0_1, .string a0_2, .int .i64 a0_3]) (t := 39) ?hr ?_; (case hd => rfl); (case hg => rfl); (case hr => first | (go_simp; done) | (go_simp; rfl)); intro gb206 hg w4 hbox hb; have n0_ := Aside0.mk (below_step (by repeat (first | (with_reducible first | exact HB.out | apply below_alloc | apply pw_below_drewN | apply below_drew1) | exact HB.out)) hb); have n1_ := Aside0.mk (hbox); have n2_ := Aside0.mk ((by rw [hg]; exact (below_size (by repeat (first | (with_reducible first | exact HB.out | apply below_alloc | apply pw_below_drewN | apply below_drew1) | exact HB.out))) : w.heap.size ≤ gb206)); have n3_ := Aside0.mk ((by rw [hg]; exact (below_size (by repeat (first | (with_reducible first | exact HB.out | apply below_alloc | apply pw_below_drewN | apply below_drew1) | exact HB.out))) : w.heap.size ≤ gb206)); clear HB; have HB := n0_; have BK206 := n1_; have GW206 := n2_; have GE206 := n3_; clear n0_ n1_ n2_ n3_; clear hb hbox hg; have hcz5_0 : w4.cell? ⟨gb206, 0, none⟩ = some (.slice A0_0 l0_0.length c0_0) := (blk_cell BK206.out 0).trans rfl; have hcz5_1 : w4.cell? ⟨gb206, 1, none⟩ = some (.slice A0_1 l0_1.length c0_1) := (blk_cell BK206.out 1).trans rfl; have hcz5_2 : w4.cell? ⟨gb206, 2, none⟩ = some (.string a0_2) := (blk_cell BK206.out 2).trans rfl; have hcz5_3 : w4.cell? ⟨gb206, 3, none⟩ = some (.int .i64 a0_3) := (blk_cell BK206.out 3).trans rfl; have hfz5_0 := blk_frozen BK206.out 0; have hfz5_1 := blk_frozen BK206.out 1; have hfz5_2 := blk_frozen BK206.out 2; have hfz5_3 := blk_frozen BK206.out 3) | (go_at_call 10; (with_reducible refine (interchangelaw03_shown.calls t207 _ ?lg A2.out).mono ?_); (case lg => exact (HG.out.below (by repeat (first | (with_reducible first | exact HB.out | apply below_alloc | apply pw_below_drewN | apply below_drew1 | refine below_set ?_ GE206.out) | exact HB.out)))); rintro e w6 ⟨rfl, hb⟩; have n0_ := Aside0.mk (blk_below (g := gb206) (o := .cells #[.slice A0_0 l0_0.length c0_0, .slice A0_1 l0_1.length c0_1, .string a0_2, .int .i64 a0_3] 39 (0, 0)) (by (with_reducible repeat (first | refine blk_drewN ?_ _ | refine blk_drew ?_ | refine blk_alloc ?_ _)); exact BK206.out) hb); have n1_ := Aside0.mk (below_step (by repeat (first | (with_reducible first | exact HB.out | apply below_alloc | apply pw_below_drewN | apply below_drew1 | refine below_set ?_ GE206.out) | exact HB.out)) hb); clear BK206; clear HB; have BK206 := n0_; have HB := n1_; clear n0_ n1_; (try clear hb); (try clear hb2); (try clear hk); (try clear hi))))
    go_ret
    exact ⟨by have HR0_ := HR_.out; first | exact congrArg (fun b_ => Ending.returned (Value.bool b_)) HR0_ | (simpa using HR0_) | rfl | (simp [errW_none, errW_some] <;> rfl) | (simp [*, errW_none, errW_some] <;> rfl), by repeat (first | (with_reducible first | exact HB.out | apply below_alloc | apply pw_below_drewN | apply below_drew1 | refine below_set ?_ GE206.out) | exact HB.out)⟩
  · rw [if_neg c3] at H
    have c3b0 : decide (60 < (l0_0.length : Int)) = false := decide_eq_false c3
    have c3b1 : decide (60 < l0_0.length) = false := decide_eq_false (by omega)
    clear c3
    replace H := Option.bind_eq_some_iff.mp H
    obtain ⟨⟨t208, t209⟩, A70, H⟩ := H
    replace H : (if t209 = 0 then (if t208.size + a0_2.size ≤ 9223372036854775807 then ((table_Take.f (t208 ++ a0_2)).bind fun bt210 => ((table_Keys.f t208).bind fun bt213 => ((interchangeref02_Strings.f k bt213.1 l0_0).bind fun t217 => (if bt210.2.2 = 0 then (if bt210.1.toList = t208.toList then (if bt210.2.1.toList = a0_2.toList then (if bt213.2 = 0 then (interchangelaw03_TableBack.j0 k l0_0 l0_1 a0_3 t207 t208 (!t217)) else (interchangelaw03_TableBack.j0 k l0_0 l0_1 a0_3 t207 t208 true)) else (interchangelaw03_TableBack.j0 k l0_0 l0_1 a0_3 t207 t208 true)) else (interchangelaw03_TableBack.j0 k l0_0 l0_1 a0_3 t207 t208 true)) else (interchangelaw03_TableBack.j0 k l0_0 l0_1 a0_3 t207 t208 true))))) else (none)) else (if t207 = true then (some (t208.toList == ([] : List UInt8))) else (some false))) = some true := H
    have A7 := Aside0.mk A70
    clear A70
    by_cases c8 : t209 = 0
    · rw [if_pos c8] at H
      have c8b0 : (t209 == 0) = true := beq_iff_eq.mpr c8
      have c8b1 : (t209 != 0) = false := bne_eq_false_iff_eq.mpr c8
      clear c8
      by_cases c9 : t208.size + a0_2.size ≤ 9223372036854775807
      · rw [if_pos c9] at H
        have c9b0 := eq_true c9
        have c9b1 : decide (t208.size + a0_2.size ≤ 9223372036854775807) = true := decide_eq_true c9
        try have c9b2 : (9223372036854775807 < t208.size + a0_2.size) = False := eq_false (Nat.not_lt.2 c9)
        replace H := Option.bind_eq_some_iff.mp H
        obtain ⟨⟨t210, t211, t212⟩, A100, H⟩ := H
        replace H : ((table_Keys.f t208).bind fun bt213 => ((interchangeref02_Strings.f k bt213.1 l0_0).bind fun t217 => (if t212 = 0 then (if t210.toList = t208.toList then (if t211.toList = a0_2.toList then (if bt213.2 = 0 then (interchangelaw03_TableBack.j0 k l0_0 l0_1 a0_3 t207 t208 (!t217)) else (interchangelaw03_TableBack.j0 k l0_0 l0_1 a0_3 t207 t208 true)) else (interchangelaw03_TableBack.j0 k l0_0 l0_1 a0_3 t207 t208 true)) else (interchangelaw03_TableBack.j0 k l0_0 l0_1 a0_3 t207 t208 true)) else (interchangelaw03_TableBack.j0 k l0_0 l0_1 a0_3 t207 t208 true)))) = some true := H
        have A10 := Aside0.mk A100
        clear A100
        replace H := Option.bind_eq_some_iff.mp H
        obtain ⟨⟨t213, t214⟩, A110, H⟩ := H
        replace H : ((interchangeref02_Strings.f k t213 l0_0).bind fun t217 => (if t212 = 0 then (if t210.toList = t208.toList then (if t211.toList = a0_2.toList then (if t214 = 0 then (interchangelaw03_TableBack.j0 k l0_0 l0_1 a0_3 t207 t208 (!t217)) else (interchangelaw03_TableBack.j0 k l0_0 l0_1 a0_3 t207 t208 true)) else (interchangelaw03_TableBack.j0 k l0_0 l0_1 a0_3 t207 t208 true)) else (interchangelaw03_TableBack.j0 k l0_0 l0_1 a0_3 t207 t208 true)) else (interchangelaw03_TableBack.j0 k l0_0 l0_1 a0_3 t207 t208 true))) = some true := H
        have A11 := Aside0.mk A110
        clear A110
        replace H := Option.bind_eq_some_iff.mp H
        obtain ⟨t217, A120, H⟩ := H
        replace H : (if t212 = 0 then (if t210.toList = t208.toList then (if t211.toList = a0_2.toList then (if t214 = 0 then (interchangelaw03_TableBack.j0 k l0_0 l0_1 a0_3 t207 t208 (!t217)) else (interchangelaw03_TableBack.j0 k l0_0 l0_1 a0_3 t207 t208 true)) else (interchangelaw03_TableBack.j0 k l0_0 l0_1 a0_3 t207 t208 true)) else (interchangelaw03_TableBack.j0 k l0_0 l0_1 a0_3 t207 t208 true)) else (interchangelaw03_TableBack.j0 k l0_0 l0_1 a0_3 t207 t208 true)) = some true := H
        have A12 := Aside0.mk A120
        clear A120
        have HC13 := Aside0.mk H
        clear H
        go_enter Tryd.func7, Tryd.ntmps7
        go_upto_region 14 with (first | ((with_reducible refine gate_dst (N := 1) rfl ?_); refine box_event ?hg (N := 1) ?hd (cs := #[.slice A0_0 l0_0.length c0_0, .slice A0_1 l0_1.length c0_1, .string a0_2, .int .i64 a0_3]) (t := 39) ?hr ?_; (case hd => rfl); (case hg => rfl); (case hr => first | (go_simp; done) | (go_simp; rfl)); intro gb206 hg w14 hbox hb; have n0_ := Aside0.mk (below_step (by repeat (first | (with_reducible first | exact HB.out | apply below_alloc | apply pw_below_drewN | apply below_drew1) | exact HB.out)) hb); have n1_ := Aside0.mk (hbox); have n2_ := Aside0.mk ((by rw [hg]; exact (below_size (by repeat (first | (with_reducible first | exact HB.out | apply below_alloc | apply pw_below_drewN | apply below_drew1) | exact HB.out))) : w.heap.size ≤ gb206)); have n3_ := Aside0.mk ((by rw [hg]; exact (below_size (by repeat (first | (with_reducible first | exact HB.out | apply below_alloc | apply pw_below_drewN | apply below_drew1) | exact HB.out))) : w.heap.size ≤ gb206)); clear HB; have HB := n0_; have BK206 := n1_; have GW206 := n2_; have GE206 := n3_; clear n0_ n1_ n2_ n3_; clear hb hbox hg; have hcz15_0 : w14.cell? ⟨gb206, 0, none⟩ = some (.slice A0_0 l0_0.length c0_0) := (blk_cell BK206.out 0).trans rfl; have hcz15_1 : w14.cell? ⟨gb206, 1, none⟩ = some (.slice A0_1 l0_1.length c0_1) := (blk_cell BK206.out 1).trans rfl; have hcz15_2 : w14.cell? ⟨gb206, 2, none⟩ = some (.string a0_2) := (blk_cell BK206.out 2).trans rfl; have hcz15_3 : w14.cell? ⟨gb206, 3, none⟩ = some (.int .i64 a0_3) := (blk_cell BK206.out 3).trans rfl; have hfz15_0 := blk_frozen BK206.out 0; have hfz15_1 := blk_frozen BK206.out 1; have hfz15_2 := blk_frozen BK206.out 2; have hfz15_3 := blk_frozen BK206.out 3) | (go_at_call 10; (with_reducible refine (interchangelaw03_shown.calls t207 _ ?lg A2.out).mono ?_); (case lg => exact (HG.out.below (by repeat (first | (with_reducible first | exact HB.out | apply below_alloc | apply pw_below_drewN | apply below_drew1 | refine below_set ?_ GE206.out) | exact HB.out)))); rintro e w16 ⟨rfl, hb⟩; have n0_ := Aside0.mk (blk_below (g := gb206) (o := .cells #[.slice A0_0 l0_0.length c0_0, .slice A0_1 l0_1.length c0_1, .string a0_2, .int .i64 a0_3] 39 (0, 0)) (by (with_reducible repeat (first | refine blk_drewN ?_ _ | refine blk_drew ?_ | refine blk_alloc ?_ _)); exact BK206.out) hb); have n1_ := Aside0.mk (below_step (by repeat (first | (with_reducible first | exact HB.out | apply below_alloc | apply pw_below_drewN | apply below_drew1 | refine below_set ?_ GE206.out) | exact HB.out)) hb); clear BK206; clear HB; have BK206 := n0_; have HB := n1_; clear n0_ n1_; (try clear hb); (try clear hb2); (try clear hk); (try clear hi)) | (go_at_call 12; (with_reducible refine (table_Make.calls _ _ l0_0 _ _ l0_1 t208 t209 _ ?lg ?side1 ?side2 ?side3 ?side4 A7.out).mono ?_); (case lg => exact (HG.out.below (by repeat (first | (with_reducible first | exact HB.out | apply below_alloc | apply pw_below_drewN | apply below_drew1 | refine below_set ?_ GE206.out) | exact HB.out)))); (case side1 => repeat (first | exact (Kd.C_below HR0_0.out HB.out) | (with_reducible refine Kd.C_alloc ?_ _) | (with_reducible refine Kd.C_drewN ?_ _) | (with_reducible refine Kd.C_drew ?_))); (case side2 => exact HC0_0.out); (case side3 => repeat (first | exact (Kd.C_below HR0_1.out HB.out) | (with_reducible refine Kd.C_alloc ?_ _) | (with_reducible refine Kd.C_drewN ?_ _) | (with_reducible refine Kd.C_drew ?_))); (case side4 => exact HC0_1.out); rintro e w17 ⟨rfl, hb⟩; have n0_ := Aside0.mk (blk_below (g := gb206) (o := .cells #[.slice A0_0 l0_0.length c0_0, .slice A0_1 l0_1.length c0_1, .string a0_2, .int .i64 a0_3] 39 (0, 0)) (by (with_reducible repeat (first | refine blk_drewN ?_ _ | refine blk_drew ?_ | refine blk_alloc ?_ _)); exact BK206.out) hb); have n1_ := Aside0.mk (below_step (by repeat (first | (with_reducible first | exact HB.out | apply below_alloc | apply pw_below_drewN | apply below_drew1 | refine below_set ?_ GE206.out) | exact HB.out)) hb); clear BK206; clear HB; have BK206 := n0_; have HB := n1_; clear n0_ n1_; (try clear hb); (try clear hb2); (try clear hk); (try clear hi)) | (go_at_call 11; (with_reducible refine (table_Take.calls (t208 ++ a0_2) t210 t211 t212 _ ?lg A10.out).mono ?_); (case lg => exact (HG.out.below (by repeat (first | (with_reducible first | exact HB.out | apply below_alloc | apply pw_below_drewN | apply below_drew1 | refine below_set ?_ GE206.out) | exact HB.out)))); rintro e w18 ⟨rfl, hb⟩; have n0_ := Aside0.mk (blk_below (g := gb206) (o := .cells #[.slice A0_0 l0_0.length c0_0, .slice A0_1 l0_1.length c0_1, .string a0_2, .int .i64 a0_3] 39 (0, 0)) (by (with_reducible repeat (first | refine blk_drewN ?_ _ | refine blk_drew ?_ | refine blk_alloc ?_ _)); exact BK206.out) hb); have n1_ := Aside0.mk (below_step (by repeat (first | (with_reducible first | exact HB.out | apply below_alloc | apply pw_below_drewN | apply below_drew1 | refine below_set ?_ GE206.out) | exact HB.out)) hb); clear BK206; clear HB; have BK206 := n0_; have HB := n1_; clear n0_ n1_; (try clear hb); (try clear hb2); (try clear hk); (try clear hi)) | (go_at_call 17; (with_reducible refine (table_Keys.calls t208 t213 t214 _ ?lg A11.out).mono ?_); (case lg => exact (HG.out.below (by repeat (first | (with_reducible first | exact HB.out | apply below_alloc | apply pw_below_drewN | apply below_drew1 | refine below_set ?_ GE206.out) | exact HB.out)))); rintro e w19 ⟨v215, rfl, ho0, hb⟩; have n0_ := Aside0.mk (Kd.R_lower ho0 (below_size (by repeat (first | (with_reducible first | exact HB.out | apply below_alloc | apply pw_below_drewN | apply below_drew1 | refine below_set ?_ GE206.out) | exact HB.out)))); have n1_ := Aside0.mk (blk_below (g := gb206) (o := .cells #[.slice A0_0 l0_0.length c0_0, .slice A0_1 l0_1.length c0_1, .string a0_2, .int .i64 a0_3] 39 (0, 0)) (by (with_reducible repeat (first | refine blk_drewN ?_ _ | refine blk_drew ?_ | refine blk_alloc ?_ _)); exact BK206.out) hb); have n2_ := Aside0.mk (below_step (by repeat (first | (with_reducible first | exact HB.out | apply below_alloc | apply pw_below_drewN | apply below_drew1 | refine below_set ?_ GE206.out) | exact HB.out)) hb); clear BK206; clear HB; have HO216 := n0_; have BK206 := n1_; have HB := n2_; clear n0_ n1_ n2_; (try clear hb); (try clear hb2); (try clear hk); (try clear hi); (try clear ho0); obtain ⟨Ao20, co20, eo20⟩ := Kd.R_slice HO216.out; subst eo20) | (go_at_call 18; (with_reducible refine (interchangeref02_Strings.calls k _ _ t213 _ _ l0_0 t217 _ ?side1 ?side2 ?side3 ?side4 A12.out).mono ?_); (case side1 => repeat (first | exact (Kd.R_reads' HO216.out).2.2 | (with_reducible refine Kd.C_alloc ?_ _) | (with_reducible refine Kd.C_drewN ?_ _) | (with_reducible refine Kd.C_drew ?_))); (case side2 => exact (Kd.R_reads' HO216.out).2.1); (case side3 => repeat (first | exact (Kd.C_below HR0_0.out HB.out) | (with_reducible refine Kd.C_alloc ?_ _) | (with_reducible refine Kd.C_drewN ?_ _) | (with_reducible refine Kd.C_drew ?_))); (case side4 => exact HC0_0.out); rintro e w' ⟨rfl, ⟨nd, rfl⟩⟩; (try first | exact ⟨rfl, _, World.drewN_drewN _ _ _⟩ | exact ⟨rfl, _, Eq.trans (World.drewN_drewN _ _ _) (congrArg (World.drewN _) (Nat.add_assoc _ _ _))⟩)))
        repeat (go_quiet (first | ((with_reducible refine gate_dst (N := 1) rfl ?_); refine box_event ?hg (N := 1) ?hd (cs := #[.slice A0_0 l0_0.length c0_0, .slice A0_1 l0_1.length c0_1, .string a0_2, .int .i64 a0_3]) (t := 39) ?hr ?_; (case hd => rfl); (case hg => rfl); (case hr => first | (go_simp; done) | (go_simp; rfl)); intro gb206 hg w14 hbox hb; have n0_ := Aside0.mk (below_step (by repeat (first | (with_reducible first | exact HB.out | apply below_alloc | apply pw_below_drewN | apply below_drew1) | exact HB.out)) hb); have n1_ := Aside0.mk (hbox); have n2_ := Aside0.mk ((by rw [hg]; exact (below_size (by repeat (first | (with_reducible first | exact HB.out | apply below_alloc | apply pw_below_drewN | apply below_drew1) | exact HB.out))) : w.heap.size ≤ gb206)); have n3_ := Aside0.mk ((by rw [hg]; exact (below_size (by repeat (first | (with_reducible first | exact HB.out | apply below_alloc | apply pw_below_drewN | apply below_drew1) | exact HB.out))) : w.heap.size ≤ gb206)); clear HB; have HB := n0_; have BK206 := n1_; have GW206 := n2_; have GE206 := n3_; clear n0_ n1_ n2_ n3_; clear hb hbox hg; have hcz15_0 : w14.cell? ⟨gb206, 0, none⟩ = some (.slice A0_0 l0_0.length c0_0) := (blk_cell BK206.out 0).trans rfl; have hcz15_1 : w14.cell? ⟨gb206, 1, none⟩ = some (.slice A0_1 l0_1.length c0_1) := (blk_cell BK206.out 1).trans rfl; have hcz15_2 : w14.cell? ⟨gb206, 2, none⟩ = some (.string a0_2) := (blk_cell BK206.out 2).trans rfl; have hcz15_3 : w14.cell? ⟨gb206, 3, none⟩ = some (.int .i64 a0_3) := (blk_cell BK206.out 3).trans rfl; have hfz15_0 := blk_frozen BK206.out 0; have hfz15_1 := blk_frozen BK206.out 1; have hfz15_2 := blk_frozen BK206.out 2; have hfz15_3 := blk_frozen BK206.out 3) | (go_at_call 10; (with_reducible refine (interchangelaw03_shown.calls t207 _ ?lg A2.out).mono ?_); (case lg => exact (HG.out.below (by repeat (first | (with_reducible first | exact HB.out | apply below_alloc | apply pw_below_drewN | apply below_drew1 | refine below_set ?_ GE206.out) | exact HB.out)))); rintro e w16 ⟨rfl, hb⟩; have n0_ := Aside0.mk (blk_below (g := gb206) (o := .cells #[.slice A0_0 l0_0.length c0_0, .slice A0_1 l0_1.length c0_1, .string a0_2, .int .i64 a0_3] 39 (0, 0)) (by (with_reducible repeat (first | refine blk_drewN ?_ _ | refine blk_drew ?_ | refine blk_alloc ?_ _)); exact BK206.out) hb); have n1_ := Aside0.mk (below_step (by repeat (first | (with_reducible first | exact HB.out | apply below_alloc | apply pw_below_drewN | apply below_drew1 | refine below_set ?_ GE206.out) | exact HB.out)) hb); clear BK206; clear HB; have BK206 := n0_; have HB := n1_; clear n0_ n1_; (try clear hb); (try clear hb2); (try clear hk); (try clear hi)) | (go_at_call 12; (with_reducible refine (table_Make.calls _ _ l0_0 _ _ l0_1 t208 t209 _ ?lg ?side1 ?side2 ?side3 ?side4 A7.out).mono ?_); (case lg => exact (HG.out.below (by repeat (first | (with_reducible first | exact HB.out | apply below_alloc | apply pw_below_drewN | apply below_drew1 | refine below_set ?_ GE206.out) | exact HB.out)))); (case side1 => repeat (first | exact (Kd.C_below HR0_0.out HB.out) | (with_reducible refine Kd.C_alloc ?_ _) | (with_reducible refine Kd.C_drewN ?_ _) | (with_reducible refine Kd.C_drew ?_))); (case side2 => exact HC0_0.out); (case side3 => repeat (first | exact (Kd.C_below HR0_1.out HB.out) | (with_reducible refine Kd.C_alloc ?_ _) | (with_reducible refine Kd.C_drewN ?_ _) | (with_reducible refine Kd.C_drew ?_))); (case side4 => exact HC0_1.out); rintro e w17 ⟨rfl, hb⟩; have n0_ := Aside0.mk (blk_below (g := gb206) (o := .cells #[.slice A0_0 l0_0.length c0_0, .slice A0_1 l0_1.length c0_1, .string a0_2, .int .i64 a0_3] 39 (0, 0)) (by (with_reducible repeat (first | refine blk_drewN ?_ _ | refine blk_drew ?_ | refine blk_alloc ?_ _)); exact BK206.out) hb); have n1_ := Aside0.mk (below_step (by repeat (first | (with_reducible first | exact HB.out | apply below_alloc | apply pw_below_drewN | apply below_drew1 | refine below_set ?_ GE206.out) | exact HB.out)) hb); clear BK206; clear HB; have BK206 := n0_; have HB := n1_; clear n0_ n1_; (try clear hb); (try clear hb2); (try clear hk); (try clear hi)) | (go_at_call 11; (with_reducible refine (table_Take.calls (t208 ++ a0_2) t210 t211 t212 _ ?lg A10.out).mono ?_); (case lg => exact (HG.out.below (by repeat (first | (with_reducible first | exact HB.out | apply below_alloc | apply pw_below_drewN | apply below_drew1 | refine below_set ?_ GE206.out) | exact HB.out)))); rintro e w18 ⟨rfl, hb⟩; have n0_ := Aside0.mk (blk_below (g := gb206) (o := .cells #[.slice A0_0 l0_0.length c0_0, .slice A0_1 l0_1.length c0_1, .string a0_2, .int .i64 a0_3] 39 (0, 0)) (by (with_reducible repeat (first | refine blk_drewN ?_ _ | refine blk_drew ?_ | refine blk_alloc ?_ _)); exact BK206.out) hb); have n1_ := Aside0.mk (below_step (by repeat (first | (with_reducible first | exact HB.out | apply below_alloc | apply pw_below_drewN | apply below_drew1 | refine below_set ?_ GE206.out) | exact HB.out)) hb); clear BK206; clear HB; have BK206 := n0_; have HB := n1_; clear n0_ n1_; (try clear hb); (try clear hb2); (try clear hk); (try clear hi)) | (go_at_call 17; (with_reducible refine (table_Keys.calls t208 t213 t214 _ ?lg A11.out).mono ?_); (case lg => exact (HG.out.below (by repeat (first | (with_reducible first | exact HB.out | apply below_alloc | apply pw_below_drewN | apply below_drew1 | refine below_set ?_ GE206.out) | exact HB.out)))); rintro e w19 ⟨v215, rfl, ho0, hb⟩; have n0_ := Aside0.mk (Kd.R_lower ho0 (below_size (by repeat (first | (with_reducible first | exact HB.out | apply below_alloc | apply pw_below_drewN | apply below_drew1 | refine below_set ?_ GE206.out) | exact HB.out)))); have n1_ := Aside0.mk (blk_below (g := gb206) (o := .cells #[.slice A0_0 l0_0.length c0_0, .slice A0_1 l0_1.length c0_1, .string a0_2, .int .i64 a0_3] 39 (0, 0)) (by (with_reducible repeat (first | refine blk_drewN ?_ _ | refine blk_drew ?_ | refine blk_alloc ?_ _)); exact BK206.out) hb); have n2_ := Aside0.mk (below_step (by repeat (first | (with_reducible first | exact HB.out | apply below_alloc | apply pw_below_drewN | apply below_drew1 | refine below_set ?_ GE206.out) | exact HB.out)) hb); clear BK206; clear HB; have HO216 := n0_; have BK206 := n1_; have HB := n2_; clear n0_ n1_ n2_; (try clear hb); (try clear hb2); (try clear hk); (try clear hi); (try clear ho0); obtain ⟨Ao20, co20, eo20⟩ := Kd.R_slice HO216.out; subst eo20) | (go_at_call 18; (with_reducible refine (interchangeref02_Strings.calls k _ _ t213 _ _ l0_0 t217 _ ?side1 ?side2 ?side3 ?side4 A12.out).mono ?_); (case side1 => repeat (first | exact (Kd.R_reads' HO216.out).2.2 | (with_reducible refine Kd.C_alloc ?_ _) | (with_reducible refine Kd.C_drewN ?_ _) | (with_reducible refine Kd.C_drew ?_))); (case side2 => exact (Kd.R_reads' HO216.out).2.1); (case side3 => repeat (first | exact (Kd.C_below HR0_0.out HB.out) | (with_reducible refine Kd.C_alloc ?_ _) | (with_reducible refine Kd.C_drewN ?_ _) | (with_reducible refine Kd.C_drew ?_))); (case side4 => exact HC0_0.out); rintro e w' ⟨rfl, ⟨nd, rfl⟩⟩; (try first | exact ⟨rfl, _, World.drewN_drewN _ _ _⟩ | exact ⟨rfl, _, Eq.trans (World.drewN_drewN _ _ _) (congrArg (World.drewN _) (Nat.add_assoc _ _ _))⟩))); go_upto_region 14 with (first | ((with_reducible refine gate_dst (N := 1) rfl ?_); refine box_event ?hg (N := 1) ?hd (cs := #[.slice A0_0 l0_0.length c0_0, .slice A0_1 l0_1.length c0_1, .string a0_2, .int .i64 a0_3]) (t := 39) ?hr ?_; (case hd => rfl); (case hg => rfl); (case hr => first | (go_simp; done) | (go_simp; rfl)); intro gb206 hg w14 hbox hb; have n0_ := Aside0.mk (below_step (by repeat (first | (with_reducible first | exact HB.out | apply below_alloc | apply pw_below_drewN | apply below_drew1) | exact HB.out)) hb); have n1_ := Aside0.mk (hbox); have n2_ := Aside0.mk ((by rw [hg]; exact (below_size (by repeat (first | (with_reducible first | exact HB.out | apply below_alloc | apply pw_below_drewN | apply below_drew1) | exact HB.out))) : w.heap.size ≤ gb206)); have n3_ := Aside0.mk ((by rw [hg]; exact (below_size (by repeat (first | (with_reducible first | exact HB.out | apply below_alloc | apply pw_below_drewN | apply below_drew1) | exact HB.out))) : w.heap.size ≤ gb206)); clear HB; have HB := n0_; have BK206 := n1_; have GW206 := n2_; have GE206 := n3_; clear n0_ n1_ n2_ n3_; clear hb hbox hg; have hcz15_0 : w14.cell? ⟨gb206, 0, none⟩ = some (.slice A0_0 l0_0.length c0_0) := (blk_cell BK206.out 0).trans rfl; have hcz15_1 : w14.cell? ⟨gb206, 1, none⟩ = some (.slice A0_1 l0_1.length c0_1) := (blk_cell BK206.out 1).trans rfl; have hcz15_2 : w14.cell? ⟨gb206, 2, none⟩ = some (.string a0_2) := (blk_cell BK206.out 2).trans rfl; have hcz15_3 : w14.cell? ⟨gb206, 3, none⟩ = some (.int .i64 a0_3) := (blk_cell BK206.out 3).trans rfl; have hfz15_0 := blk_frozen BK206.out 0; have hfz15_1 := blk_frozen BK206.out 1; have hfz15_2 := blk_frozen BK206.out 2; have hfz15_3 := blk_frozen BK206.out 3) | (go_at_call 10; (with_reducible refine (interchangelaw03_shown.calls t207 _ ?lg A2.out).mono ?_); (case lg => exact (HG.out.below (by repeat (first | (with_reducible first | exact HB.out | apply below_alloc | apply pw_below_drewN | apply below_drew1 | refine below_set ?_ GE206.out) | exact HB.out)))); rintro e w16 ⟨rfl, hb⟩; have n0_ := Aside0.mk (blk_below (g := gb206) (o := .cells #[.slice A0_0 l0_0.length c0_0, .slice A0_1 l0_1.length c0_1, .string a0_2, .int .i64 a0_3] 39 (0, 0)) (by (with_reducible repeat (first | refine blk_drewN ?_ _ | refine blk_drew ?_ | refine blk_alloc ?_ _)); exact BK206.out) hb); have n1_ := Aside0.mk (below_step (by repeat (first | (with_reducible first | exact HB.out | apply below_alloc | apply pw_below_drewN | apply below_drew1 | refine below_set ?_ GE206.out) | exact HB.out)) hb); clear BK206; clear HB; have BK206 := n0_; have HB := n1_; clear n0_ n1_; (try clear hb); (try clear hb2); (try clear hk); (try clear hi)) | (go_at_call 12; (with_reducible refine (table_Make.calls _ _ l0_0 _ _ l0_1 t208 t209 _ ?lg ?side1 ?side2 ?side3 ?side4 A7.out).mono ?_); (case lg => exact (HG.out.below (by repeat (first | (with_reducible first | exact HB.out | apply below_alloc | apply pw_below_drewN | apply below_drew1 | refine below_set ?_ GE206.out) | exact HB.out)))); (case side1 => repeat (first | exact (Kd.C_below HR0_0.out HB.out) | (with_reducible refine Kd.C_alloc ?_ _) | (with_reducible refine Kd.C_drewN ?_ _) | (with_reducible refine Kd.C_drew ?_))); (case side2 => exact HC0_0.out); (case side3 => repeat (first | exact (Kd.C_below HR0_1.out HB.out) | (with_reducible refine Kd.C_alloc ?_ _) | (with_reducible refine Kd.C_drewN ?_ _) | (with_reducible refine Kd.C_drew ?_))); (case side4 => exact HC0_1.out); rintro e w17 ⟨rfl, hb⟩; have n0_ := Aside0.mk (blk_below (g := gb206) (o := .cells #[.slice A0_0 l0_0.length c0_0, .slice A0_1 l0_1.length c0_1, .string a0_2, .int .i64 a0_3] 39 (0, 0)) (by (with_reducible repeat (first | refine blk_drewN ?_ _ | refine blk_drew ?_ | refine blk_alloc ?_ _)); exact BK206.out) hb); have n1_ := Aside0.mk (below_step (by repeat (first | (with_reducible first | exact HB.out | apply below_alloc | apply pw_below_drewN | apply below_drew1 | refine below_set ?_ GE206.out) | exact HB.out)) hb); clear BK206; clear HB; have BK206 := n0_; have HB := n1_; clear n0_ n1_; (try clear hb); (try clear hb2); (try clear hk); (try clear hi)) | (go_at_call 11; (with_reducible refine (table_Take.calls (t208 ++ a0_2) t210 t211 t212 _ ?lg A10.out).mono ?_); (case lg => exact (HG.out.below (by repeat (first | (with_reducible first | exact HB.out | apply below_alloc | apply pw_below_drewN | apply below_drew1 | refine below_set ?_ GE206.out) | exact HB.out)))); rintro e w18 ⟨rfl, hb⟩; have n0_ := Aside0.mk (blk_below (g := gb206) (o := .cells #[.slice A0_0 l0_0.length c0_0, .slice A0_1 l0_1.length c0_1, .string a0_2, .int .i64 a0_3] 39 (0, 0)) (by (with_reducible repeat (first | refine blk_drewN ?_ _ | refine blk_drew ?_ | refine blk_alloc ?_ _)); exact BK206.out) hb); have n1_ := Aside0.mk (below_step (by repeat (first | (with_reducible first | exact HB.out | apply below_alloc | apply pw_below_drewN | apply below_drew1 | refine below_set ?_ GE206.out) | exact HB.out)) hb); clear BK206; clear HB; have BK206 := n0_; have HB := n1_; clear n0_ n1_; (try clear hb); (try clear hb2); (try clear hk); (try clear hi)) | (go_at_call 17; (with_reducible refine (table_Keys.calls t208 t213 t214 _ ?lg A11.out).mono ?_); (case lg => exact (HG.out.below (by repeat (first | (with_reducible first | exact HB.out | apply below_alloc | apply pw_below_drewN | apply below_drew1 | refine below_set ?_ GE206.out) | exact HB.out)))); rintro e w19 ⟨v215, rfl, ho0, hb⟩; have n0_ := Aside0.mk (Kd.R_lower ho0 (below_size (by repeat (first | (with_reducible first | exact HB.out | apply below_alloc | apply pw_below_drewN | apply below_drew1 | refine below_set ?_ GE206.out) | exact HB.out)))); have n1_ := Aside0.mk (blk_below (g := gb206) (o := .cells #[.slice A0_0 l0_0.length c0_0, .slice A0_1 l0_1.length c0_1, .string a0_2, .int .i64 a0_3] 39 (0, 0)) (by (with_reducible repeat (first | refine blk_drewN ?_ _ | refine blk_drew ?_ | refine blk_alloc ?_ _)); exact BK206.out) hb); have n2_ := Aside0.mk (below_step (by repeat (first | (with_reducible first | exact HB.out | apply below_alloc | apply pw_below_drewN | apply below_drew1 | refine below_set ?_ GE206.out) | exact HB.out)) hb); clear BK206; clear HB; have HO216 := n0_; have BK206 := n1_; have HB := n2_; clear n0_ n1_ n2_; (try clear hb); (try clear hb2); (try clear hk); (try clear hi); (try clear ho0); obtain ⟨Ao20, co20, eo20⟩ := Kd.R_slice HO216.out; subst eo20) | (go_at_call 18; (with_reducible refine (interchangeref02_Strings.calls k _ _ t213 _ _ l0_0 t217 _ ?side1 ?side2 ?side3 ?side4 A12.out).mono ?_); (case side1 => repeat (first | exact (Kd.R_reads' HO216.out).2.2 | (with_reducible refine Kd.C_alloc ?_ _) | (with_reducible refine Kd.C_drewN ?_ _) | (with_reducible refine Kd.C_drew ?_))); (case side2 => exact (Kd.R_reads' HO216.out).2.1); (case side3 => repeat (first | exact (Kd.C_below HR0_0.out HB.out) | (with_reducible refine Kd.C_alloc ?_ _) | (with_reducible refine Kd.C_drewN ?_ _) | (with_reducible refine Kd.C_drew ?_))); (case side4 => exact HC0_0.out); rintro e w' ⟨rfl, ⟨nd, rfl⟩⟩; (try first | exact ⟨rfl, _, World.drewN_drewN _ _ _⟩ | exact ⟨rfl, _, Eq.trans (World.drewN_drewN _ _ _) (congrArg (World.drewN _) (Nat.add_assoc _ _ _))⟩))))
        (try simp only [Act.put, List.setIfInBounds_toArray, List.set_cons_zero, List.set_cons_succ])
        go_cut [80] (fun v80 wc => ∃ (kq : Nat) (x80_12 : Bool), v80 = .bool x80_12 ∧ Aside0 (interchangelaw03_TableBack.j0 kq l0_0 l0_1 a0_3 t207 t208 x80_12 = some true) ∧ Aside0 (kq ≤ k) ∧ Aside0 (wc.heap[gb206]? = some (.cells #[(.slice A0_0 l0_0.length c0_0), (.slice A0_1 l0_1.length c0_1), .string a0_2, .int .i64 a0_3] 39 (0, 0))) ∧ Aside0 (Below w.heap.size w wc))
        case first =>
          have H := HC13.out
          clear HC13
          by_cases c21 : t212 = 0
          · rw [if_pos c21] at H
            have c21b0 : (t212 == 0) = true := beq_iff_eq.mpr c21
            have c21b1 : (t212 != 0) = false := bne_eq_false_iff_eq.mpr c21
            clear c21
            (first | rw [c21b0] | (simp only [i64_w, i32_w]; rw [c21b0]) | skip)
            by_cases c22 : t210.toList = t208.toList
            · rw [if_pos c22] at H
              have c22b0 : (t210.toList == t208.toList) = true := beq_iff_eq.mpr c22
              have c22b1 : (t210.toList != t208.toList) = false := bne_eq_false_iff_eq.mpr c22
              clear c22
              by_cases c23 : t211.toList = a0_2.toList
              · rw [if_pos c23] at H
                have c23b0 : (t211.toList == a0_2.toList) = true := beq_iff_eq.mpr c23
                have c23b1 : (t211.toList != a0_2.toList) = false := bne_eq_false_iff_eq.mpr c23
                clear c23
                by_cases c24 : t214 = 0
                · rw [if_pos c24] at H
                  have c24b0 : (t214 == 0) = true := beq_iff_eq.mpr c24
                  have c24b1 : (t214 != 0) = false := bne_eq_false_iff_eq.mpr c24
                  clear c24
                  have H' := Aside0.mk H
                  clear H
                  go_wp2
                  repeat (go_quiet (fail); try go_wp2)
                  go_meet
                  case rel => exact ⟨_, (!t217), (by first | rfl | (simp; done) | (simp [*]; done)), H', ⟨by first | omega | exact Nat.le_refl _⟩, ⟨by (with_reducible repeat (first | refine blk_drewN ?_ _ | refine blk_drew ?_ | refine blk_alloc ?_ _)); exact BK206.out⟩, ⟨by repeat (first | (with_reducible first | exact HB.out | apply below_alloc | apply pw_below_drewN | apply below_drew1 | refine below_set ?_ GE206.out) | exact HB.out)⟩⟩
                · rw [if_neg c24] at H
                  have c24b0 : (t214 == 0) = false := beq_eq_false_iff_ne.mpr c24
                  have c24b1 : (t214 != 0) = true := bne_iff_ne.mpr c24
                  have H' := Aside0.mk H
                  clear H
                  go_wp2
                  repeat (go_quiet (fail); try go_wp2)
                  go_meet
                  case rel => exact ⟨_, (true), (by first | rfl | (simp; done) | (simp [*]; done)), H', ⟨by first | omega | exact Nat.le_refl _⟩, ⟨by (with_reducible repeat (first | refine blk_drewN ?_ _ | refine blk_drew ?_ | refine blk_alloc ?_ _)); exact BK206.out⟩, ⟨by repeat (first | (with_reducible first | exact HB.out | apply below_alloc | apply pw_below_drewN | apply below_drew1 | refine below_set ?_ GE206.out) | exact HB.out)⟩⟩
              · rw [if_neg c23] at H
                have c23b0 : (t211.toList == a0_2.toList) = false := beq_eq_false_iff_ne.mpr c23
                have c23b1 : (t211.toList != a0_2.toList) = true := bne_iff_ne.mpr c23
                have H' := Aside0.mk H
                clear H
                go_wp2
                repeat (go_quiet (fail); try go_wp2)
                go_meet
                case rel => exact ⟨_, (true), (by first | rfl | (simp; done) | (simp [*]; done)), H', ⟨by first | omega | exact Nat.le_refl _⟩, ⟨by (with_reducible repeat (first | refine blk_drewN ?_ _ | refine blk_drew ?_ | refine blk_alloc ?_ _)); exact BK206.out⟩, ⟨by repeat (first | (with_reducible first | exact HB.out | apply below_alloc | apply pw_below_drewN | apply below_drew1 | refine below_set ?_ GE206.out) | exact HB.out)⟩⟩
            · rw [if_neg c22] at H
              have c22b0 : (t210.toList == t208.toList) = false := beq_eq_false_iff_ne.mpr c22
              have c22b1 : (t210.toList != t208.toList) = true := bne_iff_ne.mpr c22
              have H' := Aside0.mk H
              clear H
              go_wp2
              repeat (go_quiet (fail); try go_wp2)
              go_meet
              case rel => exact ⟨_, (true), (by first | rfl | (simp; done) | (simp [*]; done)), H', ⟨by first | omega | exact Nat.le_refl _⟩, ⟨by (with_reducible repeat (first | refine blk_drewN ?_ _ | refine blk_drew ?_ | refine blk_alloc ?_ _)); exact BK206.out⟩, ⟨by repeat (first | (with_reducible first | exact HB.out | apply below_alloc | apply pw_below_drewN | apply below_drew1 | refine below_set ?_ GE206.out) | exact HB.out)⟩⟩
          · rw [if_neg c21] at H
            have c21b0 : (t212 == 0) = false := beq_eq_false_iff_ne.mpr c21
            have c21b1 : (t212 != 0) = true := bne_iff_ne.mpr c21
            (first | rw [c21b0] | (simp only [i64_w, i32_w]; rw [c21b0]) | skip)
            have H' := Aside0.mk H
            clear H
            go_wp2
            repeat (go_quiet (fail); try go_wp2)
            go_meet
            case rel => exact ⟨_, (true), (by first | rfl | (simp; done) | (simp [*]; done)), H', ⟨by first | omega | exact Nat.le_refl _⟩, ⟨by (with_reducible repeat (first | refine blk_drewN ?_ _ | refine blk_drew ?_ | refine blk_alloc ?_ _)); exact BK206.out⟩, ⟨by repeat (first | (with_reducible first | exact HB.out | apply below_alloc | apply pw_below_drewN | apply below_drew1 | refine below_set ?_ GE206.out) | exact HB.out)⟩⟩
        case rest =>
          clear HC13
          try clear c2
          try clear p2
          try clear c3
          try clear c3b0
          try clear c3b1
          try clear c7
          try clear c8
          try clear c8b0
          try clear c8b1
          try clear c9
          try clear c9b0
          try clear c9b1
          try clear c9b2
          try clear c21
          try clear c21b0
          try clear c21b1
          try clear c22
          try clear c22b0
          try clear c22b1
          try clear c23
          try clear c23b0
          try clear c23b1
          try clear c24
          try clear c24b0
          try clear c24b1
          try clear hcz15_0
          try clear hcz15_1
          try clear hcz15_2
          try clear hcz15_3
          try clear hcz5_0
          try clear hcz5_1
          try clear hcz5_2
          try clear hcz5_3
          try clear hfz15_0
          try clear hfz15_1
          try clear hfz15_2
          try clear hfz15_3
          try clear hfz5_0
          try clear hfz5_1
          try clear hfz5_2
          try clear hfz5_3
          obtain ⟨kq, x80_12, rfl, HA, HJ12, BK206, HB⟩ := hcut
          cases kq with
          | zero => exact absurd HA.out (by simp [interchangelaw03_TableBack.j0])
          | succ kj12 =>
            have H := HA.out
            clear HA
            simp only [interchangelaw03_TableBack.j0] at H
            by_cases c25 : x80_12 = true
            · subst c25
              have H1 : (some false) = some true := by rw [if_pos rfl] at H; first | done | exact H
              clear H
              have H := H1
              clear H1
              exact absurd H (by decide)
            · replace c25 := Bool.eq_false_iff.mpr c25
              subst c25
              have H1 : (if a0_3 < 0 then (interchangelaw03_TableBack.j1 kj12 l0_0 l0_1 a0_3 t207 t208 true) else (if a0_3 ≥ (l0_0.length : Int) then (interchangelaw03_TableBack.j1 kj12 l0_0 l0_1 a0_3 t207 t208 true) else (interchangelaw03_TableBack.j1 kj12 l0_0 l0_1 a0_3 t207 t208 ((l0_1.length : Int) != (l0_0.length : Int))))) = some true := by rw [if_neg (show ¬ (false = true) by decide)] at H; first | done | exact H
              clear H
              have H := H1
              clear H1
              have HC26 := Aside0.mk H
              clear H
              go_upto_region 16 with (fail)
              repeat (go_quiet (fail); go_upto_region 16 with (fail))
              go_cut [95] (fun v95 wc => ∃ (kq : Nat) (x95_25 : Bool), v95 = .bool x95_25 ∧ Aside0 (interchangelaw03_TableBack.j1 kq l0_0 l0_1 a0_3 t207 t208 x95_25 = some true) ∧ Aside0 (kq ≤ kj12) ∧ Aside0 (wc.heap[gb206]? = some (.cells #[(.slice A0_0 l0_0.length c0_0), (.slice A0_1 l0_1.length c0_1), .string a0_2, .int .i64 a0_3] 39 (0, 0))) ∧ Aside0 (Below w.heap.size w wc))
              case first =>
                have H := HC26.out
                clear HC26
                by_cases c27 : a0_3 < 0
                · rw [if_pos c27] at H
                  have c27b0 : decide (a0_3 < 0) = true := decide_eq_true c27
                  clear c27
                  (first | rw [c27b0] | (simp only [i64_w, i32_w]; rw [c27b0]) | skip)
                  have H' := Aside0.mk H
                  clear H
                  go_wp2
                  repeat (go_quiet (fail); try go_wp2)
                  go_meet
                  case rel => exact ⟨_, (true), (by first | rfl | (simp; done) | (simp [*]; done)), H', ⟨by have := HJ12.out; first | omega | exact Nat.le_refl _⟩, ⟨by (with_reducible repeat (first | refine blk_drewN ?_ _ | refine blk_drew ?_ | refine blk_alloc ?_ _)); exact BK206.out⟩, ⟨by repeat (first | (with_reducible first | exact HB.out | apply below_alloc | apply pw_below_drewN | apply below_drew1 | refine below_set ?_ GE206.out) | exact HB.out)⟩⟩
                · rw [if_neg c27] at H
                  have c27b0 : decide (a0_3 < 0) = false := decide_eq_false c27
                  clear c27
                  (first | rw [c27b0] | (simp only [i64_w, i32_w]; rw [c27b0]) | skip)
                  by_cases c28 : a0_3 ≥ (l0_0.length : Int)
                  · rw [if_pos c28] at H
                    have c28b0 : decide ((l0_0.length : Int) ≤ a0_3) = true := decide_eq_true c28
                    clear c28
                    have H' := Aside0.mk H
                    clear H
                    go_wp2
                    repeat (go_quiet (fail); try go_wp2)
                    go_meet
                    case rel => exact ⟨_, (true), (by first | rfl | (simp; done) | (simp [*]; done)), H', ⟨by have := HJ12.out; first | omega | exact Nat.le_refl _⟩, ⟨by (with_reducible repeat (first | refine blk_drewN ?_ _ | refine blk_drew ?_ | refine blk_alloc ?_ _)); exact BK206.out⟩, ⟨by repeat (first | (with_reducible first | exact HB.out | apply below_alloc | apply pw_below_drewN | apply below_drew1 | refine below_set ?_ GE206.out) | exact HB.out)⟩⟩
                  · rw [if_neg c28] at H
                    have c28b0 : decide ((l0_0.length : Int) ≤ a0_3) = false := decide_eq_false c28
                    clear c28
                    have H' := Aside0.mk H
                    clear H
                    go_wp2
                    repeat (go_quiet (fail); try go_wp2)
                    go_meet
                    case rel => exact ⟨_, (((l0_1.length : Int) != (l0_0.length : Int))), (by first | rfl | (simp; done) | (simp [*]; done)), H', ⟨by have := HJ12.out; first | omega | exact Nat.le_refl _⟩, ⟨by (with_reducible repeat (first | refine blk_drewN ?_ _ | refine blk_drew ?_ | refine blk_alloc ?_ _)); exact BK206.out⟩, ⟨by repeat (first | (with_reducible first | exact HB.out | apply below_alloc | apply pw_below_drewN | apply below_drew1 | refine below_set ?_ GE206.out) | exact HB.out)⟩⟩
              case rest =>
                clear HC26
                try clear c2
                try clear p2
                try clear c3
                try clear c3b0
                try clear c3b1
                try clear c7
                try clear c8
                try clear c8b0
                try clear c8b1
                try clear c9
                try clear c9b0
                try clear c9b1
                try clear c9b2
                try clear c21
                try clear c21b0
                try clear c21b1
                try clear c22
                try clear c22b0
                try clear c22b1
                try clear c23
                try clear c23b0
                try clear c23b1
                try clear c24
                try clear c24b0
                try clear c24b1
                try clear c25
                try clear c27
                try clear c27b0
                try clear c28
                try clear c28b0
                try clear hcz15_0
                try clear hcz15_1
                try clear hcz15_2
                try clear hcz15_3
                try clear hcz5_0
                try clear hcz5_1
                try clear hcz5_2
                try clear hcz5_3
                try clear hfz15_0
                try clear hfz15_1
                try clear hfz15_2
                try clear hfz15_3
                try clear hfz5_0
                try clear hfz5_1
                try clear hfz5_2
                try clear hfz5_3
                try clear p2
                obtain ⟨kq, x95_25, rfl, HA, HJ25, BK206, HB⟩ := hcut
                cases kq with
                | zero => exact absurd HA.out (by simp [interchangelaw03_TableBack.j1])
                | succ kj25 =>
                  have H := HA.out
                  clear HA
                  simp only [interchangelaw03_TableBack.j1] at H
                  by_cases c29 : x95_25 = true
                  · subst c29
                    have H1 : (if t207 = true then (some ((l0_1.length : Int) == (l0_0.length : Int))) else (some false)) = some true := by rw [if_pos rfl] at H; first | done | exact H
                    clear H
                    have H := H1
                    clear H1
                    by_cases c30 : t207 = true
                    · subst c30
                      have H1 : (some ((l0_1.length : Int) == (l0_0.length : Int))) = some true := by rw [if_pos rfl] at H; first | done | exact H
                      clear H
                      have H := H1
                      clear H1
                      have HR_ := Aside0.mk (Option.some.inj H)
                      clear H
                      go_wp2
                      repeat (go_quiet (fail); try go_wp2)
                      go_ret
                      exact ⟨by have HR0_ := HR_.out; first | exact congrArg (fun b_ => Ending.returned (Value.bool b_)) HR0_ | (simpa using HR0_) | rfl | (simp [errW_none, errW_some] <;> rfl) | (simp [*, errW_none, errW_some] <;> rfl), by repeat (first | (with_reducible first | exact HB.out | apply below_alloc | apply pw_below_drewN | apply below_drew1 | refine below_set ?_ GE206.out) | exact HB.out)⟩
                    · replace c30 := Bool.eq_false_iff.mpr c30
                      subst c30
                      have H1 : (some false) = some true := by rw [if_neg (show ¬ (false = true) by decide)] at H; first | done | exact H
                      clear H
                      have H := H1
                      clear H1
                      exact absurd H (by decide)
                  · replace c29 := Bool.eq_false_iff.mpr c29
                    subst c29
                    have H1 : (interchangelaw03_TableBack.l0 kj25 l0_0 l0_1 a0_3 t207 t208 0) = some true := by rw [if_neg (show ¬ (false = true) by decide)] at H; first | done | exact H
                    clear H
                    have H := H1
                    clear H1
                    have H' := Aside0.mk H
                    clear H
                    go_wp2
                    repeat (go_quiet (fail); try go_wp2)
                    go_loopg [16] kj25 (fun kq v16 w' => ∃ (x16_3 : Int), v16 = .int .i64 x16_3 ∧ Aside0 (interchangelaw03_TableBack.l0 kq l0_0 l0_1 a0_3 t207 t208 x16_3 = some true) ∧ Aside0 (kq ≤ kj25) ∧ Aside0 (w'.heap[gb206]? = some (.cells #[(.slice A0_0 l0_0.length c0_0), (.slice A0_1 l0_1.length c0_1), .string a0_2, .int .i64 a0_3] 39 (0, 0))) ∧ Aside0 (Below w.heap.size w w'))
                    case atStart => exact ⟨(0), (by first | rfl | (simp; done) | (simp [*]; done)), H', ⟨Nat.le_refl _⟩, ⟨by (with_reducible repeat (first | refine blk_drewN ?_ _ | refine blk_drew ?_ | refine blk_alloc ?_ _)); exact BK206.out⟩, ⟨by repeat (first | (with_reducible first | exact HB.out | apply below_alloc | apply pw_below_drewN | apply below_drew1 | refine below_set ?_ GE206.out) | exact HB.out)⟩⟩
                    case round =>
                      clear H'
                      try clear c2
                      try clear p2
                      try clear c3
                      try clear c3b0
                      try clear c3b1
                      try clear c7
                      try clear c8
                      try clear c8b0
                      try clear c8b1
                      try clear c9
                      try clear c9b0
                      try clear c9b1
                      try clear c9b2
                      try clear c21
                      try clear c21b0
                      try clear c21b1
                      try clear c22
                      try clear c22b0
                      try clear c22b1
                      try clear c23
                      try clear c23b0
                      try clear c23b1
                      try clear c24
                      try clear c24b0
                      try clear c24b1
                      try clear c25
                      try clear c27
                      try clear c27b0
                      try clear c28
                      try clear c28b0
                      try clear c29
                      try clear c30
                      try clear hcz15_0
                      try clear hcz15_1
                      try clear hcz15_2
                      try clear hcz15_3
                      try clear hcz5_0
                      try clear hcz5_1
                      try clear hcz5_2
                      try clear hcz5_3
                      try clear hfz15_0
                      try clear hfz15_1
                      try clear hfz15_2
                      try clear hfz15_3
                      try clear hfz5_0
                      try clear hfz5_1
                      try clear hfz5_2
                      try clear hfz5_3
                      try clear p2
                      obtain ⟨x16_3, rfl, HA, HK3, BK206, HB⟩ := hrel
                      cases gk with
                      | zero => exact absurd HA.out (by simp [interchangelaw03_TableBack.l0])
                      | succ k3 =>
                        have H := HA.out
                        clear HA
                        simp only [interchangelaw03_TableBack.l0] at H
                        by_cases c31 : x16_3 < a0_3
                        · rw [if_pos c31] at H
                          have c31b0 : decide (x16_3 < a0_3) = true := decide_eq_true c31
                          clear c31
                          by_cases c32 : 0 ≤ x16_3
                          · rw [if_pos c32] at H
                            have c32b0 : decide (0 ≤ x16_3) = true := decide_eq_true c32
                            clear c32
                            by_cases c33 : x16_3 < (l0_0.length : Int)
                            · rw [if_pos c33] at H
                              have c33b0 : decide (x16_3 < (l0_0.length : Int)) = true := decide_eq_true c33
                              clear c33
                              by_cases c34 : 0 ≤ a0_3
                              · rw [if_pos c34] at H
                                have c34b0 : decide (0 ≤ a0_3) = true := decide_eq_true c34
                                clear c34
                                by_cases c35 : a0_3 < (l0_0.length : Int)
                                · rw [if_pos c35] at H
                                  have c35b0 : decide (a0_3 < (l0_0.length : Int)) = true := decide_eq_true c35
                                  clear c35
                                  by_cases c36 : (rdOf ByteArray.empty l0_0 x16_3).toList = (rdOf ByteArray.empty l0_0 a0_3).toList
                                  · rw [if_pos c36] at H
                                    have c36b0 : ((rdOf ByteArray.empty l0_0 x16_3).toList == (rdOf ByteArray.empty l0_0 a0_3).toList) = true := beq_iff_eq.mpr c36
                                    have c36b1 : ((rdOf ByteArray.empty l0_0 x16_3).toList != (rdOf ByteArray.empty l0_0 a0_3).toList) = false := bne_eq_false_iff_eq.mpr c36
                                    clear c36
                                    have HR_ := Aside0.mk (Option.some.inj H)
                                    clear H
                                    have p218 : 0 ≤ (x16_3 : Int) := of_decide_eq_true (by first | (with_reducible assumption) | assumption)
                                    have q218 : x16_3 < (l0_0.length : Int) := of_decide_eq_true (by first | (with_reducible assumption) | assumption)
                                    obtain ⟨ad218, e218, hx218_0⟩ := Kd.at_string HR0_0.out x16_3 p218 q218
                                    cases e218
                                    replace hx218_0 := (HB.out.cell (World.block_lt_of_cell? w _ hx218_0)).trans hx218_0
                                    replace p218 := eq_true p218
                                    replace q218 := eq_true q218
                                    have p219 : 0 ≤ (a0_3 : Int) := of_decide_eq_true (by first | (with_reducible assumption) | assumption)
                                    have q219 : a0_3 < (l0_0.length : Int) := of_decide_eq_true (by first | (with_reducible assumption) | assumption)
                                    obtain ⟨ad219, e219, hx219_0⟩ := Kd.at_string HR0_0.out a0_3 p219 q219
                                    obtain rfl : ad218 = ad219 := (by injection e219)
                                    replace hx219_0 := (HB.out.cell (World.block_lt_of_cell? w _ hx219_0)).trans hx219_0
                                    replace p219 := eq_true p219
                                    replace q219 := eq_true q219
                                    go_wp2
                                    repeat (go_quiet (fail); try go_wp2)
                                    go_ret
                                    exact ⟨by have HR0_ := HR_.out; first | exact congrArg (fun b_ => Ending.returned (Value.bool b_)) HR0_ | (simpa using HR0_) | rfl | (simp [errW_none, errW_some] <;> rfl) | (simp [*, errW_none, errW_some] <;> rfl), by repeat (first | (with_reducible first | exact HB.out | apply below_alloc | apply pw_below_drewN | apply below_drew1 | refine below_set ?_ GE206.out) | exact HB.out)⟩
                                  · rw [if_neg c36] at H
                                    have c36b0 : ((rdOf ByteArray.empty l0_0 x16_3).toList == (rdOf ByteArray.empty l0_0 a0_3).toList) = false := beq_eq_false_iff_ne.mpr c36
                                    have c36b1 : ((rdOf ByteArray.empty l0_0 x16_3).toList != (rdOf ByteArray.empty l0_0 a0_3).toList) = true := bne_iff_ne.mpr c36
                                    have H' := Aside0.mk H
                                    clear H
                                    have p218 : 0 ≤ (x16_3 : Int) := of_decide_eq_true (by first | (with_reducible assumption) | assumption)
                                    have q218 : x16_3 < (l0_0.length : Int) := of_decide_eq_true (by first | (with_reducible assumption) | assumption)
                                    obtain ⟨ad218, e218, hx218_0⟩ := Kd.at_string HR0_0.out x16_3 p218 q218
                                    cases e218
                                    replace hx218_0 := (HB.out.cell (World.block_lt_of_cell? w _ hx218_0)).trans hx218_0
                                    replace p218 := eq_true p218
                                    replace q218 := eq_true q218
                                    have p219 : 0 ≤ (a0_3 : Int) := of_decide_eq_true (by first | (with_reducible assumption) | assumption)
                                    have q219 : a0_3 < (l0_0.length : Int) := of_decide_eq_true (by first | (with_reducible assumption) | assumption)
                                    obtain ⟨ad219, e219, hx219_0⟩ := Kd.at_string HR0_0.out a0_3 p219 q219
                                    obtain rfl : ad218 = ad219 := (by injection e219)
                                    replace hx219_0 := (HB.out.cell (World.block_lt_of_cell? w _ hx219_0)).trans hx219_0
                                    replace p219 := eq_true p219
                                    replace q219 := eq_true q219
                                    go_wp2
                                    repeat (go_quiet (fail); try go_wp2)
                                    go_roundg k3
                                    case measure => have := HJ12.out; have := HJ25.out; have := HK3.out; omega
                                    case rel => exact ⟨(wrap64 (x16_3 + 1)), (by first | rfl | (simp; done) | (simp [*]; done)), H', ⟨by have := HJ12.out; have := HJ25.out; have := HK3.out; omega⟩, ⟨by (with_reducible repeat (first | refine blk_drewN ?_ _ | refine blk_drew ?_ | refine blk_alloc ?_ _)); exact BK206.out⟩, ⟨by repeat (first | (with_reducible first | exact HB.out | apply below_alloc | apply pw_below_drewN | apply below_drew1 | refine below_set ?_ GE206.out) | exact HB.out)⟩⟩
                                · rw [if_neg c35] at H
                                  exact absurd H (by simp)
                              · rw [if_neg c34] at H
                                exact absurd H (by simp)
                            · rw [if_neg c33] at H
                              exact absurd H (by simp)
                          · rw [if_neg c32] at H
                            exact absurd H (by simp)
                        · rw [if_neg c31] at H
                          have c31b0 : decide (x16_3 < a0_3) = false := decide_eq_false c31
                          clear c31
                          by_cases c37 : 0 ≤ a0_3
                          · rw [if_pos c37] at H
                            have c37b0 : decide (0 ≤ a0_3) = true := decide_eq_true c37
                            clear c37
                            by_cases c38 : a0_3 < (l0_0.length : Int)
                            · rw [if_pos c38] at H
                              have c38b0 : decide (a0_3 < (l0_0.length : Int)) = true := decide_eq_true c38
                              clear c38
                              replace H := Option.bind_eq_some_iff.mp H
                              obtain ⟨⟨t221, t222⟩, A390, H⟩ := H
                              replace H : (if t207 = true then (if t222 = true then (if a0_3 < (l0_1.length : Int) then (some (t221.toList == (rdOf ByteArray.empty l0_1 a0_3).toList)) else (none)) else (some false)) else (some false)) = some true := H
                              have A39 := Aside0.mk A390
                              clear A390
                              by_cases c40 : t207 = true
                              · subst c40
                                have H1 : (if t222 = true then (if a0_3 < (l0_1.length : Int) then (some (t221.toList == (rdOf ByteArray.empty l0_1 a0_3).toList)) else (none)) else (some false)) = some true := by rw [if_pos rfl] at H; first | done | exact H
                                clear H
                                have H := H1
                                clear H1
                                by_cases c41 : t222 = true
                                · subst c41
                                  have H1 : (if a0_3 < (l0_1.length : Int) then (some (t221.toList == (rdOf ByteArray.empty l0_1 a0_3).toList)) else (none)) = some true := by rw [if_pos rfl] at H; first | done | exact H
                                  clear H
                                  have H := H1
                                  clear H1
                                  by_cases c42 : a0_3 < (l0_1.length : Int)
                                  · rw [if_pos c42] at H
                                    have c42b0 : decide (a0_3 < (l0_1.length : Int)) = true := decide_eq_true c42
                                    clear c42
                                    have HR_ := Aside0.mk (Option.some.inj H)
                                    clear H
                                    have p220 : 0 ≤ (a0_3 : Int) := of_decide_eq_true (by first | (with_reducible assumption) | assumption)
                                    have q220 : a0_3 < (l0_0.length : Int) := of_decide_eq_true (by first | (with_reducible assumption) | assumption)
                                    obtain ⟨ad220, e220, hx220_0⟩ := Kd.at_string HR0_0.out a0_3 p220 q220
                                    cases e220
                                    replace hx220_0 := (HB.out.cell (World.block_lt_of_cell? w _ hx220_0)).trans hx220_0
                                    replace p220 := eq_true p220
                                    replace q220 := eq_true q220
                                    go_wp2_with (first | (go_at_call 16; (with_reducible refine (table_Find.calls t208 (rdOf ByteArray.empty l0_0 a0_3) t221 true _ ?lg A39.out).mono ?_); (case lg => exact (HG.out.below (by repeat (first | (with_reducible first | exact HB.out | apply below_alloc | apply pw_below_drewN | apply below_drew1 | refine below_set ?_ GE206.out) | exact HB.out)))); rintro e w43 ⟨rfl, hb⟩; have n0_ := Aside0.mk (blk_below (g := gb206) (o := .cells #[.slice (some ad220) l0_0.length c0_0, .slice A0_1 l0_1.length c0_1, .string a0_2, .int .i64 a0_3] 39 (0, 0)) (by (with_reducible repeat (first | refine blk_drewN ?_ _ | refine blk_drew ?_ | refine blk_alloc ?_ _)); exact BK206.out) hb); have n1_ := Aside0.mk (below_step (by repeat (first | (with_reducible first | exact HB.out | apply below_alloc | apply pw_below_drewN | apply below_drew1 | refine below_set ?_ GE206.out) | exact HB.out)) hb); clear BK206; clear HB; have BK206 := n0_; have HB := n1_; clear n0_ n1_; (try clear hb); (try clear hb2); (try clear hk); (try clear hi); have p223 : 0 ≤ (a0_3 : Int) := of_decide_eq_true (by first | (with_reducible assumption) | assumption); have q223 : a0_3 < (l0_1.length : Int) := of_decide_eq_true (by first | (with_reducible assumption) | assumption); obtain ⟨ad223, e223, hx223_0⟩ := Kd.at_string HR0_1.out a0_3 p223 q223; cases e223; replace hx223_0 := (HB.out.cell (World.block_lt_of_cell? w _ hx223_0)).trans hx223_0; replace p223 := eq_true p223; replace q223 := eq_true q223))
                                    repeat (go_quiet (first | (go_at_call 16; (with_reducible refine (table_Find.calls t208 (rdOf ByteArray.empty l0_0 a0_3) t221 true _ ?lg A39.out).mono ?_); (case lg => exact (HG.out.below (by repeat (first | (with_reducible first | exact HB.out | apply below_alloc | apply pw_below_drewN | apply below_drew1 | refine below_set ?_ GE206.out) | exact HB.out)))); rintro e w43 ⟨rfl, hb⟩; have n0_ := Aside0.mk (blk_below (g := gb206) (o := .cells #[.slice (some ad220) l0_0.length c0_0, .slice A0_1 l0_1.length c0_1, .string a0_2, .int .i64 a0_3] 39 (0, 0)) (by (with_reducible repeat (first | refine blk_drewN ?_ _ | refine blk_drew ?_ | refine blk_alloc ?_ _)); exact BK206.out) hb); have n1_ := Aside0.mk (below_step (by repeat (first | (with_reducible first | exact HB.out | apply below_alloc | apply pw_below_drewN | apply below_drew1 | refine below_set ?_ GE206.out) | exact HB.out)) hb); clear BK206; clear HB; have BK206 := n0_; have HB := n1_; clear n0_ n1_; (try clear hb); (try clear hb2); (try clear hk); (try clear hi); have p223 : 0 ≤ (a0_3 : Int) := of_decide_eq_true (by first | (with_reducible assumption) | assumption); have q223 : a0_3 < (l0_1.length : Int) := of_decide_eq_true (by first | (with_reducible assumption) | assumption); obtain ⟨ad223, e223, hx223_0⟩ := Kd.at_string HR0_1.out a0_3 p223 q223; cases e223; replace hx223_0 := (HB.out.cell (World.block_lt_of_cell? w _ hx223_0)).trans hx223_0; replace p223 := eq_true p223; replace q223 := eq_true q223)); try go_wp2_with (first | (go_at_call 16; (with_reducible refine (table_Find.calls t208 (rdOf ByteArray.empty l0_0 a0_3) t221 true _ ?lg A39.out).mono ?_); (case lg => exact (HG.out.below (by repeat (first | (with_reducible first | exact HB.out | apply below_alloc | apply pw_below_drewN | apply below_drew1 | refine below_set ?_ GE206.out) | exact HB.out)))); rintro e w43 ⟨rfl, hb⟩; have n0_ := Aside0.mk (blk_below (g := gb206) (o := .cells #[.slice (some ad220) l0_0.length c0_0, .slice A0_1 l0_1.length c0_1, .string a0_2, .int .i64 a0_3] 39 (0, 0)) (by (with_reducible repeat (first | refine blk_drewN ?_ _ | refine blk_drew ?_ | refine blk_alloc ?_ _)); exact BK206.out) hb); have n1_ := Aside0.mk (below_step (by repeat (first | (with_reducible first | exact HB.out | apply below_alloc | apply pw_below_drewN | apply below_drew1 | refine below_set ?_ GE206.out) | exact HB.out)) hb); clear BK206; clear HB; have BK206 := n0_; have HB := n1_; clear n0_ n1_; (try clear hb); (try clear hb2); (try clear hk); (try clear hi); have p223 : 0 ≤ (a0_3 : Int) := of_decide_eq_true (by first | (with_reducible assumption) | assumption); have q223 : a0_3 < (l0_1.length : Int) := of_decide_eq_true (by first | (with_reducible assumption) | assumption); obtain ⟨ad223, e223, hx223_0⟩ := Kd.at_string HR0_1.out a0_3 p223 q223; cases e223; replace hx223_0 := (HB.out.cell (World.block_lt_of_cell? w _ hx223_0)).trans hx223_0; replace p223 := eq_true p223; replace q223 := eq_true q223)))
                                    go_ret
                                    exact ⟨by have HR0_ := HR_.out; first | exact congrArg (fun b_ => Ending.returned (Value.bool b_)) HR0_ | (simpa using HR0_) | rfl | (simp [errW_none, errW_some] <;> rfl) | (simp [*, errW_none, errW_some] <;> rfl), by repeat (first | (with_reducible first | exact HB.out | apply below_alloc | apply pw_below_drewN | apply below_drew1 | refine below_set ?_ GE206.out) | exact HB.out)⟩
                                  · rw [if_neg c42] at H
                                    exact absurd H (by simp)
                                · replace c41 := Bool.eq_false_iff.mpr c41
                                  subst c41
                                  have H1 : (some false) = some true := by rw [if_neg (show ¬ (false = true) by decide)] at H; first | done | exact H
                                  clear H
                                  have H := H1
                                  clear H1
                                  exact absurd H (by decide)
                              · replace c40 := Bool.eq_false_iff.mpr c40
                                subst c40
                                have H1 : (some false) = some true := by rw [if_neg (show ¬ (false = true) by decide)] at H; first | done | exact H
                                clear H
                                have H := H1
                                clear H1
                                exact absurd H (by decide)
                            · rw [if_neg c38] at H
                              exact absurd H (by simp)
                          · rw [if_neg c37] at H
                            exact absurd H (by simp)
      · rw [if_neg c9] at H
        exact absurd H (by simp)
    · rw [if_neg c8] at H
      have c8b0 : (t209 == 0) = false := beq_eq_false_iff_ne.mpr c8
      have c8b1 : (t209 != 0) = true := bne_iff_ne.mpr c8
      by_cases c46 : t207 = true
      · subst c46
        have H1 : (some (t208.toList == ([] : List UInt8))) = some true := by rw [if_pos rfl] at H; first | done | exact H
        clear H
        have H := H1
        clear H1
        have HR_ := Aside0.mk (Option.some.inj H)
        clear H
        go_enter Tryd.func7, Tryd.ntmps7
        go_wp2_with (first | ((with_reducible refine gate_dst (N := 1) rfl ?_); refine box_event ?hg (N := 1) ?hd (cs := #[.slice A0_0 l0_0.length c0_0, .slice A0_1 l0_1.length c0_1, .string a0_2, .int .i64 a0_3]) (t := 39) ?hr ?_; (case hd => rfl); (case hg => rfl); (case hr => first | (go_simp; done) | (go_simp; rfl)); intro gb206 hg w47 hbox hb; have n0_ := Aside0.mk (below_step (by repeat (first | (with_reducible first | exact HB.out | apply below_alloc | apply pw_below_drewN | apply below_drew1) | exact HB.out)) hb); have n1_ := Aside0.mk (hbox); have n2_ := Aside0.mk ((by rw [hg]; exact (below_size (by repeat (first | (with_reducible first | exact HB.out | apply below_alloc | apply pw_below_drewN | apply below_drew1) | exact HB.out))) : w.heap.size ≤ gb206)); have n3_ := Aside0.mk ((by rw [hg]; exact (below_size (by repeat (first | (with_reducible first | exact HB.out | apply below_alloc | apply pw_below_drewN | apply below_drew1) | exact HB.out))) : w.heap.size ≤ gb206)); clear HB; have HB := n0_; have BK206 := n1_; have GW206 := n2_; have GE206 := n3_; clear n0_ n1_ n2_ n3_; clear hb hbox hg; have hcz48_0 : w47.cell? ⟨gb206, 0, none⟩ = some (.slice A0_0 l0_0.length c0_0) := (blk_cell BK206.out 0).trans rfl; have hcz48_1 : w47.cell? ⟨gb206, 1, none⟩ = some (.slice A0_1 l0_1.length c0_1) := (blk_cell BK206.out 1).trans rfl; have hcz48_2 : w47.cell? ⟨gb206, 2, none⟩ = some (.string a0_2) := (blk_cell BK206.out 2).trans rfl; have hcz48_3 : w47.cell? ⟨gb206, 3, none⟩ = some (.int .i64 a0_3) := (blk_cell BK206.out 3).trans rfl; have hfz48_0 := blk_frozen BK206.out 0; have hfz48_1 := blk_frozen BK206.out 1; have hfz48_2 := blk_frozen BK206.out 2; have hfz48_3 := blk_frozen BK206.out 3) | (go_at_call 10; (with_reducible refine (interchangelaw03_shown.calls true _ ?lg A2.out).mono ?_); (case lg => exact (HG.out.below (by repeat (first | (with_reducible first | exact HB.out | apply below_alloc | apply pw_below_drewN | apply below_drew1 | refine below_set ?_ GE206.out) | exact HB.out)))); rintro e w49 ⟨rfl, hb⟩; have n0_ := Aside0.mk (blk_below (g := gb206) (o := .cells #[.slice A0_0 l0_0.length c0_0, .slice A0_1 l0_1.length c0_1, .string a0_2, .int .i64 a0_3] 39 (0, 0)) (by (with_reducible repeat (first | refine blk_drewN ?_ _ | refine blk_drew ?_ | refine blk_alloc ?_ _)); exact BK206.out) hb); have n1_ := Aside0.mk (below_step (by repeat (first | (with_reducible first | exact HB.out | apply below_alloc | apply pw_below_drewN | apply below_drew1 | refine below_set ?_ GE206.out) | exact HB.out)) hb); clear BK206; clear HB; have BK206 := n0_; have HB := n1_; clear n0_ n1_; (try clear hb); (try clear hb2); (try clear hk); (try clear hi)) | (go_at_call 12; (with_reducible refine (table_Make.calls _ _ l0_0 _ _ l0_1 t208 t209 _ ?lg ?side1 ?side2 ?side3 ?side4 A7.out).mono ?_); (case lg => exact (HG.out.below (by repeat (first | (with_reducible first | exact HB.out | apply below_alloc | apply pw_below_drewN | apply below_drew1 | refine below_set ?_ GE206.out) | exact HB.out)))); (case side1 => repeat (first | exact (Kd.C_below HR0_0.out HB.out) | (with_reducible refine Kd.C_alloc ?_ _) | (with_reducible refine Kd.C_drewN ?_ _) | (with_reducible refine Kd.C_drew ?_))); (case side2 => exact HC0_0.out); (case side3 => repeat (first | exact (Kd.C_below HR0_1.out HB.out) | (with_reducible refine Kd.C_alloc ?_ _) | (with_reducible refine Kd.C_drewN ?_ _) | (with_reducible refine Kd.C_drew ?_))); (case side4 => exact HC0_1.out); rintro e w50 ⟨rfl, hb⟩; have n0_ := Aside0.mk (blk_below (g := gb206) (o := .cells #[.slice A0_0 l0_0.length c0_0, .slice A0_1 l0_1.length c0_1, .string a0_2, .int .i64 a0_3] 39 (0, 0)) (by (with_reducible repeat (first | refine blk_drewN ?_ _ | refine blk_drew ?_ | refine blk_alloc ?_ _)); exact BK206.out) hb); have n1_ := Aside0.mk (below_step (by repeat (first | (with_reducible first | exact HB.out | apply below_alloc | apply pw_below_drewN | apply below_drew1 | refine below_set ?_ GE206.out) | exact HB.out)) hb); clear BK206; clear HB; have BK206 := n0_; have HB := n1_; clear n0_ n1_; (try clear hb); (try clear hb2); (try clear hk); (try clear hi)))
        repeat (go_quiet (first | ((with_reducible refine gate_dst (N := 1) rfl ?_); refine box_event ?hg (N := 1) ?hd (cs := #[.slice A0_0 l0_0.length c0_0, .slice A0_1 l0_1.length c0_1, .string a0_2, .int .i64 a0_3]) (t := 39) ?hr ?_; (case hd => rfl); (case hg => rfl); (case hr => first | (go_simp; done) | (go_simp; rfl)); intro gb206 hg w47 hbox hb; have n0_ := Aside0.mk (below_step (by repeat (first | (with_reducible first | exact HB.out | apply below_alloc | apply pw_below_drewN | apply below_drew1) | exact HB.out)) hb); have n1_ := Aside0.mk (hbox); have n2_ := Aside0.mk ((by rw [hg]; exact (below_size (by repeat (first | (with_reducible first | exact HB.out | apply below_alloc | apply pw_below_drewN | apply below_drew1) | exact HB.out))) : w.heap.size ≤ gb206)); have n3_ := Aside0.mk ((by rw [hg]; exact (below_size (by repeat (first | (with_reducible first | exact HB.out | apply below_alloc | apply pw_below_drewN | apply below_drew1) | exact HB.out))) : w.heap.size ≤ gb206)); clear HB; have HB := n0_; have BK206 := n1_; have GW206 := n2_; have GE206 := n3_; clear n0_ n1_ n2_ n3_; clear hb hbox hg; have hcz48_0 : w47.cell? ⟨gb206, 0, none⟩ = some (.slice A0_0 l0_0.length c0_0) := (blk_cell BK206.out 0).trans rfl; have hcz48_1 : w47.cell? ⟨gb206, 1, none⟩ = some (.slice A0_1 l0_1.length c0_1) := (blk_cell BK206.out 1).trans rfl; have hcz48_2 : w47.cell? ⟨gb206, 2, none⟩ = some (.string a0_2) := (blk_cell BK206.out 2).trans rfl; have hcz48_3 : w47.cell? ⟨gb206, 3, none⟩ = some (.int .i64 a0_3) := (blk_cell BK206.out 3).trans rfl; have hfz48_0 := blk_frozen BK206.out 0; have hfz48_1 := blk_frozen BK206.out 1; have hfz48_2 := blk_frozen BK206.out 2; have hfz48_3 := blk_frozen BK206.out 3) | (go_at_call 10; (with_reducible refine (interchangelaw03_shown.calls true _ ?lg A2.out).mono ?_); (case lg => exact (HG.out.below (by repeat (first | (with_reducible first | exact HB.out | apply below_alloc | apply pw_below_drewN | apply below_drew1 | refine below_set ?_ GE206.out) | exact HB.out)))); rintro e w49 ⟨rfl, hb⟩; have n0_ := Aside0.mk (blk_below (g := gb206) (o := .cells #[.slice A0_0 l0_0.length c0_0, .slice A0_1 l0_1.length c0_1, .string a0_2, .int .i64 a0_3] 39 (0, 0)) (by (with_reducible repeat (first | refine blk_drewN ?_ _ | refine blk_drew ?_ | refine blk_alloc ?_ _)); exact BK206.out) hb); have n1_ := Aside0.mk (below_step (by repeat (first | (with_reducible first | exact HB.out | apply below_alloc | apply pw_below_drewN | apply below_drew1 | refine below_set ?_ GE206.out) | exact HB.out)) hb); clear BK206; clear HB; have BK206 := n0_; have HB := n1_; clear n0_ n1_; (try clear hb); (try clear hb2); (try clear hk); (try clear hi)) | (go_at_call 12; (with_reducible refine (table_Make.calls _ _ l0_0 _ _ l0_1 t208 t209 _ ?lg ?side1 ?side2 ?side3 ?side4 A7.out).mono ?_); (case lg => exact (HG.out.below (by repeat (first | (with_reducible first | exact HB.out | apply below_alloc | apply pw_below_drewN | apply below_drew1 | refine below_set ?_ GE206.out) | exact HB.out)))); (case side1 => repeat (first | exact (Kd.C_below HR0_0.out HB.out) | (with_reducible refine Kd.C_alloc ?_ _) | (with_reducible refine Kd.C_drewN ?_ _) | (with_reducible refine Kd.C_drew ?_))); (case side2 => exact HC0_0.out); (case side3 => repeat (first | exact (Kd.C_below HR0_1.out HB.out) | (with_reducible refine Kd.C_alloc ?_ _) | (with_reducible refine Kd.C_drewN ?_ _) | (with_reducible refine Kd.C_drew ?_))); (case side4 => exact HC0_1.out); rintro e w50 ⟨rfl, hb⟩; have n0_ := Aside0.mk (blk_below (g := gb206) (o := .cells #[.slice A0_0 l0_0.length c0_0, .slice A0_1 l0_1.length c0_1, .string a0_2, .int .i64 a0_3] 39 (0, 0)) (by (with_reducible repeat (first | refine blk_drewN ?_ _ | refine blk_drew ?_ | refine blk_alloc ?_ _)); exact BK206.out) hb); have n1_ := Aside0.mk (below_step (by repeat (first | (with_reducible first | exact HB.out | apply below_alloc | apply pw_below_drewN | apply below_drew1 | refine below_set ?_ GE206.out) | exact HB.out)) hb); clear BK206; clear HB; have BK206 := n0_; have HB := n1_; clear n0_ n1_; (try clear hb); (try clear hb2); (try clear hk); (try clear hi))); try go_wp2_with (first | ((with_reducible refine gate_dst (N := 1) rfl ?_); refine box_event ?hg (N := 1) ?hd (cs := #[.slice A0_0 l0_0.length c0_0, .slice A0_1 l0_1.length c0_1, .string a0_2, .int .i64 a0_3]) (t := 39) ?hr ?_; (case hd => rfl); (case hg => rfl); (case hr => first | (go_simp; done) | (go_simp; rfl)); intro gb206 hg w47 hbox hb; have n0_ := Aside0.mk (below_step (by repeat (first | (with_reducible first | exact HB.out | apply below_alloc | apply pw_below_drewN | apply below_drew1) | exact HB.out)) hb); have n1_ := Aside0.mk (hbox); have n2_ := Aside0.mk ((by rw [hg]; exact (below_size (by repeat (first | (with_reducible first | exact HB.out | apply below_alloc | apply pw_below_drewN | apply below_drew1) | exact HB.out))) : w.heap.size ≤ gb206)); have n3_ := Aside0.mk ((by rw [hg]; exact (below_size (by repeat (first | (with_reducible first | exact HB.out | apply below_alloc | apply pw_below_drewN | apply below_drew1) | exact HB.out))) : w.heap.size ≤ gb206)); clear HB; have HB := n0_; have BK206 := n1_; have GW206 := n2_; have GE206 := n3_; clear n0_ n1_ n2_ n3_; clear hb hbox hg; have hcz48_0 : w47.cell? ⟨gb206, 0, none⟩ = some (.slice A0_0 l0_0.length c0_0) := (blk_cell BK206.out 0).trans rfl; have hcz48_1 : w47.cell? ⟨gb206, 1, none⟩ = some (.slice A0_1 l0_1.length c0_1) := (blk_cell BK206.out 1).trans rfl; have hcz48_2 : w47.cell? ⟨gb206, 2, none⟩ = some (.string a0_2) := (blk_cell BK206.out 2).trans rfl; have hcz48_3 : w47.cell? ⟨gb206, 3, none⟩ = some (.int .i64 a0_3) := (blk_cell BK206.out 3).trans rfl; have hfz48_0 := blk_frozen BK206.out 0; have hfz48_1 := blk_frozen BK206.out 1; have hfz48_2 := blk_frozen BK206.out 2; have hfz48_3 := blk_frozen BK206.out 3) | (go_at_call 10; (with_reducible refine (interchangelaw03_shown.calls true _ ?lg A2.out).mono ?_); (case lg => exact (HG.out.below (by repeat (first | (with_reducible first | exact HB.out | apply below_alloc | apply pw_below_drewN | apply below_drew1 | refine below_set ?_ GE206.out) | exact HB.out)))); rintro e w49 ⟨rfl, hb⟩; have n0_ := Aside0.mk (blk_below (g := gb206) (o := .cells #[.slice A0_0 l0_0.length c0_0, .slice A0_1 l0_1.length c0_1, .string a0_2, .int .i64 a0_3] 39 (0, 0)) (by (with_reducible repeat (first | refine blk_drewN ?_ _ | refine blk_drew ?_ | refine blk_alloc ?_ _)); exact BK206.out) hb); have n1_ := Aside0.mk (below_step (by repeat (first | (with_reducible first | exact HB.out | apply below_alloc | apply pw_below_drewN | apply below_drew1 | refine below_set ?_ GE206.out) | exact HB.out)) hb); clear BK206; clear HB; have BK206 := n0_; have HB := n1_; clear n0_ n1_; (try clear hb); (try clear hb2); (try clear hk); (try clear hi)) | (go_at_call 12; (with_reducible refine (table_Make.calls _ _ l0_0 _ _ l0_1 t208 t209 _ ?lg ?side1 ?side2 ?side3 ?side4 A7.out).mono ?_); (case lg => exact (HG.out.below (by repeat (first | (with_reducible first | exact HB.out | apply below_alloc | apply pw_below_drewN | apply below_drew1 | refine below_set ?_ GE206.out) | exact HB.out)))); (case side1 => repeat (first | exact (Kd.C_below HR0_0.out HB.out) | (with_reducible refine Kd.C_alloc ?_ _) | (with_reducible refine Kd.C_drewN ?_ _) | (with_reducible refine Kd.C_drew ?_))); (case side2 => exact HC0_0.out); (case side3 => repeat (first | exact (Kd.C_below HR0_1.out HB.out) | (with_reducible refine Kd.C_alloc ?_ _) | (with_reducible refine Kd.C_drewN ?_ _) | (with_reducible refine Kd.C_drew ?_))); (case side4 => exact HC0_1.out); rintro e w50 ⟨rfl, hb⟩; have n0_ := Aside0.mk (blk_below (g := gb206) (o := .cells #[.slice A0_0 l0_0.length c0_0, .slice A0_1 l0_1.length c0_1, .string a0_2, .int .i64 a0_3] 39 (0, 0)) (by (with_reducible repeat (first | refine blk_drewN ?_ _ | refine blk_drew ?_ | refine blk_alloc ?_ _)); exact BK206.out) hb); have n1_ := Aside0.mk (below_step (by repeat (first | (with_reducible first | exact HB.out | apply below_alloc | apply pw_below_drewN | apply below_drew1 | refine below_set ?_ GE206.out) | exact HB.out)) hb); clear BK206; clear HB; have BK206 := n0_; have HB := n1_; clear n0_ n1_; (try clear hb); (try clear hb2); (try clear hk); (try clear hi))))
        go_ret
        exact ⟨by have HR0_ := HR_.out; first | exact congrArg (fun b_ => Ending.returned (Value.bool b_)) HR0_ | (simpa using HR0_) | rfl | (simp [errW_none, errW_some] <;> rfl) | (simp [*, errW_none, errW_some] <;> rfl), by repeat (first | (with_reducible first | exact HB.out | apply below_alloc | apply pw_below_drewN | apply below_drew1 | refine below_set ?_ GE206.out) | exact HB.out)⟩
      · replace c46 := Bool.eq_false_iff.mpr c46
        subst c46
        have H1 : (some false) = some true := by rw [if_neg (show ¬ (false = true) by decide)] at H; first | done | exact H
        clear H
        have H := H1
        clear H1
        exact absurd H (by decide)


end Go.Proofs.YthdkmohelampbaaDoor.F
namespace Go.Proofs.YthdkmohelampbaaDoor.F
open Go.RowKit Go.Proofs.YthdkmohelampbaaDoorW.PrintWords Go.Proofs.YthdkmohelampbaaDoorW.PrintLast Go.Proofs.YthdkmohelampbaaDoorW.PrintMore
set_option linter.unusedVariables false
set_option linter.unusedSimpArgs false

theorem drop_split {β : Type} (cs : List β) (o n : Nat) : cs.drop o = (cs.drop o).take n ++ cs.drop (o + n) := by
  rw [← List.drop_drop, List.take_append_drop]

structure Opened {α : Type} (t : TypeId) (R : World → α → List Value → Prop) (good sized : α → Prop) (bulk : α → Nat) : Prop where
  out : ∀ {H : Type} (enc : TypeId × Value → H) (W : World) (fuel : Nat) (cs : List Value) (y : DataW H × List MemPlace),
    DataW.trod enc Tryd.prog W 0 (fun _ => true) true fuel t cs = some y → ∃ a : α, R W a cs ∧ good a ∧ ((∀ n ∈ y.1.weights Tryd.prog t, n ≤ reachBytes) → sized a) ∧ bulk a ≤ Rows.uptoBulk y.1

theorem Opened.iso {α β : Type} {t : TypeId} {R : World → α → List Value → Prop} {g s : α → Prop} {b : α → Nat} (h : Opened t R g s b) (f : α → β) {R' : World → β → List Value → Prop} {g' s' : β → Prop} {b' : β → Nat}
    (hR : ∀ W a cs, R W a cs → R' W (f a) cs) (hg : ∀ a, g a → g' (f a)) (hs : ∀ a, s a → s' (f a)) (hb : ∀ a, b' (f a) ≤ b a) : Opened t R' g' s' b' := by
  constructor
  intro H enc W fuel cs y hy
  obtain ⟨a, r, k, z, u⟩ := h.out enc W fuel cs y hy
  exact ⟨f a, hR _ _ _ r, hg _ k, fun hw => hs _ (z hw), Nat.le_trans (hb a) u⟩

theorem opened_int {t : TypeId} {k : IntKind} (ht : Tryd.prog.underlying t = some (.int k)) : Opened t (Kd.int k).K (fun a => (Lit.int k a).wf = true) (fun _ => True) (fun _ => 1) := by
  constructor
  intro H enc W fuel cs y hy
  cases fuel with
  | zero => simp [DataW.trod] at hy
  | succ fuel =>
    unfold DataW.trod at hy
    rw [ht] at hy
    split at hy <;> simp_all
    obtain ⟨⟨rfl, h⟩, rfl⟩ := hy
    exact ⟨_, rfl, h, by simp [Rows.uptoBulk]⟩
theorem opened_bool {t : TypeId} (ht : Tryd.prog.underlying t = some .bool) : Opened t Kd.bool.K (fun _ => True) (fun _ => True) (fun _ => 1) := by
  constructor
  intro H enc W fuel cs y hy
  cases fuel with
  | zero => simp [DataW.trod] at hy
  | succ fuel =>
    unfold DataW.trod at hy
    rw [ht] at hy
    cases cs with
    | nil => simp at hy
    | cons v r =>
      cases r with
      | cons _ _ => cases v <;> simp at hy
      | nil =>
        cases v <;> simp at hy
        rename_i b
        subst hy
        exact ⟨b, rfl, trivial, fun _ => trivial, by simp [Rows.uptoBulk]⟩
theorem opened_string {t : TypeId} (ht : Tryd.prog.underlying t = some .string) : Opened t Kd.string.K (fun a => a.size ≤ maxLen) (fun a => a.size ≤ 140737488351232) (fun a => a.size + 1) := by
  constructor
  intro H enc W fuel cs y hy
  cases fuel with
  | zero => simp [DataW.trod] at hy
  | succ fuel =>
    unfold DataW.trod at hy
    rw [ht] at hy
    cases cs with
    | nil => simp at hy
    | cons v r =>
      cases r with
      | cons _ _ => cases v <;> simp at hy
      | nil =>
        cases v <;> simp at hy
        rename_i s
        obtain ⟨h, rfl⟩ := hy
        have e : s.data.toList.length = s.size := by simp
        refine ⟨s, rfl, h, ?_, ?_⟩
        · intro hw
          have := hw s.data.toList.length (by simp [DataW.weights])
          rw [e] at this
          exact Nat.le_trans this (by decide)
        · simp only [Rows.uptoBulk]; omega

/-- a value's shape, out of its one cell -/
theorem shape_int {t : TypeId} {k : IntKind} {W : World} {r : Reach} {b : Nat} {v : Value} {a : Int} (ht : Tryd.prog.underlying t = some (.int k)) (hv : Value.okWide Tryd.prog W r b t v) (h : (Kd.int k).K W a v.cells.toList) : v = .int k a := by
  obtain ⟨n, rfl⟩ := WideShapes.okWide_int ht hv
  have h' : [Value.int k n] = [Value.int k a] := h
  simpa using h'
theorem shape_bool {t : TypeId} {W : World} {r : Reach} {b : Nat} {v : Value} {a : Bool} (ht : Tryd.prog.underlying t = some .bool) (hv : Value.okWide Tryd.prog W r b t v) (h : Kd.bool.K W a v.cells.toList) : v = .bool a := by
  obtain ⟨n, rfl⟩ := WideShapes.okWide_bool ht hv
  have h' : [Value.bool n] = [Value.bool a] := h
  simpa using h'
theorem shape_string {t : TypeId} {W : World} {r : Reach} {b : Nat} {v : Value} {a : ByteArray} (ht : Tryd.prog.underlying t = some .string) (hv : Value.okWide Tryd.prog W r b t v) (h : Kd.string.K W a v.cells.toList) : v = .string a := by
  obtain ⟨n, rfl⟩ := WideShapes.okWide_string ht hv
  have h' : [Value.string n] = [Value.string a] := h
  simpa using h'
theorem shape_slice {α : Type} {t e : TypeId} {d : Kd α} {W : World} {r : Reach} {b : Nat} {v : Value} {l : List α} (ht : Tryd.prog.underlying t = some (.slice e)) (hv : Value.okWide Tryd.prog W r b t v) (h : (Kd.slice e d).K W l v.cells.toList) : ∃ A c, v = .slice A l.length c ∧ l.length ≤ c ∧ d.C W A l.length l := by
  obtain ⟨a, n, m, rfl⟩ := WideShapes.okWide_slice ht hv
  obtain ⟨A, c, h1, h2, h3⟩ := h
  have h' : [Value.slice a n m] = [Value.slice A l.length c] := h1
  exact ⟨A, c, by simpa using h', h2, h3⟩
theorem shape_struct {t : TypeId} {fs : Array Field} {W : World} {r : Reach} {b : Nat} {v : Value} {l : List Value} (ht : Tryd.prog.underlying t = some (.struct fs)) (hv : Value.okWide Tryd.prog W r b t v) (h : v.cells.toList = l) : v = .agg l.toArray := by
  obtain ⟨cs, rfl, _⟩ := WideShapes.okWide_struct ht hv
  have h' : cs.toList = l := h
  subst h'
  rfl
theorem laid_out : laidOutB Tryd.prog = true := by kernel_rfl
theorem own_knob : ownKnob Tryd.prog.godebug = none := by kernel_rfl

theorem exists_list {α : Type} {n : Nat} {p : Nat → α → Prop} (h : ∀ i, i < n → ∃ x, p i x) : ∃ l : List α, l.length = n ∧ ∀ i x, l[i]? = some x → p i x := by
  induction n with
  | zero => exact ⟨[], rfl, fun i x hx => by simp at hx⟩
  | succ n ih =>
    obtain ⟨l, hl, hp⟩ := ih (fun i hi => h i (by omega))
    obtain ⟨x, hx⟩ := h n (by omega)
    refine ⟨l ++ [x], by simp [hl], fun i y hy => ?_⟩
    rcases Nat.lt_trichotomy i l.length with hlt | heq | hgt
    · rw [List.getElem?_append_left hlt] at hy; exact hp i y hy
    · subst heq
      rw [List.getElem?_append_right (Nat.le_refl _)] at hy
      simp at hy
      subst hy
      rw [hl]; exact hx
    · rw [List.getElem?_append_right (by omega)] at hy
      have : i - l.length = (i - l.length - 1) + 1 := by omega
      rw [this] at hy
      simp at hy

theorem bulk_sum {α H : Type} (b : α → Nat) : ∀ (l : List α) (ds : List (DataW H)), l.length = ds.length → (∀ (i : Nat) (x : α) (d : DataW H), l[i]? = some x → ds[i]? = some d → b x ≤ Rows.uptoBulk d) → (l.map b).sum ≤ Rows.uptoBulkAll ds
  | [], [], _, _ => by simp [Rows.uptoBulkAll]
  | x :: l, d :: ds, h, hb => by
    have h1 := hb 0 x d rfl rfl
    have h2 := bulk_sum b l ds (by simpa using h) (fun i y e hy he => hb (i + 1) y e (by simpa using hy) (by simpa using he))
    simp only [List.map_cons, List.sum_cons, Rows.uptoBulkAll]
    omega
  | [], _ :: _, h, _ => by simp at h
  | _ :: _, [], h, _ => by simp at h

theorem weights_mem_all {H : Type} {P : Program} {e : TypeId} : ∀ {ds : List (DataW H)} {d : DataW H} {n : Nat}, d ∈ ds → n ∈ d.weights P e → n ∈ DataW.weightsAll P e ds
  | x :: ds, d, n, hd, hn => by
    simp only [DataW.weightsAll, List.mem_append]
    rcases List.mem_cons.1 hd with rfl | hd
    · exact .inl hn
    · exact .inr (weights_mem_all hd hn)
  | [], _, _, hd, _ => by simp at hd

theorem opened_slice {α : Type} {t e : TypeId} {d : Kd α} {g s : α → Prop} {b : α → Nat} (ht : Tryd.prog.underlying t = some (.slice e)) (hsz : Tryd.prog.cellsOf e = d.sz) (h : Opened e d.K g s b) :
    Opened t (Kd.slice e d).K (fun l => l.length ≤ maxLen ∧ ∀ x ∈ l, g x) (fun l => l.length * Tryd.prog.bytesOf e ≤ 140737488351232 ∧ ∀ x ∈ l, s x) (fun l => (l.map b).sum + 1) := by
  constructor
  intro H enc W fuel cs y hy
  rcases DataW.trod_slice ht hy with ⟨rfl, rfl⟩ | ⟨a, len, cap, elems, rest, n, rfl, rfl, rfl, hba, hl, hm, hlen, hel, _, _⟩
  · refine ⟨[], ⟨none, 0, rfl, Nat.le_refl _, rfl, by simp, fun h0 => absurd h0 (by simp)⟩, ⟨by simp, by simp⟩, fun _ => ⟨by simp, by simp⟩, by simp [Rows.uptoBulk]⟩
  · have hx : ∀ i, i < len → ∃ x : α, (∃ c y, W.cells? 0 (a.add (i * Tryd.prog.cellsOf e)) (Tryd.prog.cellsOf e) = some c ∧ elems[i]? = some y ∧ d.K W x c ∧ g x ∧ ((∀ n ∈ y.1.weights Tryd.prog e, n ≤ reachBytes) → s x) ∧ b x ≤ Rows.uptoBulk y.1) := by
      intro i hi
      have h1 := hel i hi
      have h2 : elems[i]? = some elems[i] := List.getElem?_eq_getElem (by omega)
      rw [h2] at h1
      obtain ⟨c, hc, hd⟩ := Option.bind_eq_some_iff.1 h1
      obtain ⟨x, r, k, z, u⟩ := h.out enc W n c _ hd
      exact ⟨x, c, _, hc, h2, r, k, z, u⟩
    obtain ⟨l, hll, hp⟩ := exists_list hx
    have hmem : ∀ x ∈ l, ∃ y, y ∈ elems ∧ g x ∧ ((∀ n ∈ y.1.weights Tryd.prog e, n ≤ reachBytes) → s x) := by
      intro x hx
      obtain ⟨i, hi⟩ := List.mem_iff_getElem?.1 hx
      obtain ⟨c, y, _, hy, _, k, z, _⟩ := hp i x hi
      exact ⟨y, List.mem_of_getElem? hy, k, z⟩
    refine ⟨l, ⟨some a, cap, by rw [hll], by omega, rfl, ?_, fun h0 => ⟨a, rfl, fun j p hj => ?_⟩⟩, ⟨by omega, fun x hx => ?_⟩, fun hw => ⟨?_, fun x hx => ?_⟩, ?_⟩
    · unfold maxLen at hm; omega
    · obtain ⟨c, y, hc, _, r, _⟩ := hp j p hj
      obtain ⟨_, hc1, hc2⟩ := World.cells?_some hc
      refine ⟨c, d.K_len r, r, fun i u hu => ?_⟩
      have := hc2 i (by have := (List.getElem?_eq_some_iff.1 hu).1; omega)
      rw [hu, hsz, Deep.add_add] at this
      exact this
    · obtain ⟨y, _, k, _⟩ := hmem x hx
      exact k
    · have := hw ((elems.length + rest.length) * Tryd.prog.bytesOf e) (by simp [DataW.weights, ht])
      have h2 : l.length * Tryd.prog.bytesOf e ≤ (elems.length + rest.length) * Tryd.prog.bytesOf e := Nat.mul_le_mul_right _ (by omega)
      exact Nat.le_trans (Nat.le_trans h2 this) (by decide)
    · obtain ⟨y, hy, _, z⟩ := hmem x hx
      exact z fun n hn => hw n (by
        simp only [DataW.weights, ht, List.mem_cons, List.mem_append]
        exact .inr (.inl (weights_mem_all (List.mem_map_of_mem hy) hn)))
    · have := bulk_sum b l (elems.map (·.1)) (by simp; omega) (fun i x dd hx hd => by
        obtain ⟨c, y, _, hy, _, _, _, u⟩ := hp i x hx
        rw [List.getElem?_map, hy] at hd
        simp at hd
        subst hd
        exact u)
      simp only [Rows.uptoBulk]
      omega

theorem cells_split1 {β : Type} {cs : List β} {n0 : Nat} (h : cs.length = n0) : cs = (cs.drop (0)).take n0 := by
  have q : (cs.drop (0)).take n0 = cs.drop (0) := List.take_of_length_le (by rw [List.length_drop]; omega)
  rw [q]
  rfl
theorem opened_struct1 {α0 : Type} {t : TypeId} {f0 : Field} {n0 : Nat}
    {R0 : World → α0 → List Value → Prop} {g0 s0 : α0 → Prop} {b0 : α0 → Nat}
    (hs : Tryd.prog.underlying t = some (.struct #[f0])) (hc : Tryd.prog.cellsOf t = n0)
    (hn0 : Tryd.prog.cellsOf f0.type = n0) (ho0 : f0.offset = 0) (h0 : Opened f0.type R0 g0 s0 b0)
    : Opened t (fun W (a : α0) cs => ∃ c0, cs = c0 ∧ R0 W a c0) (fun a => g0 a) (fun a => s0 a) (fun a => b0 a) := by
  constructor
  intro H enc W fuel cs y hy
  obtain ⟨xs, m, rfl, rfl, hl, hx, hf⟩ := DataW.trod_struct hs hy
  obtain ⟨x0, rfl⟩ : ∃ x0, xs = [x0] := by
    match xs, hx with
    | [x0], _ => exact ⟨x0, rfl⟩
  have e0 := hf 0 f0 rfl
  rw [hn0, ho0] at e0
  obtain ⟨a0, r0, k0, z0, u0⟩ := h0.out enc W m _ _ (e0.trans rfl)
  rw [hc] at hl
  refine ⟨a0, ⟨_, ?_, r0⟩, k0, fun hw => ?_, ?_⟩
  · exact cells_split1 hl
  · have hw' : ∀ n ∈ DataW.weightsEach Tryd.prog [f0.type] [x0.1], n ≤ reachBytes := fun n hn => hw n (by simp only [DataW.weights, hs]; exact hn)
    exact z0 fun n hn => hw' n (DataW.weights_mem_each (j := 0) rfl rfl n hn)
  · simp only [Rows.uptoBulk, Rows.uptoBulkAll, List.map]
    omega

theorem cells_split2 {β : Type} {cs : List β} {n0 n1 : Nat} (h : cs.length = n0 + n1) : cs = (cs.drop (0)).take n0 ++ ((cs.drop (n0)).take n1) := by
  have p0 := drop_split cs (0) n0
  rw [Nat.zero_add] at p0
  have q : (cs.drop (n0)).take n1 = cs.drop (n0) := List.take_of_length_le (by rw [List.length_drop]; omega)
  rw [q]
  rw [← p0]
  rfl
theorem opened_struct2 {α0 α1 : Type} {t : TypeId} {f0 f1 : Field} {n0 n1 : Nat}
    {R0 : World → α0 → List Value → Prop} {g0 s0 : α0 → Prop} {b0 : α0 → Nat}
    {R1 : World → α1 → List Value → Prop} {g1 s1 : α1 → Prop} {b1 : α1 → Nat}
    (hs : Tryd.prog.underlying t = some (.struct #[f0, f1])) (hc : Tryd.prog.cellsOf t = n0 + n1)
    (hn0 : Tryd.prog.cellsOf f0.type = n0) (ho0 : f0.offset = 0) (h0 : Opened f0.type R0 g0 s0 b0)
    (hn1 : Tryd.prog.cellsOf f1.type = n1) (ho1 : f1.offset = n0) (h1 : Opened f1.type R1 g1 s1 b1)
    : Opened t (fun W (a : α0 × α1) cs => ∃ c0 c1, cs = c0 ++ (c1) ∧ R0 W a.1 c0 ∧ R1 W a.2 c1) (fun a => g0 a.1 ∧ g1 a.2) (fun a => s0 a.1 ∧ s1 a.2) (fun a => b0 a.1 + b1 a.2) := by
  constructor
  intro H enc W fuel cs y hy
  obtain ⟨xs, m, rfl, rfl, hl, hx, hf⟩ := DataW.trod_struct hs hy
  obtain ⟨x0, x1, rfl⟩ : ∃ x0 x1, xs = [x0, x1] := by
    match xs, hx with
    | [x0, x1], _ => exact ⟨x0, x1, rfl⟩
  have e0 := hf 0 f0 rfl
  rw [hn0, ho0] at e0
  obtain ⟨a0, r0, k0, z0, u0⟩ := h0.out enc W m _ _ (e0.trans rfl)
  have e1 := hf 1 f1 rfl
  rw [hn1, ho1] at e1
  obtain ⟨a1, r1, k1, z1, u1⟩ := h1.out enc W m _ _ (e1.trans rfl)
  rw [hc] at hl
  refine ⟨(a0, a1), ⟨_, _, ?_, r0, r1⟩, ⟨k0, k1⟩, fun hw => ?_, ?_⟩
  · exact cells_split2 hl
  · have hw' : ∀ n ∈ DataW.weightsEach Tryd.prog [f0.type, f1.type] [x0.1, x1.1], n ≤ reachBytes := fun n hn => hw n (by simp only [DataW.weights, hs]; exact hn)
    exact ⟨z0 fun n hn => hw' n (DataW.weights_mem_each (j := 0) rfl rfl n hn), z1 fun n hn => hw' n (DataW.weights_mem_each (j := 1) rfl rfl n hn)⟩
  · simp only [Rows.uptoBulk, Rows.uptoBulkAll, List.map]
    omega

theorem cells_split3 {β : Type} {cs : List β} {n0 n1 n2 : Nat} (h : cs.length = n0 + n1 + n2) : cs = (cs.drop (0)).take n0 ++ ((cs.drop (n0)).take n1 ++ ((cs.drop (n0 + n1)).take n2)) := by
  have p0 := drop_split cs (0) n0
  rw [Nat.zero_add] at p0
  have p1 := drop_split cs (n0) n1
  have q : (cs.drop (n0 + n1)).take n2 = cs.drop (n0 + n1) := List.take_of_length_le (by rw [List.length_drop]; omega)
  rw [q]
  rw [← p1]
  rw [← p0]
  rfl
theorem opened_struct3 {α0 α1 α2 : Type} {t : TypeId} {f0 f1 f2 : Field} {n0 n1 n2 : Nat}
    {R0 : World → α0 → List Value → Prop} {g0 s0 : α0 → Prop} {b0 : α0 → Nat}
    {R1 : World → α1 → List Value → Prop} {g1 s1 : α1 → Prop} {b1 : α1 → Nat}
    {R2 : World → α2 → List Value → Prop} {g2 s2 : α2 → Prop} {b2 : α2 → Nat}
    (hs : Tryd.prog.underlying t = some (.struct #[f0, f1, f2])) (hc : Tryd.prog.cellsOf t = n0 + n1 + n2)
    (hn0 : Tryd.prog.cellsOf f0.type = n0) (ho0 : f0.offset = 0) (h0 : Opened f0.type R0 g0 s0 b0)
    (hn1 : Tryd.prog.cellsOf f1.type = n1) (ho1 : f1.offset = n0) (h1 : Opened f1.type R1 g1 s1 b1)
    (hn2 : Tryd.prog.cellsOf f2.type = n2) (ho2 : f2.offset = n0 + n1) (h2 : Opened f2.type R2 g2 s2 b2)
    : Opened t (fun W (a : α0 × α1 × α2) cs => ∃ c0 c1 c2, cs = c0 ++ (c1 ++ (c2)) ∧ R0 W a.1 c0 ∧ R1 W a.2.1 c1 ∧ R2 W a.2.2 c2) (fun a => g0 a.1 ∧ g1 a.2.1 ∧ g2 a.2.2) (fun a => s0 a.1 ∧ s1 a.2.1 ∧ s2 a.2.2) (fun a => b0 a.1 + b1 a.2.1 + b2 a.2.2) := by
  constructor
  intro H enc W fuel cs y hy
  obtain ⟨xs, m, rfl, rfl, hl, hx, hf⟩ := DataW.trod_struct hs hy
  obtain ⟨x0, x1, x2, rfl⟩ : ∃ x0 x1 x2, xs = [x0, x1, x2] := by
    match xs, hx with
    | [x0, x1, x2], _ => exact ⟨x0, x1, x2, rfl⟩
  have e0 := hf 0 f0 rfl
  rw [hn0, ho0] at e0
  obtain ⟨a0, r0, k0, z0, u0⟩ := h0.out enc W m _ _ (e0.trans rfl)
  have e1 := hf 1 f1 rfl
  rw [hn1, ho1] at e1
  obtain ⟨a1, r1, k1, z1, u1⟩ := h1.out enc W m _ _ (e1.trans rfl)
  have e2 := hf 2 f2 rfl
  rw [hn2, ho2] at e2
  obtain ⟨a2, r2, k2, z2, u2⟩ := h2.out enc W m _ _ (e2.trans rfl)
  rw [hc] at hl
  refine ⟨(a0, a1, a2), ⟨_, _, _, ?_, r0, r1, r2⟩, ⟨k0, k1, k2⟩, fun hw => ?_, ?_⟩
  · exact cells_split3 hl
  · have hw' : ∀ n ∈ DataW.weightsEach Tryd.prog [f0.type, f1.type, f2.type] [x0.1, x1.1, x2.1], n ≤ reachBytes := fun n hn => hw n (by simp only [DataW.weights, hs]; exact hn)
    exact ⟨z0 fun n hn => hw' n (DataW.weights_mem_each (j := 0) rfl rfl n hn), z1 fun n hn => hw' n (DataW.weights_mem_each (j := 1) rfl rfl n hn), z2 fun n hn => hw' n (DataW.weights_mem_each (j := 2) rfl rfl n hn)⟩
  · simp only [Rows.uptoBulk, Rows.uptoBulkAll, List.map]
    omega

theorem cells_split4 {β : Type} {cs : List β} {n0 n1 n2 n3 : Nat} (h : cs.length = n0 + n1 + n2 + n3) : cs = (cs.drop (0)).take n0 ++ ((cs.drop (n0)).take n1 ++ ((cs.drop (n0 + n1)).take n2 ++ ((cs.drop (n0 + n1 + n2)).take n3))) := by
  have p0 := drop_split cs (0) n0
  rw [Nat.zero_add] at p0
  have p1 := drop_split cs (n0) n1
  have p2 := drop_split cs (n0 + n1) n2
  have q : (cs.drop (n0 + n1 + n2)).take n3 = cs.drop (n0 + n1 + n2) := List.take_of_length_le (by rw [List.length_drop]; omega)
  rw [q]
  rw [← p2]
  rw [← p1]
  rw [← p0]
  rfl
theorem opened_struct4 {α0 α1 α2 α3 : Type} {t : TypeId} {f0 f1 f2 f3 : Field} {n0 n1 n2 n3 : Nat}
    {R0 : World → α0 → List Value → Prop} {g0 s0 : α0 → Prop} {b0 : α0 → Nat}
    {R1 : World → α1 → List Value → Prop} {g1 s1 : α1 → Prop} {b1 : α1 → Nat}
    {R2 : World → α2 → List Value → Prop} {g2 s2 : α2 → Prop} {b2 : α2 → Nat}
    {R3 : World → α3 → List Value → Prop} {g3 s3 : α3 → Prop} {b3 : α3 → Nat}
    (hs : Tryd.prog.underlying t = some (.struct #[f0, f1, f2, f3])) (hc : Tryd.prog.cellsOf t = n0 + n1 + n2 + n3)
    (hn0 : Tryd.prog.cellsOf f0.type = n0) (ho0 : f0.offset = 0) (h0 : Opened f0.type R0 g0 s0 b0)
    (hn1 : Tryd.prog.cellsOf f1.type = n1) (ho1 : f1.offset = n0) (h1 : Opened f1.type R1 g1 s1 b1)
    (hn2 : Tryd.prog.cellsOf f2.type = n2) (ho2 : f2.offset = n0 + n1) (h2 : Opened f2.type R2 g2 s2 b2)
    (hn3 : Tryd.prog.cellsOf f3.type = n3) (ho3 : f3.offset = n0 + n1 + n2) (h3 : Opened f3.type R3 g3 s3 b3)
    : Opened t (fun W (a : α0 × α1 × α2 × α3) cs => ∃ c0 c1 c2 c3, cs = c0 ++ (c1 ++ (c2 ++ (c3))) ∧ R0 W a.1 c0 ∧ R1 W a.2.1 c1 ∧ R2 W a.2.2.1 c2 ∧ R3 W a.2.2.2 c3) (fun a => g0 a.1 ∧ g1 a.2.1 ∧ g2 a.2.2.1 ∧ g3 a.2.2.2) (fun a => s0 a.1 ∧ s1 a.2.1 ∧ s2 a.2.2.1 ∧ s3 a.2.2.2) (fun a => b0 a.1 + b1 a.2.1 + b2 a.2.2.1 + b3 a.2.2.2) := by
  constructor
  intro H enc W fuel cs y hy
  obtain ⟨xs, m, rfl, rfl, hl, hx, hf⟩ := DataW.trod_struct hs hy
  obtain ⟨x0, x1, x2, x3, rfl⟩ : ∃ x0 x1 x2 x3, xs = [x0, x1, x2, x3] := by
    match xs, hx with
    | [x0, x1, x2, x3], _ => exact ⟨x0, x1, x2, x3, rfl⟩
  have e0 := hf 0 f0 rfl
  rw [hn0, ho0] at e0
  obtain ⟨a0, r0, k0, z0, u0⟩ := h0.out enc W m _ _ (e0.trans rfl)
  have e1 := hf 1 f1 rfl
  rw [hn1, ho1] at e1
  obtain ⟨a1, r1, k1, z1, u1⟩ := h1.out enc W m _ _ (e1.trans rfl)
  have e2 := hf 2 f2 rfl
  rw [hn2, ho2] at e2
  obtain ⟨a2, r2, k2, z2, u2⟩ := h2.out enc W m _ _ (e2.trans rfl)
  have e3 := hf 3 f3 rfl
  rw [hn3, ho3] at e3
  obtain ⟨a3, r3, k3, z3, u3⟩ := h3.out enc W m _ _ (e3.trans rfl)
  rw [hc] at hl
  refine ⟨(a0, a1, a2, a3), ⟨_, _, _, _, ?_, r0, r1, r2, r3⟩, ⟨k0, k1, k2, k3⟩, fun hw => ?_, ?_⟩
  · exact cells_split4 hl
  · have hw' : ∀ n ∈ DataW.weightsEach Tryd.prog [f0.type, f1.type, f2.type, f3.type] [x0.1, x1.1, x2.1, x3.1], n ≤ reachBytes := fun n hn => hw n (by simp only [DataW.weights, hs]; exact hn)
    exact ⟨z0 fun n hn => hw' n (DataW.weights_mem_each (j := 0) rfl rfl n hn), z1 fun n hn => hw' n (DataW.weights_mem_each (j := 1) rfl rfl n hn), z2 fun n hn => hw' n (DataW.weights_mem_each (j := 2) rfl rfl n hn), z3 fun n hn => hw' n (DataW.weights_mem_each (j := 3) rfl rfl n hn)⟩
  · simp only [Rows.uptoBulk, Rows.uptoBulkAll, List.map]
    omega

theorem cells_split5 {β : Type} {cs : List β} {n0 n1 n2 n3 n4 : Nat} (h : cs.length = n0 + n1 + n2 + n3 + n4) : cs = (cs.drop (0)).take n0 ++ ((cs.drop (n0)).take n1 ++ ((cs.drop (n0 + n1)).take n2 ++ ((cs.drop (n0 + n1 + n2)).take n3 ++ ((cs.drop (n0 + n1 + n2 + n3)).take n4)))) := by
  have p0 := drop_split cs (0) n0
  rw [Nat.zero_add] at p0
  have p1 := drop_split cs (n0) n1
  have p2 := drop_split cs (n0 + n1) n2
  have p3 := drop_split cs (n0 + n1 + n2) n3
  have q : (cs.drop (n0 + n1 + n2 + n3)).take n4 = cs.drop (n0 + n1 + n2 + n3) := List.take_of_length_le (by rw [List.length_drop]; omega)
  rw [q]
  rw [← p3]
  rw [← p2]
  rw [← p1]
  rw [← p0]
  rfl
theorem opened_struct5 {α0 α1 α2 α3 α4 : Type} {t : TypeId} {f0 f1 f2 f3 f4 : Field} {n0 n1 n2 n3 n4 : Nat}
    {R0 : World → α0 → List Value → Prop} {g0 s0 : α0 → Prop} {b0 : α0 → Nat}
    {R1 : World → α1 → List Value → Prop} {g1 s1 : α1 → Prop} {b1 : α1 → Nat}
    {R2 : World → α2 → List Value → Prop} {g2 s2 : α2 → Prop} {b2 : α2 → Nat}
    {R3 : World → α3 → List Value → Prop} {g3 s3 : α3 → Prop} {b3 : α3 → Nat}
    {R4 : World → α4 → List Value → Prop} {g4 s4 : α4 → Prop} {b4 : α4 → Nat}
    (hs : Tryd.prog.underlying t = some (.struct #[f0, f1, f2, f3, f4])) (hc : Tryd.prog.cellsOf t = n0 + n1 + n2 + n3 + n4)
    (hn0 : Tryd.prog.cellsOf f0.type = n0) (ho0 : f0.offset = 0) (h0 : Opened f0.type R0 g0 s0 b0)
    (hn1 : Tryd.prog.cellsOf f1.type = n1) (ho1 : f1.offset = n0) (h1 : Opened f1.type R1 g1 s1 b1)
    (hn2 : Tryd.prog.cellsOf f2.type = n2) (ho2 : f2.offset = n0 + n1) (h2 : Opened f2.type R2 g2 s2 b2)
    (hn3 : Tryd.prog.cellsOf f3.type = n3) (ho3 : f3.offset = n0 + n1 + n2) (h3 : Opened f3.type R3 g3 s3 b3)
    (hn4 : Tryd.prog.cellsOf f4.type = n4) (ho4 : f4.offset = n0 + n1 + n2 + n3) (h4 : Opened f4.type R4 g4 s4 b4)
    : Opened t (fun W (a : α0 × α1 × α2 × α3 × α4) cs => ∃ c0 c1 c2 c3 c4, cs = c0 ++ (c1 ++ (c2 ++ (c3 ++ (c4)))) ∧ R0 W a.1 c0 ∧ R1 W a.2.1 c1 ∧ R2 W a.2.2.1 c2 ∧ R3 W a.2.2.2.1 c3 ∧ R4 W a.2.2.2.2 c4) (fun a => g0 a.1 ∧ g1 a.2.1 ∧ g2 a.2.2.1 ∧ g3 a.2.2.2.1 ∧ g4 a.2.2.2.2) (fun a => s0 a.1 ∧ s1 a.2.1 ∧ s2 a.2.2.1 ∧ s3 a.2.2.2.1 ∧ s4 a.2.2.2.2) (fun a => b0 a.1 + b1 a.2.1 + b2 a.2.2.1 + b3 a.2.2.2.1 + b4 a.2.2.2.2) := by
  constructor
  intro H enc W fuel cs y hy
  obtain ⟨xs, m, rfl, rfl, hl, hx, hf⟩ := DataW.trod_struct hs hy
  obtain ⟨x0, x1, x2, x3, x4, rfl⟩ : ∃ x0 x1 x2 x3 x4, xs = [x0, x1, x2, x3, x4] := by
    match xs, hx with
    | [x0, x1, x2, x3, x4], _ => exact ⟨x0, x1, x2, x3, x4, rfl⟩
  have e0 := hf 0 f0 rfl
  rw [hn0, ho0] at e0
  obtain ⟨a0, r0, k0, z0, u0⟩ := h0.out enc W m _ _ (e0.trans rfl)
  have e1 := hf 1 f1 rfl
  rw [hn1, ho1] at e1
  obtain ⟨a1, r1, k1, z1, u1⟩ := h1.out enc W m _ _ (e1.trans rfl)
  have e2 := hf 2 f2 rfl
  rw [hn2, ho2] at e2
  obtain ⟨a2, r2, k2, z2, u2⟩ := h2.out enc W m _ _ (e2.trans rfl)
  have e3 := hf 3 f3 rfl
  rw [hn3, ho3] at e3
  obtain ⟨a3, r3, k3, z3, u3⟩ := h3.out enc W m _ _ (e3.trans rfl)
  have e4 := hf 4 f4 rfl
  rw [hn4, ho4] at e4
  obtain ⟨a4, r4, k4, z4, u4⟩ := h4.out enc W m _ _ (e4.trans rfl)
  rw [hc] at hl
  refine ⟨(a0, a1, a2, a3, a4), ⟨_, _, _, _, _, ?_, r0, r1, r2, r3, r4⟩, ⟨k0, k1, k2, k3, k4⟩, fun hw => ?_, ?_⟩
  · exact cells_split5 hl
  · have hw' : ∀ n ∈ DataW.weightsEach Tryd.prog [f0.type, f1.type, f2.type, f3.type, f4.type] [x0.1, x1.1, x2.1, x3.1, x4.1], n ≤ reachBytes := fun n hn => hw n (by simp only [DataW.weights, hs]; exact hn)
    exact ⟨z0 fun n hn => hw' n (DataW.weights_mem_each (j := 0) rfl rfl n hn), z1 fun n hn => hw' n (DataW.weights_mem_each (j := 1) rfl rfl n hn), z2 fun n hn => hw' n (DataW.weights_mem_each (j := 2) rfl rfl n hn), z3 fun n hn => hw' n (DataW.weights_mem_each (j := 3) rfl rfl n hn), z4 fun n hn => hw' n (DataW.weights_mem_each (j := 4) rfl rfl n hn)⟩
  · simp only [Rows.uptoBulk, Rows.uptoBulkAll, List.map]
    omega

theorem cells_split6 {β : Type} {cs : List β} {n0 n1 n2 n3 n4 n5 : Nat} (h : cs.length = n0 + n1 + n2 + n3 + n4 + n5) : cs = (cs.drop (0)).take n0 ++ ((cs.drop (n0)).take n1 ++ ((cs.drop (n0 + n1)).take n2 ++ ((cs.drop (n0 + n1 + n2)).take n3 ++ ((cs.drop (n0 + n1 + n2 + n3)).take n4 ++ ((cs.drop (n0 + n1 + n2 + n3 + n4)).take n5))))) := by
  have p0 := drop_split cs (0) n0
  rw [Nat.zero_add] at p0
  have p1 := drop_split cs (n0) n1
  have p2 := drop_split cs (n0 + n1) n2
  have p3 := drop_split cs (n0 + n1 + n2) n3
  have p4 := drop_split cs (n0 + n1 + n2 + n3) n4
  have q : (cs.drop (n0 + n1 + n2 + n3 + n4)).take n5 = cs.drop (n0 + n1 + n2 + n3 + n4) := List.take_of_length_le (by rw [List.length_drop]; omega)
  rw [q]
  rw [← p4]
  rw [← p3]
  rw [← p2]
  rw [← p1]
  rw [← p0]
  rfl
theorem opened_struct6 {α0 α1 α2 α3 α4 α5 : Type} {t : TypeId} {f0 f1 f2 f3 f4 f5 : Field} {n0 n1 n2 n3 n4 n5 : Nat}
    {R0 : World → α0 → List Value → Prop} {g0 s0 : α0 → Prop} {b0 : α0 → Nat}
    {R1 : World → α1 → List Value → Prop} {g1 s1 : α1 → Prop} {b1 : α1 → Nat}
    {R2 : World → α2 → List Value → Prop} {g2 s2 : α2 → Prop} {b2 : α2 → Nat}
    {R3 : World → α3 → List Value → Prop} {g3 s3 : α3 → Prop} {b3 : α3 → Nat}
    {R4 : World → α4 → List Value → Prop} {g4 s4 : α4 → Prop} {b4 : α4 → Nat}
    {R5 : World → α5 → List Value → Prop} {g5 s5 : α5 → Prop} {b5 : α5 → Nat}
    (hs : Tryd.prog.underlying t = some (.struct #[f0, f1, f2, f3, f4, f5])) (hc : Tryd.prog.cellsOf t = n0 + n1 + n2 + n3 + n4 + n5)
    (hn0 : Tryd.prog.cellsOf f0.type = n0) (ho0 : f0.offset = 0) (h0 : Opened f0.type R0 g0 s0 b0)
    (hn1 : Tryd.prog.cellsOf f1.type = n1) (ho1 : f1.offset = n0) (h1 : Opened f1.type R1 g1 s1 b1)
    (hn2 : Tryd.prog.cellsOf f2.type = n2) (ho2 : f2.offset = n0 + n1) (h2 : Opened f2.type R2 g2 s2 b2)
    (hn3 : Tryd.prog.cellsOf f3.type = n3) (ho3 : f3.offset = n0 + n1 + n2) (h3 : Opened f3.type R3 g3 s3 b3)
    (hn4 : Tryd.prog.cellsOf f4.type = n4) (ho4 : f4.offset = n0 + n1 + n2 + n3) (h4 : Opened f4.type R4 g4 s4 b4)
    (hn5 : Tryd.prog.cellsOf f5.type = n5) (ho5 : f5.offset = n0 + n1 + n2 + n3 + n4) (h5 : Opened f5.type R5 g5 s5 b5)
    : Opened t (fun W (a : α0 × α1 × α2 × α3 × α4 × α5) cs => ∃ c0 c1 c2 c3 c4 c5, cs = c0 ++ (c1 ++ (c2 ++ (c3 ++ (c4 ++ (c5))))) ∧ R0 W a.1 c0 ∧ R1 W a.2.1 c1 ∧ R2 W a.2.2.1 c2 ∧ R3 W a.2.2.2.1 c3 ∧ R4 W a.2.2.2.2.1 c4 ∧ R5 W a.2.2.2.2.2 c5) (fun a => g0 a.1 ∧ g1 a.2.1 ∧ g2 a.2.2.1 ∧ g3 a.2.2.2.1 ∧ g4 a.2.2.2.2.1 ∧ g5 a.2.2.2.2.2) (fun a => s0 a.1 ∧ s1 a.2.1 ∧ s2 a.2.2.1 ∧ s3 a.2.2.2.1 ∧ s4 a.2.2.2.2.1 ∧ s5 a.2.2.2.2.2) (fun a => b0 a.1 + b1 a.2.1 + b2 a.2.2.1 + b3 a.2.2.2.1 + b4 a.2.2.2.2.1 + b5 a.2.2.2.2.2) := by
  constructor
  intro H enc W fuel cs y hy
  obtain ⟨xs, m, rfl, rfl, hl, hx, hf⟩ := DataW.trod_struct hs hy
  obtain ⟨x0, x1, x2, x3, x4, x5, rfl⟩ : ∃ x0 x1 x2 x3 x4 x5, xs = [x0, x1, x2, x3, x4, x5] := by
    match xs, hx with
    | [x0, x1, x2, x3, x4, x5], _ => exact ⟨x0, x1, x2, x3, x4, x5, rfl⟩
  have e0 := hf 0 f0 rfl
  rw [hn0, ho0] at e0
  obtain ⟨a0, r0, k0, z0, u0⟩ := h0.out enc W m _ _ (e0.trans rfl)
  have e1 := hf 1 f1 rfl
  rw [hn1, ho1] at e1
  obtain ⟨a1, r1, k1, z1, u1⟩ := h1.out enc W m _ _ (e1.trans rfl)
  have e2 := hf 2 f2 rfl
  rw [hn2, ho2] at e2
  obtain ⟨a2, r2, k2, z2, u2⟩ := h2.out enc W m _ _ (e2.trans rfl)
  have e3 := hf 3 f3 rfl
  rw [hn3, ho3] at e3
  obtain ⟨a3, r3, k3, z3, u3⟩ := h3.out enc W m _ _ (e3.trans rfl)
  have e4 := hf 4 f4 rfl
  rw [hn4, ho4] at e4
  obtain ⟨a4, r4, k4, z4, u4⟩ := h4.out enc W m _ _ (e4.trans rfl)
  have e5 := hf 5 f5 rfl
  rw [hn5, ho5] at e5
  obtain ⟨a5, r5, k5, z5, u5⟩ := h5.out enc W m _ _ (e5.trans rfl)
  rw [hc] at hl
  refine ⟨(a0, a1, a2, a3, a4, a5), ⟨_, _, _, _, _, _, ?_, r0, r1, r2, r3, r4, r5⟩, ⟨k0, k1, k2, k3, k4, k5⟩, fun hw => ?_, ?_⟩
  · exact cells_split6 hl
  · have hw' : ∀ n ∈ DataW.weightsEach Tryd.prog [f0.type, f1.type, f2.type, f3.type, f4.type, f5.type] [x0.1, x1.1, x2.1, x3.1, x4.1, x5.1], n ≤ reachBytes := fun n hn => hw n (by simp only [DataW.weights, hs]; exact hn)
    exact ⟨z0 fun n hn => hw' n (DataW.weights_mem_each (j := 0) rfl rfl n hn), z1 fun n hn => hw' n (DataW.weights_mem_each (j := 1) rfl rfl n hn), z2 fun n hn => hw' n (DataW.weights_mem_each (j := 2) rfl rfl n hn), z3 fun n hn => hw' n (DataW.weights_mem_each (j := 3) rfl rfl n hn), z4 fun n hn => hw' n (DataW.weights_mem_each (j := 4) rfl rfl n hn), z5 fun n hn => hw' n (DataW.weights_mem_each (j := 5) rfl rfl n hn)⟩
  · simp only [Rows.uptoBulk, Rows.uptoBulkAll, List.map]
    omega

theorem cells_split7 {β : Type} {cs : List β} {n0 n1 n2 n3 n4 n5 n6 : Nat} (h : cs.length = n0 + n1 + n2 + n3 + n4 + n5 + n6) : cs = (cs.drop (0)).take n0 ++ ((cs.drop (n0)).take n1 ++ ((cs.drop (n0 + n1)).take n2 ++ ((cs.drop (n0 + n1 + n2)).take n3 ++ ((cs.drop (n0 + n1 + n2 + n3)).take n4 ++ ((cs.drop (n0 + n1 + n2 + n3 + n4)).take n5 ++ ((cs.drop (n0 + n1 + n2 + n3 + n4 + n5)).take n6)))))) := by
  have p0 := drop_split cs (0) n0
  rw [Nat.zero_add] at p0
  have p1 := drop_split cs (n0) n1
  have p2 := drop_split cs (n0 + n1) n2
  have p3 := drop_split cs (n0 + n1 + n2) n3
  have p4 := drop_split cs (n0 + n1 + n2 + n3) n4
  have p5 := drop_split cs (n0 + n1 + n2 + n3 + n4) n5
  have q : (cs.drop (n0 + n1 + n2 + n3 + n4 + n5)).take n6 = cs.drop (n0 + n1 + n2 + n3 + n4 + n5) := List.take_of_length_le (by rw [List.length_drop]; omega)
  rw [q]
  rw [← p5]
  rw [← p4]
  rw [← p3]
  rw [← p2]
  rw [← p1]
  rw [← p0]
  rfl
theorem opened_struct7 {α0 α1 α2 α3 α4 α5 α6 : Type} {t : TypeId} {f0 f1 f2 f3 f4 f5 f6 : Field} {n0 n1 n2 n3 n4 n5 n6 : Nat}
    {R0 : World → α0 → List Value → Prop} {g0 s0 : α0 → Prop} {b0 : α0 → Nat}
    {R1 : World → α1 → List Value → Prop} {g1 s1 : α1 → Prop} {b1 : α1 → Nat}
    {R2 : World → α2 → List Value → Prop} {g2 s2 : α2 → Prop} {b2 : α2 → Nat}
    {R3 : World → α3 → List Value → Prop} {g3 s3 : α3 → Prop} {b3 : α3 → Nat}
    {R4 : World → α4 → List Value → Prop} {g4 s4 : α4 → Prop} {b4 : α4 → Nat}
    {R5 : World → α5 → List Value → Prop} {g5 s5 : α5 → Prop} {b5 : α5 → Nat}
    {R6 : World → α6 → List Value → Prop} {g6 s6 : α6 → Prop} {b6 : α6 → Nat}
    (hs : Tryd.prog.underlying t = some (.struct #[f0, f1, f2, f3, f4, f5, f6])) (hc : Tryd.prog.cellsOf t = n0 + n1 + n2 + n3 + n4 + n5 + n6)
    (hn0 : Tryd.prog.cellsOf f0.type = n0) (ho0 : f0.offset = 0) (h0 : Opened f0.type R0 g0 s0 b0)
    (hn1 : Tryd.prog.cellsOf f1.type = n1) (ho1 : f1.offset = n0) (h1 : Opened f1.type R1 g1 s1 b1)
    (hn2 : Tryd.prog.cellsOf f2.type = n2) (ho2 : f2.offset = n0 + n1) (h2 : Opened f2.type R2 g2 s2 b2)
    (hn3 : Tryd.prog.cellsOf f3.type = n3) (ho3 : f3.offset = n0 + n1 + n2) (h3 : Opened f3.type R3 g3 s3 b3)
    (hn4 : Tryd.prog.cellsOf f4.type = n4) (ho4 : f4.offset = n0 + n1 + n2 + n3) (h4 : Opened f4.type R4 g4 s4 b4)
    (hn5 : Tryd.prog.cellsOf f5.type = n5) (ho5 : f5.offset = n0 + n1 + n2 + n3 + n4) (h5 : Opened f5.type R5 g5 s5 b5)
    (hn6 : Tryd.prog.cellsOf f6.type = n6) (ho6 : f6.offset = n0 + n1 + n2 + n3 + n4 + n5) (h6 : Opened f6.type R6 g6 s6 b6)
    : Opened t (fun W (a : α0 × α1 × α2 × α3 × α4 × α5 × α6) cs => ∃ c0 c1 c2 c3 c4 c5 c6, cs = c0 ++ (c1 ++ (c2 ++ (c3 ++ (c4 ++ (c5 ++ (c6)))))) ∧ R0 W a.1 c0 ∧ R1 W a.2.1 c1 ∧ R2 W a.2.2.1 c2 ∧ R3 W a.2.2.2.1 c3 ∧ R4 W a.2.2.2.2.1 c4 ∧ R5 W a.2.2.2.2.2.1 c5 ∧ R6 W a.2.2.2.2.2.2 c6) (fun a => g0 a.1 ∧ g1 a.2.1 ∧ g2 a.2.2.1 ∧ g3 a.2.2.2.1 ∧ g4 a.2.2.2.2.1 ∧ g5 a.2.2.2.2.2.1 ∧ g6 a.2.2.2.2.2.2) (fun a => s0 a.1 ∧ s1 a.2.1 ∧ s2 a.2.2.1 ∧ s3 a.2.2.2.1 ∧ s4 a.2.2.2.2.1 ∧ s5 a.2.2.2.2.2.1 ∧ s6 a.2.2.2.2.2.2) (fun a => b0 a.1 + b1 a.2.1 + b2 a.2.2.1 + b3 a.2.2.2.1 + b4 a.2.2.2.2.1 + b5 a.2.2.2.2.2.1 + b6 a.2.2.2.2.2.2) := by
  constructor
  intro H enc W fuel cs y hy
  obtain ⟨xs, m, rfl, rfl, hl, hx, hf⟩ := DataW.trod_struct hs hy
  obtain ⟨x0, x1, x2, x3, x4, x5, x6, rfl⟩ : ∃ x0 x1 x2 x3 x4 x5 x6, xs = [x0, x1, x2, x3, x4, x5, x6] := by
    match xs, hx with
    | [x0, x1, x2, x3, x4, x5, x6], _ => exact ⟨x0, x1, x2, x3, x4, x5, x6, rfl⟩
  have e0 := hf 0 f0 rfl
  rw [hn0, ho0] at e0
  obtain ⟨a0, r0, k0, z0, u0⟩ := h0.out enc W m _ _ (e0.trans rfl)
  have e1 := hf 1 f1 rfl
  rw [hn1, ho1] at e1
  obtain ⟨a1, r1, k1, z1, u1⟩ := h1.out enc W m _ _ (e1.trans rfl)
  have e2 := hf 2 f2 rfl
  rw [hn2, ho2] at e2
  obtain ⟨a2, r2, k2, z2, u2⟩ := h2.out enc W m _ _ (e2.trans rfl)
  have e3 := hf 3 f3 rfl
  rw [hn3, ho3] at e3
  obtain ⟨a3, r3, k3, z3, u3⟩ := h3.out enc W m _ _ (e3.trans rfl)
  have e4 := hf 4 f4 rfl
  rw [hn4, ho4] at e4
  obtain ⟨a4, r4, k4, z4, u4⟩ := h4.out enc W m _ _ (e4.trans rfl)
  have e5 := hf 5 f5 rfl
  rw [hn5, ho5] at e5
  obtain ⟨a5, r5, k5, z5, u5⟩ := h5.out enc W m _ _ (e5.trans rfl)
  have e6 := hf 6 f6 rfl
  rw [hn6, ho6] at e6
  obtain ⟨a6, r6, k6, z6, u6⟩ := h6.out enc W m _ _ (e6.trans rfl)
  rw [hc] at hl
  refine ⟨(a0, a1, a2, a3, a4, a5, a6), ⟨_, _, _, _, _, _, _, ?_, r0, r1, r2, r3, r4, r5, r6⟩, ⟨k0, k1, k2, k3, k4, k5, k6⟩, fun hw => ?_, ?_⟩
  · exact cells_split7 hl
  · have hw' : ∀ n ∈ DataW.weightsEach Tryd.prog [f0.type, f1.type, f2.type, f3.type, f4.type, f5.type, f6.type] [x0.1, x1.1, x2.1, x3.1, x4.1, x5.1, x6.1], n ≤ reachBytes := fun n hn => hw n (by simp only [DataW.weights, hs]; exact hn)
    exact ⟨z0 fun n hn => hw' n (DataW.weights_mem_each (j := 0) rfl rfl n hn), z1 fun n hn => hw' n (DataW.weights_mem_each (j := 1) rfl rfl n hn), z2 fun n hn => hw' n (DataW.weights_mem_each (j := 2) rfl rfl n hn), z3 fun n hn => hw' n (DataW.weights_mem_each (j := 3) rfl rfl n hn), z4 fun n hn => hw' n (DataW.weights_mem_each (j := 4) rfl rfl n hn), z5 fun n hn => hw' n (DataW.weights_mem_each (j := 5) rfl rfl n hn), z6 fun n hn => hw' n (DataW.weights_mem_each (j := 6) rfl rfl n hn)⟩
  · simp only [Rows.uptoBulk, Rows.uptoBulkAll, List.map]
    omega

theorem cells_split8 {β : Type} {cs : List β} {n0 n1 n2 n3 n4 n5 n6 n7 : Nat} (h : cs.length = n0 + n1 + n2 + n3 + n4 + n5 + n6 + n7) : cs = (cs.drop (0)).take n0 ++ ((cs.drop (n0)).take n1 ++ ((cs.drop (n0 + n1)).take n2 ++ ((cs.drop (n0 + n1 + n2)).take n3 ++ ((cs.drop (n0 + n1 + n2 + n3)).take n4 ++ ((cs.drop (n0 + n1 + n2 + n3 + n4)).take n5 ++ ((cs.drop (n0 + n1 + n2 + n3 + n4 + n5)).take n6 ++ ((cs.drop (n0 + n1 + n2 + n3 + n4 + n5 + n6)).take n7))))))) := by
  have p0 := drop_split cs (0) n0
  rw [Nat.zero_add] at p0
  have p1 := drop_split cs (n0) n1
  have p2 := drop_split cs (n0 + n1) n2
  have p3 := drop_split cs (n0 + n1 + n2) n3
  have p4 := drop_split cs (n0 + n1 + n2 + n3) n4
  have p5 := drop_split cs (n0 + n1 + n2 + n3 + n4) n5
  have p6 := drop_split cs (n0 + n1 + n2 + n3 + n4 + n5) n6
  have q : (cs.drop (n0 + n1 + n2 + n3 + n4 + n5 + n6)).take n7 = cs.drop (n0 + n1 + n2 + n3 + n4 + n5 + n6) := List.take_of_length_le (by rw [List.length_drop]; omega)
  rw [q]
  rw [← p6]
  rw [← p5]
  rw [← p4]
  rw [← p3]
  rw [← p2]
  rw [← p1]
  rw [← p0]
  rfl
theorem opened_struct8 {α0 α1 α2 α3 α4 α5 α6 α7 : Type} {t : TypeId} {f0 f1 f2 f3 f4 f5 f6 f7 : Field} {n0 n1 n2 n3 n4 n5 n6 n7 : Nat}
    {R0 : World → α0 → List Value → Prop} {g0 s0 : α0 → Prop} {b0 : α0 → Nat}
    {R1 : World → α1 → List Value → Prop} {g1 s1 : α1 → Prop} {b1 : α1 → Nat}
    {R2 : World → α2 → List Value → Prop} {g2 s2 : α2 → Prop} {b2 : α2 → Nat}
    {R3 : World → α3 → List Value → Prop} {g3 s3 : α3 → Prop} {b3 : α3 → Nat}
    {R4 : World → α4 → List Value → Prop} {g4 s4 : α4 → Prop} {b4 : α4 → Nat}
    {R5 : World → α5 → List Value → Prop} {g5 s5 : α5 → Prop} {b5 : α5 → Nat}
    {R6 : World → α6 → List Value → Prop} {g6 s6 : α6 → Prop} {b6 : α6 → Nat}
    {R7 : World → α7 → List Value → Prop} {g7 s7 : α7 → Prop} {b7 : α7 → Nat}
    (hs : Tryd.prog.underlying t = some (.struct #[f0, f1, f2, f3, f4, f5, f6, f7])) (hc : Tryd.prog.cellsOf t = n0 + n1 + n2 + n3 + n4 + n5 + n6 + n7)
    (hn0 : Tryd.prog.cellsOf f0.type = n0) (ho0 : f0.offset = 0) (h0 : Opened f0.type R0 g0 s0 b0)
    (hn1 : Tryd.prog.cellsOf f1.type = n1) (ho1 : f1.offset = n0) (h1 : Opened f1.type R1 g1 s1 b1)
    (hn2 : Tryd.prog.cellsOf f2.type = n2) (ho2 : f2.offset = n0 + n1) (h2 : Opened f2.type R2 g2 s2 b2)
    (hn3 : Tryd.prog.cellsOf f3.type = n3) (ho3 : f3.offset = n0 + n1 + n2) (h3 : Opened f3.type R3 g3 s3 b3)
    (hn4 : Tryd.prog.cellsOf f4.type = n4) (ho4 : f4.offset = n0 + n1 + n2 + n3) (h4 : Opened f4.type R4 g4 s4 b4)
    (hn5 : Tryd.prog.cellsOf f5.type = n5) (ho5 : f5.offset = n0 + n1 + n2 + n3 + n4) (h5 : Opened f5.type R5 g5 s5 b5)
    (hn6 : Tryd.prog.cellsOf f6.type = n6) (ho6 : f6.offset = n0 + n1 + n2 + n3 + n4 + n5) (h6 : Opened f6.type R6 g6 s6 b6)
    (hn7 : Tryd.prog.cellsOf f7.type = n7) (ho7 : f7.offset = n0 + n1 + n2 + n3 + n4 + n5 + n6) (h7 : Opened f7.type R7 g7 s7 b7)
    : Opened t (fun W (a : α0 × α1 × α2 × α3 × α4 × α5 × α6 × α7) cs => ∃ c0 c1 c2 c3 c4 c5 c6 c7, cs = c0 ++ (c1 ++ (c2 ++ (c3 ++ (c4 ++ (c5 ++ (c6 ++ (c7))))))) ∧ R0 W a.1 c0 ∧ R1 W a.2.1 c1 ∧ R2 W a.2.2.1 c2 ∧ R3 W a.2.2.2.1 c3 ∧ R4 W a.2.2.2.2.1 c4 ∧ R5 W a.2.2.2.2.2.1 c5 ∧ R6 W a.2.2.2.2.2.2.1 c6 ∧ R7 W a.2.2.2.2.2.2.2 c7) (fun a => g0 a.1 ∧ g1 a.2.1 ∧ g2 a.2.2.1 ∧ g3 a.2.2.2.1 ∧ g4 a.2.2.2.2.1 ∧ g5 a.2.2.2.2.2.1 ∧ g6 a.2.2.2.2.2.2.1 ∧ g7 a.2.2.2.2.2.2.2) (fun a => s0 a.1 ∧ s1 a.2.1 ∧ s2 a.2.2.1 ∧ s3 a.2.2.2.1 ∧ s4 a.2.2.2.2.1 ∧ s5 a.2.2.2.2.2.1 ∧ s6 a.2.2.2.2.2.2.1 ∧ s7 a.2.2.2.2.2.2.2) (fun a => b0 a.1 + b1 a.2.1 + b2 a.2.2.1 + b3 a.2.2.2.1 + b4 a.2.2.2.2.1 + b5 a.2.2.2.2.2.1 + b6 a.2.2.2.2.2.2.1 + b7 a.2.2.2.2.2.2.2) := by
  constructor
  intro H enc W fuel cs y hy
  obtain ⟨xs, m, rfl, rfl, hl, hx, hf⟩ := DataW.trod_struct hs hy
  obtain ⟨x0, x1, x2, x3, x4, x5, x6, x7, rfl⟩ : ∃ x0 x1 x2 x3 x4 x5 x6 x7, xs = [x0, x1, x2, x3, x4, x5, x6, x7] := by
    match xs, hx with
    | [x0, x1, x2, x3, x4, x5, x6, x7], _ => exact ⟨x0, x1, x2, x3, x4, x5, x6, x7, rfl⟩
  have e0 := hf 0 f0 rfl
  rw [hn0, ho0] at e0
  obtain ⟨a0, r0, k0, z0, u0⟩ := h0.out enc W m _ _ (e0.trans rfl)
  have e1 := hf 1 f1 rfl
  rw [hn1, ho1] at e1
  obtain ⟨a1, r1, k1, z1, u1⟩ := h1.out enc W m _ _ (e1.trans rfl)
  have e2 := hf 2 f2 rfl
  rw [hn2, ho2] at e2
  obtain ⟨a2, r2, k2, z2, u2⟩ := h2.out enc W m _ _ (e2.trans rfl)
  have e3 := hf 3 f3 rfl
  rw [hn3, ho3] at e3
  obtain ⟨a3, r3, k3, z3, u3⟩ := h3.out enc W m _ _ (e3.trans rfl)
  have e4 := hf 4 f4 rfl
  rw [hn4, ho4] at e4
  obtain ⟨a4, r4, k4, z4, u4⟩ := h4.out enc W m _ _ (e4.trans rfl)
  have e5 := hf 5 f5 rfl
  rw [hn5, ho5] at e5
  obtain ⟨a5, r5, k5, z5, u5⟩ := h5.out enc W m _ _ (e5.trans rfl)
  have e6 := hf 6 f6 rfl
  rw [hn6, ho6] at e6
  obtain ⟨a6, r6, k6, z6, u6⟩ := h6.out enc W m _ _ (e6.trans rfl)
  have e7 := hf 7 f7 rfl
  rw [hn7, ho7] at e7
  obtain ⟨a7, r7, k7, z7, u7⟩ := h7.out enc W m _ _ (e7.trans rfl)
  rw [hc] at hl
  refine ⟨(a0, a1, a2, a3, a4, a5, a6, a7), ⟨_, _, _, _, _, _, _, _, ?_, r0, r1, r2, r3, r4, r5, r6, r7⟩, ⟨k0, k1, k2, k3, k4, k5, k6, k7⟩, fun hw => ?_, ?_⟩
  · exact cells_split8 hl
  · have hw' : ∀ n ∈ DataW.weightsEach Tryd.prog [f0.type, f1.type, f2.type, f3.type, f4.type, f5.type, f6.type, f7.type] [x0.1, x1.1, x2.1, x3.1, x4.1, x5.1, x6.1, x7.1], n ≤ reachBytes := fun n hn => hw n (by simp only [DataW.weights, hs]; exact hn)
    exact ⟨z0 fun n hn => hw' n (DataW.weights_mem_each (j := 0) rfl rfl n hn), z1 fun n hn => hw' n (DataW.weights_mem_each (j := 1) rfl rfl n hn), z2 fun n hn => hw' n (DataW.weights_mem_each (j := 2) rfl rfl n hn), z3 fun n hn => hw' n (DataW.weights_mem_each (j := 3) rfl rfl n hn), z4 fun n hn => hw' n (DataW.weights_mem_each (j := 4) rfl rfl n hn), z5 fun n hn => hw' n (DataW.weights_mem_each (j := 5) rfl rfl n hn), z6 fun n hn => hw' n (DataW.weights_mem_each (j := 6) rfl rfl n hn), z7 fun n hn => hw' n (DataW.weights_mem_each (j := 7) rfl rfl n hn)⟩
  · simp only [Rows.uptoBulk, Rows.uptoBulkAll, List.map]
    omega

end Go.Proofs.YthdkmohelampbaaDoor.F
namespace Go.Proofs.YthdkmohelampbaaDoor.F
open Go.RowKit Go.Proofs.YthdkmohelampbaaDoorW.PrintWords Go.Proofs.YthdkmohelampbaaDoorW.PrintLast Go.Proofs.YthdkmohelampbaaDoorW.PrintMore
set_option linter.unusedVariables false
set_option linter.unusedSimpArgs false
theorem g_widths : Tryd.prog.globalNamed "interchange/num.widths" = some 0 := by kernel_rfl
theorem g_widths_type : (Tryd.prog.globals[0]?).map (·.type) = some 95 := by kernel_rfl
theorem cells_widths : Tryd.prog.cellsOf 95 = 4 := by kernel_rfl
theorem cells_int : Tryd.prog.cellsOf 3 = 1 := by kernel_rfl
theorem table_widths {W : World} (h : laidMetH Tryd.prog [("interchange/num.widths", Rows.laid_interchange_num_widths)] W) : Lib.TabIs Tryd.prog W "interchange/num.widths" .i64 [1, 2, 4, 8] :=
  Lib.tabIs_of_head (rest := []) g_widths g_widths_type Tryd.underlying95 Tryd.underlying3 cells_int cells_widths h
theorem laid_of {W : World} (h : laidMetH Tryd.prog [("interchange/num.widths", Rows.laid_interchange_num_widths)] W) : Laid W :=
  ⟨(table_widths h).cell g_widths 0 (by decide), (table_widths h).cell g_widths 1 (by decide), (table_widths h).cell g_widths 2 (by decide), (table_widths h).cell g_widths 3 (by decide)⟩
noncomputable def laid_world (os : Os) : World :=
  { World.holding Tryd.prog os ⟨#[], #[], []⟩ with heap := (World.holding Tryd.prog os ⟨#[], #[], []⟩).heap.modify 0 fun
      | .cells _ t frozen => .cells #[.int .i64 1, .int .i64 2, .int .i64 4, .int .i64 8] t frozen
      | o => o }
end Go.Proofs.YthdkmohelampbaaDoor.F
