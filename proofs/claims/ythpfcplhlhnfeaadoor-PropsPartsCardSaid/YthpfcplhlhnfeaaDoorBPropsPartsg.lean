/- Texts of this session for the law PropsParts, one behind the other: interchangeref07val, interchangeref07values, interchangeref07Right, Pref07, interchangeref07Get, Prset. -/
import Derived.Test.YthpfcplhlhnfeaaDoorBPropsPartsa
import Derived.Test.YthpfcplhlhnfeaaDoorBPropsPartsb
import Derived.Test.YthpfcplhlhnfeaaDoorBPropsPartsc
import Derived.Test.YthpfcplhlhnfeaaDoorBPropsPartsd
import Derived.Test.YthpfcplhlhnfeaaDoorBPropsPartse
import Derived.Test.YthpfcplhlhnfeaaDoorBPropsPartsf
namespace Go.Proofs.YthpfcplhlhnfeaaDoor.F
open Go.RowKit Go.Proofs.YthpfcplhlhnfeaaDoorW.PrintWords Go.Proofs.YthpfcplhlhnfeaaDoorW.PrintLast Go.Proofs.YthpfcplhlhnfeaaDoorW.PrintMore
attribute [local go_sem] max2_int min2_int max_two min_two max_three min_three max_four min_four
set_option linter.unusedVariables false
set_option linter.unusedSimpArgs false
set_option maxRecDepth 4000
set_option linter.unnecessarySimpa false

/-! ### interchangeref07_val: function 42 -/
mutual
def interchangeref07_val.j0 : Nat → Int → Bool → Int → ByteArray → Option (Int)
  | 0, _, _, _, _ => none
  | k + 1, x0, x23, x201000, x201001 => if x23 = true then (some 4) else (if x0 = 111 then (interchangeref07_val.j1 k x0 true x201000 x201001) else (interchangeref07_val.j1 k x0 (x0 == 113) x201000 x201001))
def interchangeref07_val.j1 : Nat → Int → Bool → Int → ByteArray → Option (Int)
  | 0, _, _, _, _ => none
  | k + 1, x0, x29, x201000, x201001 => if x29 = true then (if (x201001.size : Int) > 0 then (some 1) else (some 0)) else (if x201000 = 0 then (if x0 = 84 then ((interchangeref03_Deep.f k x201001).bind fun bt201 => (if bt201.2 = 0 then (some 0) else (some 3))) else (some 0)) else (some 1))
end
def interchangeref07_val.f (k : Nat) (a0 : Int) (a1_0 : Int) (a1_1 : ByteArray) : Option (Int) := if a0 = 111 then (if a1_0 > 255 then (interchangeref07_val.j0 k a0 true a1_0 a1_1) else (if a0 = 83 then (interchangeref07_val.j0 k a0 (decide ((a1_1.size : Int) > 255)) a1_0 a1_1) else (interchangeref07_val.j0 k a0 false a1_0 a1_1))) else (if a0 = 83 then (interchangeref07_val.j0 k a0 (decide ((a1_1.size : Int) > 255)) a1_0 a1_1) else (interchangeref07_val.j0 k a0 false a1_0 a1_1))
theorem interchangeref07_val.mono_l : ∀ k, (∀ y0 y1 y2 y3, LeO (interchangeref07_val.j0 k y0 y1 y2 y3) (interchangeref07_val.j0 (k + 1) y0 y1 y2 y3)) ∧ (∀ y0 y1 y2 y3, LeO (interchangeref07_val.j1 k y0 y1 y2 y3) (interchangeref07_val.j1 (k + 1) y0 y1 y2 y3))
  | 0 => ⟨fun _ _ _ _ r h => by simp [interchangeref07_val.j0] at h, fun _ _ _ _ r h => by simp [interchangeref07_val.j1] at h⟩
  | k + 1 => by
    obtain ⟨ih0, ih1⟩ := interchangeref07_val.mono_l k
    refine ⟨?_, ?_⟩
    · intro y0 y1 y2 y3
      unfold interchangeref07_val.j0
      repeat' first
      | (with_reducible exact ih0 _ _ _ _)
      | (with_reducible exact ih1 _ _ _ _)
      | (with_reducible exact interchangeref03_Deep.mono _ _)
      | (with_reducible exact LeO.refl _)
      | (with_reducible exact LeO.none _)
      | (with_reducible refine LeO.ite ?_ ?_)
      | (with_reducible refine LeO.bind ?_ (fun _ => ?_))
      | exact ih0 _ _ _ _
      | exact ih1 _ _ _ _
      | exact interchangeref03_Deep.mono _ _
      | exact LeO.none _
      | refine LeO.ite ?_ ?_
      | refine LeO.bind ?_ (fun _ => ?_)
    · intro y0 y1 y2 y3
      unfold interchangeref07_val.j1
      repeat' first
      | (with_reducible exact ih0 _ _ _ _)
      | (with_reducible exact ih1 _ _ _ _)
      | (with_reducible exact interchangeref03_Deep.mono _ _)
      | (with_reducible exact LeO.refl _)
      | (with_reducible exact LeO.none _)
      | (with_reducible refine LeO.ite ?_ ?_)
      | (with_reducible refine LeO.bind ?_ (fun _ => ?_))
      | exact ih0 _ _ _ _
      | exact ih1 _ _ _ _
      | exact interchangeref03_Deep.mono _ _
      | exact LeO.none _
      | refine LeO.ite ?_ ?_
      | refine LeO.bind ?_ (fun _ => ?_)
theorem interchangeref07_val.mono : ∀ a0 a1 a2 k, LeO (interchangeref07_val.f k a0 a1 a2) (interchangeref07_val.f (k + 1) a0 a1 a2) := by
  intro a0 a1 a2 k
  obtain ⟨ih0, ih1⟩ := interchangeref07_val.mono_l k
  unfold interchangeref07_val.f
  repeat' first
      | (with_reducible exact ih0 _ _ _ _)
      | (with_reducible exact ih1 _ _ _ _)
      | (with_reducible exact interchangeref03_Deep.mono _ _)
      | (with_reducible exact LeO.refl _)
      | (with_reducible exact LeO.none _)
      | (with_reducible refine LeO.ite ?_ ?_)
      | (with_reducible refine LeO.bind ?_ (fun _ => ?_))
      | exact ih0 _ _ _ _
      | exact ih1 _ _ _ _
      | exact interchangeref03_Deep.mono _ _
      | exact LeO.none _
      | refine LeO.ite ?_ ?_
      | refine LeO.bind ?_ (fun _ => ?_)
set_option maxHeartbeats 8000000 in
set_option maxRecDepth 100000 in
theorem interchangeref07_val.calls (k : Nat) (a0 : Int) (a1_0 : Int) (a1_1 : ByteArray) (r : Int) (w : World) (h : interchangeref07_val.f k a0 a1_0 a1_1 = some r) :
    Calls Tryd.prog 42 #[.int .u8 a0, .agg #[.int .u64 a1_0, .string a1_1]] w fun e w' => e = .returned (.int .i64 r) ∧ Below w.heap.size w w' := by
  have hu42 := Tryd.underlying42
  have HB := Aside0.mk (Below.refl w.heap.size w)
  have H : (if a0 = 111 then (if a1_0 > 255 then (interchangeref07_val.j0 k a0 true a1_0 a1_1) else (if a0 = 83 then (interchangeref07_val.j0 k a0 (decide ((a1_1.size : Int) > 255)) a1_0 a1_1) else (interchangeref07_val.j0 k a0 false a1_0 a1_1))) else (if a0 = 83 then (interchangeref07_val.j0 k a0 (decide ((a1_1.size : Int) > 255)) a1_0 a1_1) else (interchangeref07_val.j0 k a0 false a1_0 a1_1))) = some r := h
  clear h
  have HC3 := Aside0.mk H
  clear H
  go_enter Tryd.func42, Tryd.ntmps42
  go_upto_region 1 with (first | ((with_reducible refine gate_dst (N := 3) rfl ?_); refine box_event ?hg (N := 3) ?hd (cs := #[.int .u64 a1_0, .string a1_1]) (t := 42) ?hr ?_; (case hd => rfl); (case hg => rfl); (case hr => first | (go_simp; done) | (go_simp; rfl)); intro gb200 hg w4 hbox hb; have n0_ := Aside0.mk (below_step (by repeat (first | (with_reducible first | exact HB.out | apply below_alloc | apply pw_below_drewN | apply below_drew1) | exact HB.out)) hb); have n1_ := Aside0.mk (hbox); have n2_ := Aside0.mk ((by rw [hg]; exact (below_size (by repeat (first | (with_reducible first | exact HB.out | apply below_alloc | apply pw_below_drewN | apply below_drew1) | exact HB.out))) : w.heap.size ≤ gb200)); have n3_ := Aside0.mk ((by rw [hg]; exact (below_size (by repeat (first | (with_reducible first | exact HB.out | apply below_alloc | apply pw_below_drewN | apply below_drew1) | exact HB.out))) : w.heap.size ≤ gb200)); clear HB; have HB := n0_; have BK200 := n1_; have GW200 := n2_; have GE200 := n3_; clear n0_ n1_ n2_ n3_; clear hb hbox hg))
  (try simp only [Act.put, List.setIfInBounds_toArray, List.set_cons_zero, List.set_cons_succ])
  go_cut [23] (fun v23 wc => ∃ (kq : Nat) (x23_2 : Bool), v23 = .bool x23_2 ∧ Aside0 (interchangeref07_val.j0 kq a0 x23_2 a1_0 a1_1 = some r) ∧ Aside0 (kq ≤ k) ∧ Aside0 (wc.heap[gb200]? = some (.cells #[.int .u64 a1_0, .string a1_1] 42 (0, 0))) ∧ Aside0 (Below w.heap.size w wc))
  case first =>
    have H := HC3.out
    clear HC3
    by_cases c5 : a0 = 111
    · rw [if_pos c5] at H
      have c5b0 : (a0 == 111) = true := beq_iff_eq.mpr c5
      have c5b1 : (a0 != 111) = false := bne_eq_false_iff_eq.mpr c5
      clear c5
      (first | rw [c5b0] | (simp only [i64_w, i32_w]; rw [c5b0]) | skip)
      by_cases c6 : a1_0 > 255
      · rw [if_pos c6] at H
        have c6b0 : decide (255 < a1_0) = true := decide_eq_true c6
        clear c6
        have H' := Aside0.mk H
        clear H
        have hcz7_0 : w4.cell? ⟨gb200, 0, none⟩ = some (.int .u64 a1_0) := (blk_cell BK200.out 0).trans rfl
        have hcz7_1 : w4.cell? ⟨gb200, 1, none⟩ = some (.string a1_1) := (blk_cell BK200.out 1).trans rfl
        have hfz7_0 := blk_frozen BK200.out 0
        have hfz7_1 := blk_frozen BK200.out 1
        go_wp2
        go_meet
        case rel => exact ⟨_, (true), (by first | rfl | (simp; done) | (simp [*]; done)), H', ⟨by first | omega | exact Nat.le_refl _⟩, ⟨by (with_reducible repeat (first | refine blk_drewN ?_ _ | refine blk_drew ?_ | refine blk_alloc ?_ _)); exact BK200.out⟩, ⟨by repeat (first | (with_reducible first | exact HB.out | apply below_alloc | apply pw_below_drewN | apply below_drew1 | refine below_set ?_ GE200.out) | exact HB.out)⟩⟩
      · rw [if_neg c6] at H
        have c6b0 : decide (255 < a1_0) = false := decide_eq_false c6
        clear c6
        by_cases c8 : a0 = 83
        · rw [if_pos c8] at H
          have c8b0 : (a0 == 83) = true := beq_iff_eq.mpr c8
          have c8b1 : (a0 != 83) = false := bne_eq_false_iff_eq.mpr c8
          clear c8
          have H' := Aside0.mk H
          clear H
          have hcz9_0 : w4.cell? ⟨gb200, 0, none⟩ = some (.int .u64 a1_0) := (blk_cell BK200.out 0).trans rfl
          have hcz9_1 : w4.cell? ⟨gb200, 1, none⟩ = some (.string a1_1) := (blk_cell BK200.out 1).trans rfl
          have hfz9_0 := blk_frozen BK200.out 0
          have hfz9_1 := blk_frozen BK200.out 1
          go_wp2
          go_meet
          case rel => exact ⟨_, (decide ((a1_1.size : Int) > 255)), (by first | rfl | (simp; done) | (simp [*]; done)), H', ⟨by first | omega | exact Nat.le_refl _⟩, ⟨by (with_reducible repeat (first | refine blk_drewN ?_ _ | refine blk_drew ?_ | refine blk_alloc ?_ _)); exact BK200.out⟩, ⟨by repeat (first | (with_reducible first | exact HB.out | apply below_alloc | apply pw_below_drewN | apply below_drew1 | refine below_set ?_ GE200.out) | exact HB.out)⟩⟩
        · rw [if_neg c8] at H
          have c8b0 : (a0 == 83) = false := beq_eq_false_iff_ne.mpr c8
          have c8b1 : (a0 != 83) = true := bne_iff_ne.mpr c8
          have H' := Aside0.mk H
          clear H
          have hcz10_0 : w4.cell? ⟨gb200, 0, none⟩ = some (.int .u64 a1_0) := (blk_cell BK200.out 0).trans rfl
          have hcz10_1 : w4.cell? ⟨gb200, 1, none⟩ = some (.string a1_1) := (blk_cell BK200.out 1).trans rfl
          have hfz10_0 := blk_frozen BK200.out 0
          have hfz10_1 := blk_frozen BK200.out 1
          go_wp2
          go_meet
          case rel => exact ⟨_, (false), (by first | rfl | (simp; done) | (simp [*]; done)), H', ⟨by first | omega | exact Nat.le_refl _⟩, ⟨by (with_reducible repeat (first | refine blk_drewN ?_ _ | refine blk_drew ?_ | refine blk_alloc ?_ _)); exact BK200.out⟩, ⟨by repeat (first | (with_reducible first | exact HB.out | apply below_alloc | apply pw_below_drewN | apply below_drew1 | refine below_set ?_ GE200.out) | exact HB.out)⟩⟩
    · rw [if_neg c5] at H
      have c5b0 : (a0 == 111) = false := beq_eq_false_iff_ne.mpr c5
      have c5b1 : (a0 != 111) = true := bne_iff_ne.mpr c5
      (first | rw [c5b0] | (simp only [i64_w, i32_w]; rw [c5b0]) | skip)
      by_cases c11 : a0 = 83
      · rw [if_pos c11] at H
        have c11b0 : (a0 == 83) = true := beq_iff_eq.mpr c11
        have c11b1 : (a0 != 83) = false := bne_eq_false_iff_eq.mpr c11
        clear c11
        have H' := Aside0.mk H
        clear H
        have hcz12_0 : w4.cell? ⟨gb200, 0, none⟩ = some (.int .u64 a1_0) := (blk_cell BK200.out 0).trans rfl
        have hcz12_1 : w4.cell? ⟨gb200, 1, none⟩ = some (.string a1_1) := (blk_cell BK200.out 1).trans rfl
        have hfz12_0 := blk_frozen BK200.out 0
        have hfz12_1 := blk_frozen BK200.out 1
        go_wp2
        go_meet
        case rel => exact ⟨_, (decide ((a1_1.size : Int) > 255)), (by first | rfl | (simp; done) | (simp [*]; done)), H', ⟨by first | omega | exact Nat.le_refl _⟩, ⟨by (with_reducible repeat (first | refine blk_drewN ?_ _ | refine blk_drew ?_ | refine blk_alloc ?_ _)); exact BK200.out⟩, ⟨by repeat (first | (with_reducible first | exact HB.out | apply below_alloc | apply pw_below_drewN | apply below_drew1 | refine below_set ?_ GE200.out) | exact HB.out)⟩⟩
      · rw [if_neg c11] at H
        have c11b0 : (a0 == 83) = false := beq_eq_false_iff_ne.mpr c11
        have c11b1 : (a0 != 83) = true := bne_iff_ne.mpr c11
        have H' := Aside0.mk H
        clear H
        go_wp2
        go_meet
        case rel => exact ⟨_, (false), (by first | rfl | (simp; done) | (simp [*]; done)), H', ⟨by first | omega | exact Nat.le_refl _⟩, ⟨by (with_reducible repeat (first | refine blk_drewN ?_ _ | refine blk_drew ?_ | refine blk_alloc ?_ _)); exact BK200.out⟩, ⟨by repeat (first | (with_reducible first | exact HB.out | apply below_alloc | apply pw_below_drewN | apply below_drew1 | refine below_set ?_ GE200.out) | exact HB.out)⟩⟩
  case rest =>
    clear HC3
    try clear c1
    try clear p2
    try clear c4
    try clear c5
    try clear c5b0
    try clear c5b1
    try clear c6
    try clear c6b0
    try clear c8
    try clear c8b0
    try clear c8b1
    try clear c11
    try clear c11b0
    try clear c11b1
    try clear hcz10_0
    try clear hcz10_1
    try clear hcz12_0
    try clear hcz12_1
    try clear hcz7_0
    try clear hcz7_1
    try clear hcz9_0
    try clear hcz9_1
    try clear hfz10_0
    try clear hfz10_1
    try clear hfz12_0
    try clear hfz12_1
    try clear hfz7_0
    try clear hfz7_1
    try clear hfz9_0
    try clear hfz9_1
    obtain ⟨kq, x23_2, rfl, HA, HJ2, BK200, HB⟩ := hcut
    cases kq with
    | zero => exact absurd HA.out (by simp [interchangeref07_val.j0])
    | succ kj2 =>
      have H := HA.out
      clear HA
      simp only [interchangeref07_val.j0] at H
      by_cases c13 : x23_2 = true
      · subst c13
        have H1 : (some 4) = some r := by rw [if_pos rfl] at H; exact H
        clear H
        have H := H1
        clear H1
        obtain rfl := Option.some.inj H
        go_wp2
        go_ret
        exact ⟨by first | rfl | (simp [errW_none, errW_some] <;> rfl) | (simp [*, errW_none, errW_some] <;> rfl), by repeat (first | (with_reducible first | exact HB.out | apply below_alloc | apply pw_below_drewN | apply below_drew1 | refine below_set ?_ GE200.out) | exact HB.out)⟩
      · replace c13 := Bool.eq_false_iff.mpr c13
        subst c13
        have H1 : (if a0 = 111 then (interchangeref07_val.j1 kj2 a0 true a1_0 a1_1) else (interchangeref07_val.j1 kj2 a0 (a0 == 113) a1_0 a1_1)) = some r := by rw [if_neg (show ¬ (false = true) by decide)] at H; exact H
        clear H
        have H := H1
        clear H1
        have HC14 := Aside0.mk H
        clear H
        go_upto_region 3 with (fail)
        go_cut [29] (fun v29 wc => ∃ (kq : Nat) (x29_13 : Bool), v29 = .bool x29_13 ∧ Aside0 (interchangeref07_val.j1 kq a0 x29_13 a1_0 a1_1 = some r) ∧ Aside0 (kq ≤ kj2) ∧ Aside0 (wc.heap[gb200]? = some (.cells #[.int .u64 a1_0, .string a1_1] 42 (0, 0))) ∧ Aside0 (Below w.heap.size w wc))
        case first =>
          have H := HC14.out
          clear HC14
          by_cases c15 : a0 = 111
          · rw [if_pos c15] at H
            have c15b0 : (a0 == 111) = true := beq_iff_eq.mpr c15
            have c15b1 : (a0 != 111) = false := bne_eq_false_iff_eq.mpr c15
            clear c15
            (first | rw [c15b0] | (simp only [i64_w, i32_w]; rw [c15b0]) | skip)
            have H' := Aside0.mk H
            clear H
            go_wp2
            go_meet
            case rel => exact ⟨_, (true), (by first | rfl | (simp; done) | (simp [*]; done)), H', ⟨by have := HJ2.out; first | omega | exact Nat.le_refl _⟩, ⟨by (with_reducible repeat (first | refine blk_drewN ?_ _ | refine blk_drew ?_ | refine blk_alloc ?_ _)); exact BK200.out⟩, ⟨by repeat (first | (with_reducible first | exact HB.out | apply below_alloc | apply pw_below_drewN | apply below_drew1 | refine below_set ?_ GE200.out) | exact HB.out)⟩⟩
          · rw [if_neg c15] at H
            have c15b0 : (a0 == 111) = false := beq_eq_false_iff_ne.mpr c15
            have c15b1 : (a0 != 111) = true := bne_iff_ne.mpr c15
            (first | rw [c15b0] | (simp only [i64_w, i32_w]; rw [c15b0]) | skip)
            have H' := Aside0.mk H
            clear H
            go_wp2
            go_meet
            case rel => exact ⟨_, ((a0 == 113)), (by first | rfl | (simp; done) | (simp [*]; done)), H', ⟨by have := HJ2.out; first | omega | exact Nat.le_refl _⟩, ⟨by (with_reducible repeat (first | refine blk_drewN ?_ _ | refine blk_drew ?_ | refine blk_alloc ?_ _)); exact BK200.out⟩, ⟨by repeat (first | (with_reducible first | exact HB.out | apply below_alloc | apply pw_below_drewN | apply below_drew1 | refine below_set ?_ GE200.out) | exact HB.out)⟩⟩
        case rest =>
          clear HC14
          try clear c1
          try clear p2
          try clear c4
          try clear c5
          try clear c5b0
          try clear c5b1
          try clear c6
          try clear c6b0
          try clear c8
          try clear c8b0
          try clear c8b1
          try clear c11
          try clear c11b0
          try clear c11b1
          try clear c13
          try clear c15
          try clear c15b0
          try clear c15b1
          try clear hcz10_0
          try clear hcz10_1
          try clear hcz12_0
          try clear hcz12_1
          try clear hcz7_0
          try clear hcz7_1
          try clear hcz9_0
          try clear hcz9_1
          try clear hfz10_0
          try clear hfz10_1
          try clear hfz12_0
          try clear hfz12_1
          try clear hfz7_0
          try clear hfz7_1
          try clear hfz9_0
          try clear hfz9_1
          try clear p2
          obtain ⟨kq, x29_13, rfl, HA, HJ13, BK200, HB⟩ := hcut
          cases kq with
          | zero => exact absurd HA.out (by simp [interchangeref07_val.j1])
          | succ kj13 =>
            have H := HA.out
            clear HA
            simp only [interchangeref07_val.j1] at H
            by_cases c16 : x29_13 = true
            · subst c16
              have H1 : (if (a1_1.size : Int) > 0 then (some 1) else (some 0)) = some r := by rw [if_pos rfl] at H; exact H
              clear H
              have H := H1
              clear H1
              by_cases c17 : (a1_1.size : Int) > 0
              · rw [if_pos c17] at H
                have c17b0 : decide (0 < (a1_1.size : Int)) = true := decide_eq_true c17
                have c17b1 : decide (0 < a1_1.size) = true := decide_eq_true (by omega)
                clear c17
                obtain rfl := Option.some.inj H
                have hcz18_0 : wc.cell? ⟨gb200, 0, none⟩ = some (.int .u64 a1_0) := (blk_cell BK200.out 0).trans rfl
                have hcz18_1 : wc.cell? ⟨gb200, 1, none⟩ = some (.string a1_1) := (blk_cell BK200.out 1).trans rfl
                have hfz18_0 := blk_frozen BK200.out 0
                have hfz18_1 := blk_frozen BK200.out 1
                go_wp2
                go_ret
                exact ⟨by first | rfl | (simp [errW_none, errW_some] <;> rfl) | (simp [*, errW_none, errW_some] <;> rfl), by repeat (first | (with_reducible first | exact HB.out | apply below_alloc | apply pw_below_drewN | apply below_drew1 | refine below_set ?_ GE200.out) | exact HB.out)⟩
              · rw [if_neg c17] at H
                have c17b0 : decide (0 < (a1_1.size : Int)) = false := decide_eq_false c17
                have c17b1 : decide (0 < a1_1.size) = false := decide_eq_false (by omega)
                clear c17
                obtain rfl := Option.some.inj H
                have hcz19_0 : wc.cell? ⟨gb200, 0, none⟩ = some (.int .u64 a1_0) := (blk_cell BK200.out 0).trans rfl
                have hcz19_1 : wc.cell? ⟨gb200, 1, none⟩ = some (.string a1_1) := (blk_cell BK200.out 1).trans rfl
                have hfz19_0 := blk_frozen BK200.out 0
                have hfz19_1 := blk_frozen BK200.out 1
                go_wp2
                go_ret
                exact ⟨by first | rfl | (simp [errW_none, errW_some] <;> rfl) | (simp [*, errW_none, errW_some] <;> rfl), by repeat (first | (with_reducible first | exact HB.out | apply below_alloc | apply pw_below_drewN | apply below_drew1 | refine below_set ?_ GE200.out) | exact HB.out)⟩
            · replace c16 := Bool.eq_false_iff.mpr c16
              subst c16
              have H1 : (if a1_0 = 0 then (if a0 = 84 then ((interchangeref03_Deep.f kj13 a1_1).bind fun bt201 => (if bt201.2 = 0 then (some 0) else (some 3))) else (some 0)) else (some 1)) = some r := by rw [if_neg (show ¬ (false = true) by decide)] at H; exact H
              clear H
              have H := H1
              clear H1
              by_cases c20 : a1_0 = 0
              · rw [if_pos c20] at H
                have c20b0 : (a1_0 == 0) = true := beq_iff_eq.mpr c20
                have c20b1 : (a1_0 != 0) = false := bne_eq_false_iff_eq.mpr c20
                clear c20
                by_cases c21 : a0 = 84
                · rw [if_pos c21] at H
                  have c21b0 : (a0 == 84) = true := beq_iff_eq.mpr c21
                  have c21b1 : (a0 != 84) = false := bne_eq_false_iff_eq.mpr c21
                  clear c21
                  replace H := Option.bind_eq_some_iff.mp H
                  obtain ⟨⟨t201, t202⟩, A220, H⟩ := H
                  replace H : (if t202 = 0 then (some 0) else (some 3)) = some r := H
                  have A22 := Aside0.mk A220
                  clear A220
                  by_cases c23 : t202 = 0
                  · rw [if_pos c23] at H
                    have c23b0 : (t202 == 0) = true := beq_iff_eq.mpr c23
                    have c23b1 : (t202 != 0) = false := bne_eq_false_iff_eq.mpr c23
                    clear c23
                    obtain rfl := Option.some.inj H
                    have hcz24_0 : wc.cell? ⟨gb200, 0, none⟩ = some (.int .u64 a1_0) := (blk_cell BK200.out 0).trans rfl
                    have hcz24_1 : wc.cell? ⟨gb200, 1, none⟩ = some (.string a1_1) := (blk_cell BK200.out 1).trans rfl
                    have hfz24_0 := blk_frozen BK200.out 0
                    have hfz24_1 := blk_frozen BK200.out 1
                    go_wp2_with (first | ((with_reducible refine gate_callee (f := 51) rfl ?_); refine goesL_ (some 42) rfl rfl Tryd.func51 (by kernel_rfl) rfl #[.string a1_1] rfl (by (try simp only [List.map_toArray, List.map_cons, List.map_nil]); first | done | rfl | (simp only [List.length_drop, List.length_take]; rfl)) ?_; (with_reducible refine (interchangeref03_Deep.calls kj13 a1_1 t201 t202 _ A22.out).mono ?_); rintro e w' ⟨rfl, ⟨nd, rfl⟩⟩; refine ⟨_, rfl, ?_⟩))
                    go_ret
                    exact ⟨by first | rfl | (simp [errW_none, errW_some] <;> rfl) | (simp [*, errW_none, errW_some] <;> rfl), by repeat (first | (with_reducible first | exact HB.out | apply below_alloc | apply pw_below_drewN | apply below_drew1 | refine below_set ?_ GE200.out) | exact HB.out)⟩
                  · rw [if_neg c23] at H
                    have c23b0 : (t202 == 0) = false := beq_eq_false_iff_ne.mpr c23
                    have c23b1 : (t202 != 0) = true := bne_iff_ne.mpr c23
                    obtain rfl := Option.some.inj H
                    have hcz25_0 : wc.cell? ⟨gb200, 0, none⟩ = some (.int .u64 a1_0) := (blk_cell BK200.out 0).trans rfl
                    have hcz25_1 : wc.cell? ⟨gb200, 1, none⟩ = some (.string a1_1) := (blk_cell BK200.out 1).trans rfl
                    have hfz25_0 := blk_frozen BK200.out 0
                    have hfz25_1 := blk_frozen BK200.out 1
                    go_wp2_with (first | ((with_reducible refine gate_callee (f := 51) rfl ?_); refine goesL_ (some 42) rfl rfl Tryd.func51 (by kernel_rfl) rfl #[.string a1_1] rfl (by (try simp only [List.map_toArray, List.map_cons, List.map_nil]); first | done | rfl | (simp only [List.length_drop, List.length_take]; rfl)) ?_; (with_reducible refine (interchangeref03_Deep.calls kj13 a1_1 t201 t202 _ A22.out).mono ?_); rintro e w' ⟨rfl, ⟨nd, rfl⟩⟩; refine ⟨_, rfl, ?_⟩))
                    go_ret
                    exact ⟨by first | rfl | (simp [errW_none, errW_some] <;> rfl) | (simp [*, errW_none, errW_some] <;> rfl), by repeat (first | (with_reducible first | exact HB.out | apply below_alloc | apply pw_below_drewN | apply below_drew1 | refine below_set ?_ GE200.out) | exact HB.out)⟩
                · rw [if_neg c21] at H
                  have c21b0 : (a0 == 84) = false := beq_eq_false_iff_ne.mpr c21
                  have c21b1 : (a0 != 84) = true := bne_iff_ne.mpr c21
                  obtain rfl := Option.some.inj H
                  have hcz26_0 : wc.cell? ⟨gb200, 0, none⟩ = some (.int .u64 a1_0) := (blk_cell BK200.out 0).trans rfl
                  have hcz26_1 : wc.cell? ⟨gb200, 1, none⟩ = some (.string a1_1) := (blk_cell BK200.out 1).trans rfl
                  have hfz26_0 := blk_frozen BK200.out 0
                  have hfz26_1 := blk_frozen BK200.out 1
                  go_wp2
                  go_ret
                  exact ⟨by first | rfl | (simp [errW_none, errW_some] <;> rfl) | (simp [*, errW_none, errW_some] <;> rfl), by repeat (first | (with_reducible first | exact HB.out | apply below_alloc | apply pw_below_drewN | apply below_drew1 | refine below_set ?_ GE200.out) | exact HB.out)⟩
              · rw [if_neg c20] at H
                have c20b0 : (a1_0 == 0) = false := beq_eq_false_iff_ne.mpr c20
                have c20b1 : (a1_0 != 0) = true := bne_iff_ne.mpr c20
                obtain rfl := Option.some.inj H
                have hcz27_0 : wc.cell? ⟨gb200, 0, none⟩ = some (.int .u64 a1_0) := (blk_cell BK200.out 0).trans rfl
                have hcz27_1 : wc.cell? ⟨gb200, 1, none⟩ = some (.string a1_1) := (blk_cell BK200.out 1).trans rfl
                have hfz27_0 := blk_frozen BK200.out 0
                have hfz27_1 := blk_frozen BK200.out 1
                go_wp2
                go_ret
                exact ⟨by first | rfl | (simp [errW_none, errW_some] <;> rfl) | (simp [*, errW_none, errW_some] <;> rfl), by repeat (first | (with_reducible first | exact HB.out | apply below_alloc | apply pw_below_drewN | apply below_drew1 | refine below_set ?_ GE200.out) | exact HB.out)⟩


end Go.Proofs.YthpfcplhlhnfeaaDoor.F
namespace Go.Proofs.YthpfcplhlhnfeaaDoor.F
open Go.RowKit Go.Proofs.YthpfcplhlhnfeaaDoorW.PrintWords Go.Proofs.YthpfcplhlhnfeaaDoorW.PrintLast Go.Proofs.YthpfcplhlhnfeaaDoorW.PrintMore
attribute [local go_sem] max2_int min2_int max_two min_two max_three min_three max_four min_four
set_option linter.unusedVariables false
set_option linter.unusedSimpArgs false
set_option maxRecDepth 4000
set_option linter.unnecessarySimpa false

/-! ### interchangeref07_values: function 39 -/
def interchangeref07_values.l0 : Nat → List Int → Int → Int → Int → Int → List (S42) → Option (Int)
  | 0, _, _, _, _, _, _ => none
  | k + 1, x3, x4, x204000, x204001, x204002, x204003 => if x4 < (x3.length : Int) then (if 0 ≤ x4 then (if 0 ≤ (rd x3 x4) then (if (rd x3 x4) < 14 then (if x4 < (x204003.length : Int) then ((interchangeref07_val.f k (bt (⟨#[83, 83, 84, 111, 111, 83, 83, 83, 83, 113, 83, 83, 83, 83]⟩ : ByteArray) (rd x3 x4)) ((rd_T42 x204003 x4).f0) ((rd_T42 x204003 x4).f1)).bind fun t209 => (if t209 = 0 then (interchangeref07_values.l0 k x3 (wrap64 (x4 + 1)) x204000 x204001 x204002 x204003) else (some t209))) else (none)) else (none)) else (none)) else (none)) else (some 0)
def interchangeref07_values.f (k : Nat) (a0_0 : Int) (a0_1 : Int) (a0_2 : Int) (l0_3 : List (S42)) : Option (Int) := (interchangeref07_Which.f k a0_2).bind fun t204 => (interchangeref07_values.l0 k t204 0 a0_0 a0_1 a0_2 l0_3)
theorem interchangeref07_values.mono_l : ∀ k, (∀ y0 y1 y2 y3 y4 y5, LeO (interchangeref07_values.l0 k y0 y1 y2 y3 y4 y5) (interchangeref07_values.l0 (k + 1) y0 y1 y2 y3 y4 y5))
  | 0 => fun _ _ _ _ _ _ r h => by simp [interchangeref07_values.l0] at h
  | k + 1 => by
    have ih0 := interchangeref07_values.mono_l k
    · intro y0 y1 y2 y3 y4 y5
      unfold interchangeref07_values.l0
      repeat' first
      | (with_reducible exact ih0 _ _ _ _ _ _)
      | (with_reducible exact interchangeref07_Which.mono _ _)
      | (with_reducible exact interchangeref07_val.mono _ _ _ _)
      | (with_reducible exact LeO.refl _)
      | (with_reducible exact LeO.none _)
      | (with_reducible refine LeO.ite ?_ ?_)
      | (with_reducible refine LeO.bind ?_ (fun _ => ?_))
      | exact ih0 _ _ _ _ _ _
      | exact interchangeref07_Which.mono _ _
      | exact interchangeref07_val.mono _ _ _ _
      | exact LeO.none _
      | refine LeO.ite ?_ ?_
      | refine LeO.bind ?_ (fun _ => ?_)
theorem interchangeref07_values.mono : ∀ a0 a1 a2 a3 k, LeO (interchangeref07_values.f k a0 a1 a2 a3) (interchangeref07_values.f (k + 1) a0 a1 a2 a3) := by
  intro a0 a1 a2 a3 k
  have ih0 := interchangeref07_values.mono_l k
  unfold interchangeref07_values.f
  repeat' first
      | (with_reducible exact ih0 _ _ _ _ _ _)
      | (with_reducible exact interchangeref07_Which.mono _ _)
      | (with_reducible exact interchangeref07_val.mono _ _ _ _)
      | (with_reducible exact LeO.refl _)
      | (with_reducible exact LeO.none _)
      | (with_reducible refine LeO.ite ?_ ?_)
      | (with_reducible refine LeO.bind ?_ (fun _ => ?_))
      | exact ih0 _ _ _ _ _ _
      | exact interchangeref07_Which.mono _ _
      | exact interchangeref07_val.mono _ _ _ _
      | exact LeO.none _
      | refine LeO.ite ?_ ?_
      | refine LeO.bind ?_ (fun _ => ?_)
def interchangeref07_values.T5 : Bool × List (List Nat × List Nat) := (true, [([], []), ([], []), ([0, 1], [0, 1]), ([2], [2]), ([3], [3]), ([], []), ([5], [5]), ([], []), ([6, 7], [6, 7]), ([8], [8]), ([4, 9], [4, 9]), ([10, 10, 0, 1, 2, 3, 4, 5, 6, 7, 8, 9, 10], [10])])
def interchangeref07_values.B5 : List Nat := [0, 0, 3, 7, 15, 0, 32, 0, 224, 480, 1023, 2047]
theorem interchangeref07_values.tab5 : rtab .any (opsOf Tryd.f39 5) = interchangeref07_values.T5 := by kernel_rfl
theorem interchangeref07_values.bits5 : waitsOk interchangeref07_values.T5.2 interchangeref07_values.B5 = true := by kernel_rfl
set_option maxHeartbeats 8000000 in
set_option maxRecDepth 100000 in
theorem interchangeref07_values.calls (k : Nat) (a0_0 : Int) (a0_1 : Int) (a0_2 : Int) (A0_3 : Option Addr) (c0_3 : Nat) (l0_3 : List (S42)) (r : Int) (w : World) (hr0_3 : Kd.C k42 w A0_3 l0_3.length l0_3) (hc0_3 : l0_3.length ≤ c0_3) (h : interchangeref07_values.f k a0_0 a0_1 a0_2 l0_3 = some r) :
    Calls Tryd.prog 39 #[.agg #[.int .i64 a0_0, .int .u64 a0_1, .int .u64 a0_2, .slice A0_3 l0_3.length c0_3]] w fun e w' => e = .returned (.int .i64 r) ∧ Below w.heap.size w w' := by
  have hu25 := Tryd.underlying25
  have hu42 := Tryd.underlying42
  have HR0_3 := Aside0.mk hr0_3
  have HC0_3 := Aside0.mk hc0_3
  clear hr0_3 hc0_3
  have HB := Aside0.mk (Below.refl w.heap.size w)
  have H : ((interchangeref07_Which.f k a0_2).bind fun t204 => (interchangeref07_values.l0 k t204 0 a0_0 a0_1 a0_2 l0_3)) = some r := h
  clear h
  replace H := Option.bind_eq_some_iff.mp H
  obtain ⟨t204, A20, H⟩ := H
  replace H : (interchangeref07_values.l0 k t204 0 a0_0 a0_1 a0_2 l0_3) = some r := H
  have A2 := Aside0.mk A20
  clear A20
  have H' := Aside0.mk H
  clear H
  go_enter Tryd.func39, Tryd.ntmps39
  go_wp2_with (first | ((with_reducible refine gate_dst (N := 1) rfl ?_); refine box_event ?hg (N := 1) ?hd (cs := #[.int .i64 a0_0, .int .u64 a0_1, .int .u64 a0_2, .slice A0_3 l0_3.length c0_3]) (t := 25) ?hr ?_; (case hd => rfl); (case hg => rfl); (case hr => first | (go_simp; done) | (go_simp; rfl)); intro gb203 hg w3 hbox hb; have n0_ := Aside0.mk (below_step (by repeat (first | (with_reducible first | exact HB.out | apply below_alloc | apply pw_below_drewN | apply below_drew1) | exact HB.out)) hb); have n1_ := Aside0.mk (hbox); have n2_ := Aside0.mk ((by rw [hg]; exact (below_size (by repeat (first | (with_reducible first | exact HB.out | apply below_alloc | apply pw_below_drewN | apply below_drew1) | exact HB.out))) : w.heap.size ≤ gb203)); have n3_ := Aside0.mk ((by rw [hg]; exact (below_size (by repeat (first | (with_reducible first | exact HB.out | apply below_alloc | apply pw_below_drewN | apply below_drew1) | exact HB.out))) : w.heap.size ≤ gb203)); clear HB; have HB := n0_; have BK203 := n1_; have GW203 := n2_; have GE203 := n3_; clear n0_ n1_ n2_ n3_; clear hb hbox hg; have hcz4_0 : w3.cell? ⟨gb203, 0, none⟩ = some (.int .i64 a0_0) := (blk_cell BK203.out 0).trans rfl; have hcz4_1 : w3.cell? ⟨gb203, 1, none⟩ = some (.int .u64 a0_1) := (blk_cell BK203.out 1).trans rfl; have hcz4_2 : w3.cell? ⟨gb203, 2, none⟩ = some (.int .u64 a0_2) := (blk_cell BK203.out 2).trans rfl; have hcz4_3 : w3.cell? ⟨gb203, 3, none⟩ = some (.slice A0_3 l0_3.length c0_3) := (blk_cell BK203.out 3).trans rfl; have hfz4_0 := blk_frozen BK203.out 0; have hfz4_1 := blk_frozen BK203.out 1; have hfz4_2 := blk_frozen BK203.out 2; have hfz4_3 := blk_frozen BK203.out 3) | ((with_reducible refine gate_callee (f := 34) rfl ?_); refine goesL_ (some 8) rfl rfl Tryd.func34 (by kernel_rfl) rfl #[.int .u64 a0_2] rfl (by (try simp only [List.map_toArray, List.map_cons, List.map_nil]); first | done | rfl | (simp only [List.length_drop, List.length_take]; rfl)) ?_; (with_reducible refine (interchangeref07_Which.calls k a0_2 t204 _ A2.out).mono ?_); rintro e w5 ⟨v205, rfl, ho0, hb⟩; refine ⟨_, rfl, ?_⟩; have n0_ := Aside0.mk (Kd.R_lower ho0 (below_size (by repeat (first | (with_reducible first | exact HB.out | apply below_alloc | apply pw_below_drewN | apply below_drew1 | refine below_set ?_ GE203.out) | exact HB.out)))); have n1_ := Aside0.mk (blk_below (g := gb203) (o := .cells #[.int .i64 a0_0, .int .u64 a0_1, .int .u64 a0_2, .slice A0_3 l0_3.length c0_3] 25 (0, 0)) (by (with_reducible repeat (first | refine blk_drewN ?_ _ | refine blk_drew ?_ | refine blk_alloc ?_ _)); exact BK203.out) hb); have n2_ := Aside0.mk (below_step (by repeat (first | (with_reducible first | exact HB.out | apply below_alloc | apply pw_below_drewN | apply below_drew1 | refine below_set ?_ GE203.out) | exact HB.out)) hb); clear BK203; clear HB; have HO206 := n0_; have BK203 := n1_; have HB := n2_; clear n0_ n1_ n2_; (try clear hb); (try clear hb2); (try clear hk); (try clear hi); (try clear ho0)))
  go_loopg [4] k (fun kq v4 w' => ∃ (x4_1 : Int), v4 = .int .i64 x4_1 ∧ Aside0 (interchangeref07_values.l0 kq t204 x4_1 a0_0 a0_1 a0_2 l0_3 = some r) ∧ Aside0 (kq ≤ k) ∧ Aside0 (Kd.R (Kd.int .i64) 3 w' w.heap.size (fun _ => True) v205 t204) ∧ Aside0 (w'.heap[gb203]? = some (.cells #[.int .i64 a0_0, .int .u64 a0_1, .int .u64 a0_2, (.slice A0_3 l0_3.length c0_3)] 25 (0, 0))) ∧ Aside0 (Below w.heap.size w w'))
  case atStart => exact ⟨(0), (by first | rfl | (simp; done) | (simp [*]; done)), H', ⟨Nat.le_refl _⟩, ⟨by (with_reducible repeat (first | apply Kd.R_alloc | apply Kd.R_drewN | apply Kd.R_drew)); exact HO206.out⟩, ⟨by (with_reducible repeat (first | refine blk_drewN ?_ _ | refine blk_drew ?_ | refine blk_alloc ?_ _)); exact BK203.out⟩, ⟨by repeat (first | (with_reducible first | exact HB.out | apply below_alloc | apply pw_below_drewN | apply below_drew1 | refine below_set ?_ GE203.out) | exact HB.out)⟩⟩
  case round =>
    clear H'
    try clear p2
    try clear c3
    try clear hcz4_0
    try clear hcz4_1
    try clear hcz4_2
    try clear hcz4_3
    try clear hfz4_0
    try clear hfz4_1
    try clear hfz4_2
    try clear hfz4_3
    obtain ⟨x4_1, rfl, HA, HK1, HO_3, BK203, HB⟩ := hrel
    cases gk with
    | zero => exact absurd HA.out (by simp [interchangeref07_values.l0])
    | succ k1 =>
      have H := HA.out
      clear HA
      simp only [interchangeref07_values.l0] at H
      by_cases c6 : x4_1 < (t204.length : Int)
      · rw [if_pos c6] at H
        have c6b0 : decide (x4_1 < (t204.length : Int)) = true := decide_eq_true c6
        clear c6
        by_cases c7 : 0 ≤ x4_1
        · rw [if_pos c7] at H
          have c7b0 : decide (0 ≤ x4_1) = true := decide_eq_true c7
          clear c7
          by_cases c8 : 0 ≤ (rd t204 x4_1)
          · rw [if_pos c8] at H
            have c8b0 : decide (0 ≤ (rd t204 x4_1)) = true := decide_eq_true c8
            clear c8
            by_cases c9 : (rd t204 x4_1) < 14
            · rw [if_pos c9] at H
              have c9b0 : decide ((rd t204 x4_1) < 14) = true := decide_eq_true c9
              clear c9
              by_cases c11 : x4_1 < (l0_3.length : Int)
              · rw [if_pos c11] at H
                have c11b0 : decide (x4_1 < (l0_3.length : Int)) = true := decide_eq_true c11
                clear c11
                replace H := Option.bind_eq_some_iff.mp H
                obtain ⟨t209, A120, H⟩ := H
                replace H : (if t209 = 0 then (interchangeref07_values.l0 k1 t204 (wrap64 (x4_1 + 1)) a0_0 a0_1 a0_2 l0_3) else (some t209)) = some r := H
                have A12 := Aside0.mk A120
                clear A120
                by_cases c13 : t209 = 0
                · rw [if_pos c13] at H
                  have c13b0 : (t209 == 0) = true := beq_iff_eq.mpr c13
                  have c13b1 : (t209 != 0) = false := bne_eq_false_iff_eq.mpr c13
                  clear c13
                  have H' := Aside0.mk H
                  clear H
                  obtain ⟨Ao14, co14, eo14⟩ := Kd.R_slice HO_3.out
                  subst eo14
                  try go_wp2
                  have n0_ := Aside0.mk (Kd.R_drew HO_3.out)
                  have n1_ := Aside0.mk (blk_drew BK203.out)
                  have n2_ := Aside0.mk (below_drew1 HB.out)
                  clear HO_3
                  clear BK203
                  clear HB
                  have HO_3 := n0_
                  have BK203 := n1_
                  have HB := n2_
                  clear n0_ n1_ n2_
                  have p207 : 0 ≤ (x4_1 : Int) := of_decide_eq_true (by first | (with_reducible assumption) | assumption)
                  have q207 : x4_1 < (t204.length : Int) := of_decide_eq_true (by first | (with_reducible assumption) | assumption)
                  obtain ⟨ad207, e207, hx207_0⟩ := Kd.at_int (Kd.R_reads' HO_3.out).2.2 x4_1 p207 q207
                  cases e207
                  replace p207 := eq_true p207
                  replace q207 := eq_true q207
                  have p10 : 0 ≤ ((rd t204 x4_1) : Int) := of_decide_eq_true (by first | (with_reducible assumption) | assumption)
                  have q10 : (rd t204 x4_1) < (14 : Int) := of_decide_eq_true (by first | (with_reducible assumption) | assumption)
                  have hx10 := bt_at (⟨#[83, 83, 84, 111, 111, 83, 83, 83, 83, 113, 83, 83, 83, 83]⟩ : ByteArray) (rd t204 x4_1)
                  replace p10 := eq_true p10
                  replace q10 := eq_true q10
                  have p208 : 0 ≤ (x4_1 : Int) := of_decide_eq_true (by first | (with_reducible assumption) | assumption)
                  have q208 : x4_1 < (l0_3.length : Int) := of_decide_eq_true (by first | (with_reducible assumption) | assumption)
                  obtain ⟨ad208, e208, hx208_0, hx208_1⟩ := at_T42 HR0_3.out x4_1 p208 q208
                  have hw208_1 := hx208_1
                  have hw208_0 := hx208_0
                  cases e208
                  replace hx208_0 := (HB.out.cell (World.block_lt_of_cell? w _ hx208_0)).trans hx208_0
                  replace hx208_1 := (HB.out.cell (World.block_lt_of_cell? w _ hx208_1)).trans hx208_1
                  replace p208 := eq_true p208
                  replace q208 := eq_true q208
                  refine start_ (n := 12) (S := fun w' => w'.cell? ⟨gb203, 0, none⟩ = some (.int .i64 a0_0) ∧ w'.cell? ⟨gb203, 1, none⟩ = some (.int .u64 a0_1) ∧ w'.cell? ⟨gb203, 2, none⟩ = some (.int .u64 a0_2) ∧ w'.cell? ⟨gb203, 3, none⟩ = some (.slice (some ad208) l0_3.length c0_3) ∧ w'.cell? (ad207.add (x4_1).toNat) = some (.int .i64 (rd t204 x4_1)) ∧ w'.cell? (ad208.add ((x4_1).toNat * 2)) = some (.int .u64 ((rd_T42 l0_3 x4_1).f0)) ∧ w'.cell? ⟨(ad208.add ((x4_1).toNat * 2)).block, (ad208.add ((x4_1).toNat * 2)).off + 1, none⟩ = some (.string ((rd_T42 l0_3 x4_1).f1))) (ds := []) #[false, false, false, false, false, false, false, false, false, false, false, false] (by kernel_rfl) rfl rfl ⟨(blk_cell BK203.out 0).trans rfl, (blk_cell BK203.out 1).trans rfl, (blk_cell BK203.out 2).trans rfl, (blk_cell BK203.out 3).trans rfl, hx207_0, ((HB.out.cell (World.block_lt_of_cell? w _ hw208_0)).trans hw208_0), ((HB.out.cell (World.block_lt_of_cell? w _ hw208_1)).trans hw208_1)⟩ (fun hHeld => ?_); refine with_tabW interchangeref07_values.tab5 interchangeref07_values.bits5 (fun HT_ HW_ => ?_)
                  generalize wr.drew = w15 at HO_3 BK203 HB hx207_0 hx208_0 hx208_1 hHeld ⊢
                  refine pure_ (i := 0) (N := some 15) (v := ?_) (a' := ?_) #[true, false, false, false, false, false, false, false, false, false, false, false] rfl rfl (any_of HT_.out (by kernel_rfl)) (fun _ _ _ h => h) (Or.inl ⟨by rfl, ?_⟩) ?_ ?_
                  rotate_left
                  · intro w'
                    go_simp
                    with_reducible rfl
                  rotate_left
                  · simp only [Act.put, List.setIfInBounds_toArray, List.set_cons_zero, List.set_cons_succ, i64_w, i32_w]
                    rfl
                  refine pure_ (i := 1) (N := some 16) (v := ?_) (a' := ?_) #[true, true, false, false, false, false, false, false, false, false, false, false] rfl rfl (any_of HT_.out (by kernel_rfl)) (fun _ _ _ h => h) (Or.inl ⟨by rfl, ?_⟩) ?_ ?_
                  rotate_left
                  · intro w'
                    go_simp
                    with_reducible rfl
                  rotate_left
                  · simp only [Act.put, List.setIfInBounds_toArray, List.set_cons_zero, List.set_cons_succ, i64_w, i32_w]
                    rfl
                  refine pure_ (i := 2) (N := some 17) (v := ?_) (a' := ?_) #[true, true, true, false, false, false, false, false, false, false, false, false] rfl rfl (any_of HT_.out (by kernel_rfl)) (fun _ _ _ h => h) (Or.inl ⟨by rfl, ?_⟩) ?_ ?_
                  rotate_left
                  · intro w'
                    go_simp
                    with_reducible rfl
                  rotate_left
                  · simp only [Act.put, List.setIfInBounds_toArray, List.set_cons_zero, List.set_cons_succ, i64_w, i32_w]
                    rfl
                  refine pure_ (i := 5) (N := some 20) (v := ?_) (a' := ?_) #[true, true, true, false, false, true, false, false, false, false, false, false] rfl rfl (any_of HT_.out (by kernel_rfl)) (fun _ _ _ h => h) (Or.inl ⟨by rfl, ?_⟩) ?_ ?_
                  rotate_left
                  · intro w'
                    go_simp
                    with_reducible rfl
                  rotate_left
                  · simp only [Act.put, List.setIfInBounds_toArray, List.set_cons_zero, List.set_cons_succ, i64_w, i32_w]
                    rfl
                  refine pure_ (i := 7) (N := some 22) (v := ?_) (a' := ?_) #[true, true, true, false, false, true, false, true, false, false, false, false] rfl rfl (any_of HT_.out (by kernel_rfl)) (fun _ _ _ h => h) (Or.inl ⟨by rfl, ?_⟩) ?_ ?_
                  rotate_left
                  · intro w'
                    go_simp
                    with_reducible rfl
                  rotate_left
                  · simp only [Act.put, List.setIfInBounds_toArray, List.set_cons_zero, List.set_cons_succ, i64_w, i32_w]
                    rfl
                  refine take_ (i := 3) (N := some 18) (v := ?_) (a' := ?_) #[true, true, true, true, false, true, false, true, false, false, false, false] rfl rfl (take_ofW HT_.out HW_.out (by kernel_rfl)) (fun _ _ _ h => h) (Or.inl ⟨by rfl, ?_⟩) hHeld ?_ ?_
                  rotate_left
                  · rintro w' ⟨s0, s1, s2, s3, s4, s5, s6⟩
                    go_simp
                    with_reducible rfl
                  rotate_left
                  · simp only [Act.put, List.setIfInBounds_toArray, List.set_cons_zero, List.set_cons_succ, i64_w, i32_w]
                    rfl
                  refine take_ (i := 4) (N := some 19) (v := ?_) (a' := ?_) #[true, true, true, true, true, true, false, true, false, false, false, false] rfl rfl (take_ofW HT_.out HW_.out (by kernel_rfl)) (fun _ _ _ h => h) (Or.inl ⟨by rfl, ?_⟩) hHeld ?_ ?_
                  rotate_left
                  · rintro w' ⟨s0, s1, s2, s3, s4, s5, s6⟩
                    go_simp
                    with_reducible rfl
                  rotate_left
                  · simp only [Act.put, List.setIfInBounds_toArray, List.set_cons_zero, List.set_cons_succ, i64_w, i32_w]
                    rfl
                  refine take_ (i := 6) (N := some 21) (v := ?_) (a' := ?_) #[true, true, true, true, true, true, true, true, false, false, false, false] rfl rfl (take_ofW HT_.out HW_.out (by kernel_rfl)) (fun _ _ _ h => h) (Or.inl ⟨by rfl, ?_⟩) hHeld ?_ ?_
                  rotate_left
                  · rintro w' ⟨s0, s1, s2, s3, s4, s5, s6⟩
                    go_simp
                    with_reducible rfl
                  rotate_left
                  · simp only [Act.put, List.setIfInBounds_toArray, List.set_cons_zero, List.set_cons_succ, i64_w, i32_w]
                    rfl
                  refine pure_ (i := 8) (N := some 23) (v := ?_) (a' := ?_) #[true, true, true, true, true, true, true, true, true, false, false, false] rfl rfl (any_of HT_.out (by kernel_rfl)) (fun _ _ _ h => h) (Or.inl ⟨by rfl, ?_⟩) ?_ ?_
                  rotate_left
                  · intro w'
                    go_simp
                    with_reducible rfl
                  rotate_left
                  · simp only [Act.put, List.setIfInBounds_toArray, List.set_cons_zero, List.set_cons_succ, i64_w, i32_w]
                    rfl
                  refine take_ (i := 9) (N := some 24) (v := ?_) (a' := ?_) #[true, true, true, true, true, true, true, true, true, true, false, false] rfl rfl (take_ofW HT_.out HW_.out (by kernel_rfl)) (fun _ _ _ h => h) (Or.inl ⟨by rfl, ?_⟩) hHeld ?_ ?_
                  rotate_left
                  · rintro w' ⟨s0, s1, s2, s3, s4, s5, s6⟩
                    go_simp
                    with_reducible rfl
                  rotate_left
                  · simp only [Act.put, List.setIfInBounds_toArray, List.set_cons_zero, List.set_cons_succ, i64_w, i32_w]
                    rfl
                  refine one_ (i := 10) (N := some 25) #[true, true, true, true, true, true, true, true, true, true, true, false] rfl rfl (one_of HT_.out (by kernel_rfl)) (by decide) (fun K hK => ?_)
                  refine goes_ Tryd.func42 (by kernel_rfl) rfl #[.int .u8 (bt (⟨#[83, 83, 84, 111, 111, 83, 83, 83, 83, 113, 83, 83, 83, 83]⟩ : ByteArray) (rd t204 x4_1)), .agg #[.int .u64 ((rd_T42 l0_3 x4_1).f0), .string ((rd_T42 l0_3 x4_1).f1)]] (by rfl) rfl rfl (by (try simp only [List.map_toArray, List.map_cons, List.map_nil]); first | done | rfl | (simp only [List.length_drop, List.length_take]; rfl)) ?_
                  with_reducible refine (interchangeref07_val.calls k1 (bt (⟨#[83, 83, 84, 111, 111, 83, 83, 83, 83, 113, 83, 83, 83, 83]⟩ : ByteArray) (rd t204 x4_1)) ((rd_T42 l0_3 x4_1).f0) ((rd_T42 l0_3 x4_1).f1) t209 _ A12.out).mono ?_
                  rintro e w16 ⟨rfl, hb⟩
                  have HS4_ := (hb.cell (World.block_lt_of_cell? _ _ (hHeld.2.2.2.2.1))).trans (hHeld.2.2.2.2.1)
                  refine ⟨_, rfl, ?_⟩
                  have n0_ := Aside0.mk (Kd.R_below (by (with_reducible repeat (first | apply Kd.R_alloc | apply Kd.R_drewN | apply Kd.R_drew)); exact HO_3.out) hb)
                  have n1_ := Aside0.mk (blk_below (g := gb203) (o := .cells #[.int .i64 a0_0, .int .u64 a0_1, .int .u64 a0_2, .slice (some ad208) l0_3.length c0_3] 25 (0, 0)) (by (with_reducible repeat (first | refine blk_drewN ?_ _ | refine blk_drew ?_ | refine blk_alloc ?_ _)); exact BK203.out) hb)
                  have n2_ := Aside0.mk (below_step (by repeat (first | (with_reducible first | exact HB.out | apply below_alloc | apply pw_below_drewN | apply below_drew1 | refine below_set ?_ GE203.out) | exact HB.out)) hb)
                  clear HO_3
                  clear BK203
                  clear HB
                  have HO_3 := n0_
                  have BK203 := n1_
                  have HB := n2_
                  clear n0_ n1_ n2_
                  (try clear hb)
                  (try clear hb2)
                  (try clear hk)
                  (try clear hi)
                  refine hK.out _ _ ⟨(blk_cell BK203.out 0).trans rfl, (blk_cell BK203.out 1).trans rfl, (blk_cell BK203.out 2).trans rfl, (blk_cell BK203.out 3).trans rfl, HS4_, ((HB.out.cell (World.block_lt_of_cell? w _ hw208_0)).trans hw208_0), ((HB.out.cell (World.block_lt_of_cell? w _ hw208_1)).trans hw208_1)⟩ (fun hHeld => ?_)
                  clear hK K
                  refine norm_ (a' := ?_) ?_ ?_
                  rotate_left
                  · show Act.put _ (some 25) _ = _
                    simp only [Act.put, List.setIfInBounds_toArray, List.set_cons_zero, List.set_cons_succ, i64_w, i32_w]
                    rfl
                  refine pure_ (i := 11) (N := some 5) (v := ?_) (a' := ?_) #[true, true, true, true, true, true, true, true, true, true, true, true] rfl rfl (any_of HT_.out (by kernel_rfl)) (fun _ _ _ h => h) (Or.inl ⟨by rfl, ?_⟩) ?_ ?_
                  rotate_left
                  · intro w'
                    go_simp
                    with_reducible rfl
                  rotate_left
                  · simp only [Act.put, List.setIfInBounds_toArray, List.set_cons_zero, List.set_cons_succ, i64_w, i32_w]
                    rfl
                  refine done_ (done_of HT_.out (by kernel_rfl)) ?_
                  try go_wp2
                  go_roundg k1
                  case measure => have := HK1.out; omega
                  case rel => exact ⟨(wrap64 (x4_1 + 1)), (by first | rfl | (simp; done) | (simp [*]; done)), H', ⟨by have := HK1.out; omega⟩, ⟨by (with_reducible repeat (first | apply Kd.R_alloc | apply Kd.R_drewN | apply Kd.R_drew)); exact HO_3.out⟩, ⟨by (with_reducible repeat (first | refine blk_drewN ?_ _ | refine blk_drew ?_ | refine blk_alloc ?_ _)); exact BK203.out⟩, ⟨by repeat (first | (with_reducible first | exact HB.out | apply below_alloc | apply pw_below_drewN | apply below_drew1 | refine below_set ?_ GE203.out) | exact HB.out)⟩⟩
                · rw [if_neg c13] at H
                  have c13b0 : (t209 == 0) = false := beq_eq_false_iff_ne.mpr c13
                  have c13b1 : (t209 != 0) = true := bne_iff_ne.mpr c13
                  obtain rfl := Option.some.inj H
                  obtain ⟨Ao17, co17, eo17⟩ := Kd.R_slice HO_3.out
                  subst eo17
                  try go_wp2
                  have n0_ := Aside0.mk (Kd.R_drew HO_3.out)
                  have n1_ := Aside0.mk (blk_drew BK203.out)
                  have n2_ := Aside0.mk (below_drew1 HB.out)
                  clear HO_3
                  clear BK203
                  clear HB
                  have HO_3 := n0_
                  have BK203 := n1_
                  have HB := n2_
                  clear n0_ n1_ n2_
                  have p207 : 0 ≤ (x4_1 : Int) := of_decide_eq_true (by first | (with_reducible assumption) | assumption)
                  have q207 : x4_1 < (t204.length : Int) := of_decide_eq_true (by first | (with_reducible assumption) | assumption)
                  obtain ⟨ad207, e207, hx207_0⟩ := Kd.at_int (Kd.R_reads' HO_3.out).2.2 x4_1 p207 q207
                  cases e207
                  replace p207 := eq_true p207
                  replace q207 := eq_true q207
                  have p10 : 0 ≤ ((rd t204 x4_1) : Int) := of_decide_eq_true (by first | (with_reducible assumption) | assumption)
                  have q10 : (rd t204 x4_1) < (14 : Int) := of_decide_eq_true (by first | (with_reducible assumption) | assumption)
                  have hx10 := bt_at (⟨#[83, 83, 84, 111, 111, 83, 83, 83, 83, 113, 83, 83, 83, 83]⟩ : ByteArray) (rd t204 x4_1)
                  replace p10 := eq_true p10
                  replace q10 := eq_true q10
                  have p208 : 0 ≤ (x4_1 : Int) := of_decide_eq_true (by first | (with_reducible assumption) | assumption)
                  have q208 : x4_1 < (l0_3.length : Int) := of_decide_eq_true (by first | (with_reducible assumption) | assumption)
                  obtain ⟨ad208, e208, hx208_0, hx208_1⟩ := at_T42 HR0_3.out x4_1 p208 q208
                  have hw208_1 := hx208_1
                  have hw208_0 := hx208_0
                  cases e208
                  replace hx208_0 := (HB.out.cell (World.block_lt_of_cell? w _ hx208_0)).trans hx208_0
                  replace hx208_1 := (HB.out.cell (World.block_lt_of_cell? w _ hx208_1)).trans hx208_1
                  replace p208 := eq_true p208
                  replace q208 := eq_true q208
                  refine start_ (n := 12) (S := fun w' => w'.cell? ⟨gb203, 0, none⟩ = some (.int .i64 a0_0) ∧ w'.cell? ⟨gb203, 1, none⟩ = some (.int .u64 a0_1) ∧ w'.cell? ⟨gb203, 2, none⟩ = some (.int .u64 a0_2) ∧ w'.cell? ⟨gb203, 3, none⟩ = some (.slice (some ad208) l0_3.length c0_3) ∧ w'.cell? (ad207.add (x4_1).toNat) = some (.int .i64 (rd t204 x4_1)) ∧ w'.cell? (ad208.add ((x4_1).toNat * 2)) = some (.int .u64 ((rd_T42 l0_3 x4_1).f0)) ∧ w'.cell? ⟨(ad208.add ((x4_1).toNat * 2)).block, (ad208.add ((x4_1).toNat * 2)).off + 1, none⟩ = some (.string ((rd_T42 l0_3 x4_1).f1))) (ds := []) #[false, false, false, false, false, false, false, false, false, false, false, false] (by kernel_rfl) rfl rfl ⟨(blk_cell BK203.out 0).trans rfl, (blk_cell BK203.out 1).trans rfl, (blk_cell BK203.out 2).trans rfl, (blk_cell BK203.out 3).trans rfl, hx207_0, ((HB.out.cell (World.block_lt_of_cell? w _ hw208_0)).trans hw208_0), ((HB.out.cell (World.block_lt_of_cell? w _ hw208_1)).trans hw208_1)⟩ (fun hHeld => ?_); refine with_tabW interchangeref07_values.tab5 interchangeref07_values.bits5 (fun HT_ HW_ => ?_)
                  generalize wr.drew = w18 at HO_3 BK203 HB hx207_0 hx208_0 hx208_1 hHeld ⊢
                  refine pure_ (i := 0) (N := some 15) (v := ?_) (a' := ?_) #[true, false, false, false, false, false, false, false, false, false, false, false] rfl rfl (any_of HT_.out (by kernel_rfl)) (fun _ _ _ h => h) (Or.inl ⟨by rfl, ?_⟩) ?_ ?_
                  rotate_left
                  · intro w'
                    go_simp
                    with_reducible rfl
                  rotate_left
                  · simp only [Act.put, List.setIfInBounds_toArray, List.set_cons_zero, List.set_cons_succ, i64_w, i32_w]
                    rfl
                  refine pure_ (i := 1) (N := some 16) (v := ?_) (a' := ?_) #[true, true, false, false, false, false, false, false, false, false, false, false] rfl rfl (any_of HT_.out (by kernel_rfl)) (fun _ _ _ h => h) (Or.inl ⟨by rfl, ?_⟩) ?_ ?_
                  rotate_left
                  · intro w'
                    go_simp
                    with_reducible rfl
                  rotate_left
                  · simp only [Act.put, List.setIfInBounds_toArray, List.set_cons_zero, List.set_cons_succ, i64_w, i32_w]
                    rfl
                  refine pure_ (i := 2) (N := some 17) (v := ?_) (a' := ?_) #[true, true, true, false, false, false, false, false, false, false, false, false] rfl rfl (any_of HT_.out (by kernel_rfl)) (fun _ _ _ h => h) (Or.inl ⟨by rfl, ?_⟩) ?_ ?_
                  rotate_left
                  · intro w'
                    go_simp
                    with_reducible rfl
                  rotate_left
                  · simp only [Act.put, List.setIfInBounds_toArray, List.set_cons_zero, List.set_cons_succ, i64_w, i32_w]
                    rfl
                  refine pure_ (i := 5) (N := some 20) (v := ?_) (a' := ?_) #[true, true, true, false, false, true, false, false, false, false, false, false] rfl rfl (any_of HT_.out (by kernel_rfl)) (fun _ _ _ h => h) (Or.inl ⟨by rfl, ?_⟩) ?_ ?_
                  rotate_left
                  · intro w'
                    go_simp
                    with_reducible rfl
                  rotate_left
                  · simp only [Act.put, List.setIfInBounds_toArray, List.set_cons_zero, List.set_cons_succ, i64_w, i32_w]
                    rfl
                  refine pure_ (i := 7) (N := some 22) (v := ?_) (a' := ?_) #[true, true, true, false, false, true, false, true, false, false, false, false] rfl rfl (any_of HT_.out (by kernel_rfl)) (fun _ _ _ h => h) (Or.inl ⟨by rfl, ?_⟩) ?_ ?_
                  rotate_left
                  · intro w'
                    go_simp
                    with_reducible rfl
                  rotate_left
                  · simp only [Act.put, List.setIfInBounds_toArray, List.set_cons_zero, List.set_cons_succ, i64_w, i32_w]
                    rfl
                  refine take_ (i := 3) (N := some 18) (v := ?_) (a' := ?_) #[true, true, true, true, false, true, false, true, false, false, false, false] rfl rfl (take_ofW HT_.out HW_.out (by kernel_rfl)) (fun _ _ _ h => h) (Or.inl ⟨by rfl, ?_⟩) hHeld ?_ ?_
                  rotate_left
                  · rintro w' ⟨s0, s1, s2, s3, s4, s5, s6⟩
                    go_simp
                    with_reducible rfl
                  rotate_left
                  · simp only [Act.put, List.setIfInBounds_toArray, List.set_cons_zero, List.set_cons_succ, i64_w, i32_w]
                    rfl
                  refine take_ (i := 4) (N := some 19) (v := ?_) (a' := ?_) #[true, true, true, true, true, true, false, true, false, false, false, false] rfl rfl (take_ofW HT_.out HW_.out (by kernel_rfl)) (fun _ _ _ h => h) (Or.inl ⟨by rfl, ?_⟩) hHeld ?_ ?_
                  rotate_left
                  · rintro w' ⟨s0, s1, s2, s3, s4, s5, s6⟩
                    go_simp
                    with_reducible rfl
                  rotate_left
                  · simp only [Act.put, List.setIfInBounds_toArray, List.set_cons_zero, List.set_cons_succ, i64_w, i32_w]
                    rfl
                  refine take_ (i := 6) (N := some 21) (v := ?_) (a' := ?_) #[true, true, true, true, true, true, true, true, false, false, false, false] rfl rfl (take_ofW HT_.out HW_.out (by kernel_rfl)) (fun _ _ _ h => h) (Or.inl ⟨by rfl, ?_⟩) hHeld ?_ ?_
                  rotate_left
                  · rintro w' ⟨s0, s1, s2, s3, s4, s5, s6⟩
                    go_simp
                    with_reducible rfl
                  rotate_left
                  · simp only [Act.put, List.setIfInBounds_toArray, List.set_cons_zero, List.set_cons_succ, i64_w, i32_w]
                    rfl
                  refine pure_ (i := 8) (N := some 23) (v := ?_) (a' := ?_) #[true, true, true, true, true, true, true, true, true, false, false, false] rfl rfl (any_of HT_.out (by kernel_rfl)) (fun _ _ _ h => h) (Or.inl ⟨by rfl, ?_⟩) ?_ ?_
                  rotate_left
                  · intro w'
                    go_simp
                    with_reducible rfl
                  rotate_left
                  · simp only [Act.put, List.setIfInBounds_toArray, List.set_cons_zero, List.set_cons_succ, i64_w, i32_w]
                    rfl
                  refine take_ (i := 9) (N := some 24) (v := ?_) (a' := ?_) #[true, true, true, true, true, true, true, true, true, true, false, false] rfl rfl (take_ofW HT_.out HW_.out (by kernel_rfl)) (fun _ _ _ h => h) (Or.inl ⟨by rfl, ?_⟩) hHeld ?_ ?_
                  rotate_left
                  · rintro w' ⟨s0, s1, s2, s3, s4, s5, s6⟩
                    go_simp
                    with_reducible rfl
                  rotate_left
                  · simp only [Act.put, List.setIfInBounds_toArray, List.set_cons_zero, List.set_cons_succ, i64_w, i32_w]
                    rfl
                  refine one_ (i := 10) (N := some 25) #[true, true, true, true, true, true, true, true, true, true, true, false] rfl rfl (one_of HT_.out (by kernel_rfl)) (by decide) (fun K hK => ?_)
                  refine goes_ Tryd.func42 (by kernel_rfl) rfl #[.int .u8 (bt (⟨#[83, 83, 84, 111, 111, 83, 83, 83, 83, 113, 83, 83, 83, 83]⟩ : ByteArray) (rd t204 x4_1)), .agg #[.int .u64 ((rd_T42 l0_3 x4_1).f0), .string ((rd_T42 l0_3 x4_1).f1)]] (by rfl) rfl rfl (by (try simp only [List.map_toArray, List.map_cons, List.map_nil]); first | done | rfl | (simp only [List.length_drop, List.length_take]; rfl)) ?_
                  with_reducible refine (interchangeref07_val.calls k1 (bt (⟨#[83, 83, 84, 111, 111, 83, 83, 83, 83, 113, 83, 83, 83, 83]⟩ : ByteArray) (rd t204 x4_1)) ((rd_T42 l0_3 x4_1).f0) ((rd_T42 l0_3 x4_1).f1) t209 _ A12.out).mono ?_
                  rintro e w19 ⟨rfl, hb⟩
                  have HS4_ := (hb.cell (World.block_lt_of_cell? _ _ (hHeld.2.2.2.2.1))).trans (hHeld.2.2.2.2.1)
                  refine ⟨_, rfl, ?_⟩
                  have n0_ := Aside0.mk (Kd.R_below (by (with_reducible repeat (first | apply Kd.R_alloc | apply Kd.R_drewN | apply Kd.R_drew)); exact HO_3.out) hb)
                  have n1_ := Aside0.mk (blk_below (g := gb203) (o := .cells #[.int .i64 a0_0, .int .u64 a0_1, .int .u64 a0_2, .slice (some ad208) l0_3.length c0_3] 25 (0, 0)) (by (with_reducible repeat (first | refine blk_drewN ?_ _ | refine blk_drew ?_ | refine blk_alloc ?_ _)); exact BK203.out) hb)
                  have n2_ := Aside0.mk (below_step (by repeat (first | (with_reducible first | exact HB.out | apply below_alloc | apply pw_below_drewN | apply below_drew1 | refine below_set ?_ GE203.out) | exact HB.out)) hb)
                  clear HO_3
                  clear BK203
                  clear HB
                  have HO_3 := n0_
                  have BK203 := n1_
                  have HB := n2_
                  clear n0_ n1_ n2_
                  (try clear hb)
                  (try clear hb2)
                  (try clear hk)
                  (try clear hi)
                  refine hK.out _ _ ⟨(blk_cell BK203.out 0).trans rfl, (blk_cell BK203.out 1).trans rfl, (blk_cell BK203.out 2).trans rfl, (blk_cell BK203.out 3).trans rfl, HS4_, ((HB.out.cell (World.block_lt_of_cell? w _ hw208_0)).trans hw208_0), ((HB.out.cell (World.block_lt_of_cell? w _ hw208_1)).trans hw208_1)⟩ (fun hHeld => ?_)
                  clear hK K
                  refine norm_ (a' := ?_) ?_ ?_
                  rotate_left
                  · show Act.put _ (some 25) _ = _
                    simp only [Act.put, List.setIfInBounds_toArray, List.set_cons_zero, List.set_cons_succ, i64_w, i32_w]
                    rfl
                  refine pure_ (i := 11) (N := some 5) (v := ?_) (a' := ?_) #[true, true, true, true, true, true, true, true, true, true, true, true] rfl rfl (any_of HT_.out (by kernel_rfl)) (fun _ _ _ h => h) (Or.inl ⟨by rfl, ?_⟩) ?_ ?_
                  rotate_left
                  · intro w'
                    go_simp
                    with_reducible rfl
                  rotate_left
                  · simp only [Act.put, List.setIfInBounds_toArray, List.set_cons_zero, List.set_cons_succ, i64_w, i32_w]
                    rfl
                  refine done_ (done_of HT_.out (by kernel_rfl)) ?_
                  try go_wp2
                  go_ret
                  exact ⟨by first | rfl | (simp [errW_none, errW_some] <;> rfl) | (simp [*, errW_none, errW_some] <;> rfl), by repeat (first | (with_reducible first | exact HB.out | apply below_alloc | apply pw_below_drewN | apply below_drew1 | refine below_set ?_ GE203.out) | exact HB.out)⟩
              · rw [if_neg c11] at H
                exact absurd H (by simp)
            · rw [if_neg c9] at H
              exact absurd H (by simp)
          · rw [if_neg c8] at H
            exact absurd H (by simp)
        · rw [if_neg c7] at H
          exact absurd H (by simp)
      · rw [if_neg c6] at H
        have c6b0 : decide (x4_1 < (t204.length : Int)) = false := decide_eq_false c6
        clear c6
        obtain rfl := Option.some.inj H
        obtain ⟨Ao20, co20, eo20⟩ := Kd.R_slice HO_3.out
        subst eo20
        go_wp2
        go_ret
        exact ⟨by first | rfl | (simp [errW_none, errW_some] <;> rfl) | (simp [*, errW_none, errW_some] <;> rfl), by repeat (first | (with_reducible first | exact HB.out | apply below_alloc | apply pw_below_drewN | apply below_drew1 | refine below_set ?_ GE203.out) | exact HB.out)⟩


end Go.Proofs.YthpfcplhlhnfeaaDoor.F
namespace Go.Proofs.YthpfcplhlhnfeaaDoor.F
open Go.RowKit Go.Proofs.YthpfcplhlhnfeaaDoorW.PrintWords Go.Proofs.YthpfcplhlhnfeaaDoorW.PrintLast Go.Proofs.YthpfcplhlhnfeaaDoorW.PrintMore
attribute [local go_sem] max2_int min2_int max_two min_two max_three min_three max_four min_four
set_option linter.unusedVariables false
set_option linter.unusedSimpArgs false
set_option maxRecDepth 4000
set_option linter.unnecessarySimpa false

/-! ### interchangeref07_Right: function 32 -/
def interchangeref07_Right.f (k : Nat) (a0_0 : Int) (a0_1 : Int) (a0_2 : Int) (l0_3 : List (S42)) : Option (Int) := (interchangeref07_form.f k a0_0 a0_1 a0_2 l0_3).bind fun t211 => (if t211 = true then (if a0_1 > 65536 then (some 4) else ((interchangeref07_values.f k a0_0 a0_1 a0_2 l0_3).bind fun t212 => (some t212))) else (some 7))
theorem interchangeref07_Right.mono : ∀ a0 a1 a2 a3 k, LeO (interchangeref07_Right.f k a0 a1 a2 a3) (interchangeref07_Right.f (k + 1) a0 a1 a2 a3) := by
  intro a0 a1 a2 a3 k
  unfold interchangeref07_Right.f
  repeat' first
      | (with_reducible exact interchangeref07_form.mono _ _ _ _ _)
      | (with_reducible exact interchangeref07_values.mono _ _ _ _ _)
      | (with_reducible exact LeO.refl _)
      | (with_reducible exact LeO.none _)
      | (with_reducible refine LeO.ite ?_ ?_)
      | (with_reducible refine LeO.bind ?_ (fun _ => ?_))
      | exact interchangeref07_form.mono _ _ _ _ _
      | exact interchangeref07_values.mono _ _ _ _ _
      | exact LeO.none _
      | refine LeO.ite ?_ ?_
      | refine LeO.bind ?_ (fun _ => ?_)
set_option maxHeartbeats 8000000 in
set_option maxRecDepth 100000 in
theorem interchangeref07_Right.calls (k : Nat) (a0_0 : Int) (a0_1 : Int) (a0_2 : Int) (A0_3 : Option Addr) (c0_3 : Nat) (l0_3 : List (S42)) (r : Int) (w : World) (hr0_3 : Kd.C k42 w A0_3 l0_3.length l0_3) (hc0_3 : l0_3.length ≤ c0_3) (h : interchangeref07_Right.f k a0_0 a0_1 a0_2 l0_3 = some r) :
    Calls Tryd.prog 32 #[.agg #[.int .i64 a0_0, .int .u64 a0_1, .int .u64 a0_2, .slice A0_3 l0_3.length c0_3]] w fun e w' => e = .returned (.int .i64 r) ∧ Below w.heap.size w w' := by
  have hu25 := Tryd.underlying25
  have HR0_3 := Aside0.mk hr0_3
  have HC0_3 := Aside0.mk hc0_3
  clear hr0_3 hc0_3
  have HB := Aside0.mk (Below.refl w.heap.size w)
  have H : ((interchangeref07_form.f k a0_0 a0_1 a0_2 l0_3).bind fun t211 => (if t211 = true then (if a0_1 > 65536 then (some 4) else ((interchangeref07_values.f k a0_0 a0_1 a0_2 l0_3).bind fun t212 => (some t212))) else (some 7))) = some r := h
  clear h
  replace H := Option.bind_eq_some_iff.mp H
  obtain ⟨t211, A20, H⟩ := H
  replace H : (if t211 = true then (if a0_1 > 65536 then (some 4) else ((interchangeref07_values.f k a0_0 a0_1 a0_2 l0_3).bind fun t212 => (some t212))) else (some 7)) = some r := H
  have A2 := Aside0.mk A20
  clear A20
  by_cases c3 : t211 = true
  · subst c3
    have H1 : (if a0_1 > 65536 then (some 4) else ((interchangeref07_values.f k a0_0 a0_1 a0_2 l0_3).bind fun t212 => (some t212))) = some r := by rw [if_pos rfl] at H; exact H
    clear H
    have H := H1
    clear H1
    by_cases c4 : a0_1 > 65536
    · rw [if_pos c4] at H
      have c4b0 : decide (65536 < a0_1) = true := decide_eq_true c4
      clear c4
      obtain rfl := Option.some.inj H
      go_enter Tryd.func32, Tryd.ntmps32
      go_wp2_with (first | ((with_reducible refine gate_dst (N := 1) rfl ?_); refine box_event ?hg (N := 1) ?hd (cs := #[.int .i64 a0_0, .int .u64 a0_1, .int .u64 a0_2, .slice A0_3 l0_3.length c0_3]) (t := 25) ?hr ?_; (case hd => rfl); (case hg => rfl); (case hr => first | (go_simp; done) | (go_simp; rfl)); intro gb210 hg w5 hbox hb; have n0_ := Aside0.mk (below_step (by repeat (first | (with_reducible first | exact HB.out | apply below_alloc | apply pw_below_drewN | apply below_drew1) | exact HB.out)) hb); have n1_ := Aside0.mk (hbox); have n2_ := Aside0.mk ((by rw [hg]; exact (below_size (by repeat (first | (with_reducible first | exact HB.out | apply below_alloc | apply pw_below_drewN | apply below_drew1) | exact HB.out))) : w.heap.size ≤ gb210)); have n3_ := Aside0.mk ((by rw [hg]; exact (below_size (by repeat (first | (with_reducible first | exact HB.out | apply below_alloc | apply pw_below_drewN | apply below_drew1) | exact HB.out))) : w.heap.size ≤ gb210)); clear HB; have HB := n0_; have BK210 := n1_; have GW210 := n2_; have GE210 := n3_; clear n0_ n1_ n2_ n3_; clear hb hbox hg; have hcz6_0 : w5.cell? ⟨gb210, 0, none⟩ = some (.int .i64 a0_0) := (blk_cell BK210.out 0).trans rfl; have hcz6_1 : w5.cell? ⟨gb210, 1, none⟩ = some (.int .u64 a0_1) := (blk_cell BK210.out 1).trans rfl; have hcz6_2 : w5.cell? ⟨gb210, 2, none⟩ = some (.int .u64 a0_2) := (blk_cell BK210.out 2).trans rfl; have hcz6_3 : w5.cell? ⟨gb210, 3, none⟩ = some (.slice A0_3 l0_3.length c0_3) := (blk_cell BK210.out 3).trans rfl; have hfz6_0 := blk_frozen BK210.out 0; have hfz6_1 := blk_frozen BK210.out 1; have hfz6_2 := blk_frozen BK210.out 2; have hfz6_3 := blk_frozen BK210.out 3) | ((with_reducible refine gate_callee (f := 38) rfl ?_); refine goesL_ (some 5) rfl rfl Tryd.func38 (by kernel_rfl) rfl #[.agg #[.int .i64 a0_0, .int .u64 a0_1, .int .u64 a0_2, .slice A0_3 l0_3.length c0_3]] rfl (by (try simp only [List.map_toArray, List.map_cons, List.map_nil]); first | done | rfl | (simp only [List.length_drop, List.length_take]; rfl)) ?_; (with_reducible refine (interchangeref07_form.calls k a0_0 a0_1 a0_2 _ _ l0_3 true _ ?side1 ?side2 A2.out).mono ?_); (case side1 => repeat (first | exact (Kd.C_below HR0_3.out HB.out) | (with_reducible refine Kd.C_alloc ?_ _) | (with_reducible refine Kd.C_drewN ?_ _) | (with_reducible refine Kd.C_drew ?_))); (case side2 => exact HC0_3.out); rintro e w7 ⟨rfl, hb⟩; refine ⟨_, rfl, ?_⟩; have n0_ := Aside0.mk (blk_below (g := gb210) (o := .cells #[.int .i64 a0_0, .int .u64 a0_1, .int .u64 a0_2, .slice A0_3 l0_3.length c0_3] 25 (0, 0)) (by (with_reducible repeat (first | refine blk_drewN ?_ _ | refine blk_drew ?_ | refine blk_alloc ?_ _)); exact BK210.out) hb); have n1_ := Aside0.mk (below_step (by repeat (first | (with_reducible first | exact HB.out | apply below_alloc | apply pw_below_drewN | apply below_drew1 | refine below_set ?_ GE210.out) | exact HB.out)) hb); clear BK210; clear HB; have BK210 := n0_; have HB := n1_; clear n0_ n1_; (try clear hb); (try clear hb2); (try clear hk); (try clear hi); have hcz8_0 : w7.cell? ⟨gb210, 0, none⟩ = some (.int .i64 a0_0) := (blk_cell BK210.out 0).trans rfl; have hcz8_1 : w7.cell? ⟨gb210, 1, none⟩ = some (.int .u64 a0_1) := (blk_cell BK210.out 1).trans rfl; have hcz8_2 : w7.cell? ⟨gb210, 2, none⟩ = some (.int .u64 a0_2) := (blk_cell BK210.out 2).trans rfl; have hcz8_3 : w7.cell? ⟨gb210, 3, none⟩ = some (.slice A0_3 l0_3.length c0_3) := (blk_cell BK210.out 3).trans rfl; have hfz8_0 := blk_frozen BK210.out 0; have hfz8_1 := blk_frozen BK210.out 1; have hfz8_2 := blk_frozen BK210.out 2; have hfz8_3 := blk_frozen BK210.out 3))
      go_ret
      exact ⟨by first | rfl | (simp [errW_none, errW_some] <;> rfl) | (simp [*, errW_none, errW_some] <;> rfl), by repeat (first | (with_reducible first | exact HB.out | apply below_alloc | apply pw_below_drewN | apply below_drew1 | refine below_set ?_ GE210.out) | exact HB.out)⟩
    · rw [if_neg c4] at H
      have c4b0 : decide (65536 < a0_1) = false := decide_eq_false c4
      clear c4
      replace H := Option.bind_eq_some_iff.mp H
      obtain ⟨t212, A90, H⟩ := H
      replace H : (some t212) = some r := H
      have A9 := Aside0.mk A90
      clear A90
      obtain rfl := Option.some.inj H
      go_enter Tryd.func32, Tryd.ntmps32
      go_wp2_with (first | ((with_reducible refine gate_dst (N := 1) rfl ?_); refine box_event ?hg (N := 1) ?hd (cs := #[.int .i64 a0_0, .int .u64 a0_1, .int .u64 a0_2, .slice A0_3 l0_3.length c0_3]) (t := 25) ?hr ?_; (case hd => rfl); (case hg => rfl); (case hr => first | (go_simp; done) | (go_simp; rfl)); intro gb210 hg w10 hbox hb; have n0_ := Aside0.mk (below_step (by repeat (first | (with_reducible first | exact HB.out | apply below_alloc | apply pw_below_drewN | apply below_drew1) | exact HB.out)) hb); have n1_ := Aside0.mk (hbox); have n2_ := Aside0.mk ((by rw [hg]; exact (below_size (by repeat (first | (with_reducible first | exact HB.out | apply below_alloc | apply pw_below_drewN | apply below_drew1) | exact HB.out))) : w.heap.size ≤ gb210)); have n3_ := Aside0.mk ((by rw [hg]; exact (below_size (by repeat (first | (with_reducible first | exact HB.out | apply below_alloc | apply pw_below_drewN | apply below_drew1) | exact HB.out))) : w.heap.size ≤ gb210)); clear HB; have HB := n0_; have BK210 := n1_; have GW210 := n2_; have GE210 := n3_; clear n0_ n1_ n2_ n3_; clear hb hbox hg; have hcz11_0 : w10.cell? ⟨gb210, 0, none⟩ = some (.int .i64 a0_0) := (blk_cell BK210.out 0).trans rfl; have hcz11_1 : w10.cell? ⟨gb210, 1, none⟩ = some (.int .u64 a0_1) := (blk_cell BK210.out 1).trans rfl; have hcz11_2 : w10.cell? ⟨gb210, 2, none⟩ = some (.int .u64 a0_2) := (blk_cell BK210.out 2).trans rfl; have hcz11_3 : w10.cell? ⟨gb210, 3, none⟩ = some (.slice A0_3 l0_3.length c0_3) := (blk_cell BK210.out 3).trans rfl; have hfz11_0 := blk_frozen BK210.out 0; have hfz11_1 := blk_frozen BK210.out 1; have hfz11_2 := blk_frozen BK210.out 2; have hfz11_3 := blk_frozen BK210.out 3) | ((with_reducible refine gate_callee (f := 38) rfl ?_); refine goesL_ (some 5) rfl rfl Tryd.func38 (by kernel_rfl) rfl #[.agg #[.int .i64 a0_0, .int .u64 a0_1, .int .u64 a0_2, .slice A0_3 l0_3.length c0_3]] rfl (by (try simp only [List.map_toArray, List.map_cons, List.map_nil]); first | done | rfl | (simp only [List.length_drop, List.length_take]; rfl)) ?_; (with_reducible refine (interchangeref07_form.calls k a0_0 a0_1 a0_2 _ _ l0_3 true _ ?side1 ?side2 A2.out).mono ?_); (case side1 => repeat (first | exact (Kd.C_below HR0_3.out HB.out) | (with_reducible refine Kd.C_alloc ?_ _) | (with_reducible refine Kd.C_drewN ?_ _) | (with_reducible refine Kd.C_drew ?_))); (case side2 => exact HC0_3.out); rintro e w12 ⟨rfl, hb⟩; refine ⟨_, rfl, ?_⟩; have n0_ := Aside0.mk (blk_below (g := gb210) (o := .cells #[.int .i64 a0_0, .int .u64 a0_1, .int .u64 a0_2, .slice A0_3 l0_3.length c0_3] 25 (0, 0)) (by (with_reducible repeat (first | refine blk_drewN ?_ _ | refine blk_drew ?_ | refine blk_alloc ?_ _)); exact BK210.out) hb); have n1_ := Aside0.mk (below_step (by repeat (first | (with_reducible first | exact HB.out | apply below_alloc | apply pw_below_drewN | apply below_drew1 | refine below_set ?_ GE210.out) | exact HB.out)) hb); clear BK210; clear HB; have BK210 := n0_; have HB := n1_; clear n0_ n1_; (try clear hb); (try clear hb2); (try clear hk); (try clear hi); have hcz13_0 : w12.cell? ⟨gb210, 0, none⟩ = some (.int .i64 a0_0) := (blk_cell BK210.out 0).trans rfl; have hcz13_1 : w12.cell? ⟨gb210, 1, none⟩ = some (.int .u64 a0_1) := (blk_cell BK210.out 1).trans rfl; have hcz13_2 : w12.cell? ⟨gb210, 2, none⟩ = some (.int .u64 a0_2) := (blk_cell BK210.out 2).trans rfl; have hcz13_3 : w12.cell? ⟨gb210, 3, none⟩ = some (.slice A0_3 l0_3.length c0_3) := (blk_cell BK210.out 3).trans rfl; have hfz13_0 := blk_frozen BK210.out 0; have hfz13_1 := blk_frozen BK210.out 1; have hfz13_2 := blk_frozen BK210.out 2; have hfz13_3 := blk_frozen BK210.out 3) | ((with_reducible refine gate_callee (f := 39) rfl ?_); refine goesL_ (some 12) rfl rfl Tryd.func39 (by kernel_rfl) rfl #[.agg #[.int .i64 a0_0, .int .u64 a0_1, .int .u64 a0_2, .slice A0_3 l0_3.length c0_3]] rfl (by (try simp only [List.map_toArray, List.map_cons, List.map_nil]); first | done | rfl | (simp only [List.length_drop, List.length_take]; rfl)) ?_; (with_reducible refine (interchangeref07_values.calls k a0_0 a0_1 a0_2 _ _ l0_3 t212 _ ?side1 ?side2 A9.out).mono ?_); (case side1 => repeat (first | exact (Kd.C_below HR0_3.out HB.out) | (with_reducible refine Kd.C_alloc ?_ _) | (with_reducible refine Kd.C_drewN ?_ _) | (with_reducible refine Kd.C_drew ?_))); (case side2 => exact HC0_3.out); rintro e w14 ⟨rfl, hb⟩; refine ⟨_, rfl, ?_⟩; have n0_ := Aside0.mk (blk_below (g := gb210) (o := .cells #[.int .i64 a0_0, .int .u64 a0_1, .int .u64 a0_2, .slice A0_3 l0_3.length c0_3] 25 (0, 0)) (by (with_reducible repeat (first | refine blk_drewN ?_ _ | refine blk_drew ?_ | refine blk_alloc ?_ _)); exact BK210.out) hb); have n1_ := Aside0.mk (below_step (by repeat (first | (with_reducible first | exact HB.out | apply below_alloc | apply pw_below_drewN | apply below_drew1 | refine below_set ?_ GE210.out) | exact HB.out)) hb); clear BK210; clear HB; have BK210 := n0_; have HB := n1_; clear n0_ n1_; (try clear hb); (try clear hb2); (try clear hk); (try clear hi)))
      go_ret
      exact ⟨by first | rfl | (simp [errW_none, errW_some] <;> rfl) | (simp [*, errW_none, errW_some] <;> rfl), by repeat (first | (with_reducible first | exact HB.out | apply below_alloc | apply pw_below_drewN | apply below_drew1 | refine below_set ?_ GE210.out) | exact HB.out)⟩
  · replace c3 := Bool.eq_false_iff.mpr c3
    subst c3
    have H1 : (some 7) = some r := by rw [if_neg (show ¬ (false = true) by decide)] at H; exact H
    clear H
    have H := H1
    clear H1
    obtain rfl := Option.some.inj H
    go_enter Tryd.func32, Tryd.ntmps32
    go_wp2_with (first | ((with_reducible refine gate_dst (N := 1) rfl ?_); refine box_event ?hg (N := 1) ?hd (cs := #[.int .i64 a0_0, .int .u64 a0_1, .int .u64 a0_2, .slice A0_3 l0_3.length c0_3]) (t := 25) ?hr ?_; (case hd => rfl); (case hg => rfl); (case hr => first | (go_simp; done) | (go_simp; rfl)); intro gb210 hg w15 hbox hb; have n0_ := Aside0.mk (below_step (by repeat (first | (with_reducible first | exact HB.out | apply below_alloc | apply pw_below_drewN | apply below_drew1) | exact HB.out)) hb); have n1_ := Aside0.mk (hbox); have n2_ := Aside0.mk ((by rw [hg]; exact (below_size (by repeat (first | (with_reducible first | exact HB.out | apply below_alloc | apply pw_below_drewN | apply below_drew1) | exact HB.out))) : w.heap.size ≤ gb210)); have n3_ := Aside0.mk ((by rw [hg]; exact (below_size (by repeat (first | (with_reducible first | exact HB.out | apply below_alloc | apply pw_below_drewN | apply below_drew1) | exact HB.out))) : w.heap.size ≤ gb210)); clear HB; have HB := n0_; have BK210 := n1_; have GW210 := n2_; have GE210 := n3_; clear n0_ n1_ n2_ n3_; clear hb hbox hg; have hcz16_0 : w15.cell? ⟨gb210, 0, none⟩ = some (.int .i64 a0_0) := (blk_cell BK210.out 0).trans rfl; have hcz16_1 : w15.cell? ⟨gb210, 1, none⟩ = some (.int .u64 a0_1) := (blk_cell BK210.out 1).trans rfl; have hcz16_2 : w15.cell? ⟨gb210, 2, none⟩ = some (.int .u64 a0_2) := (blk_cell BK210.out 2).trans rfl; have hcz16_3 : w15.cell? ⟨gb210, 3, none⟩ = some (.slice A0_3 l0_3.length c0_3) := (blk_cell BK210.out 3).trans rfl; have hfz16_0 := blk_frozen BK210.out 0; have hfz16_1 := blk_frozen BK210.out 1; have hfz16_2 := blk_frozen BK210.out 2; have hfz16_3 := blk_frozen BK210.out 3) | ((with_reducible refine gate_callee (f := 38) rfl ?_); refine goesL_ (some 5) rfl rfl Tryd.func38 (by kernel_rfl) rfl #[.agg #[.int .i64 a0_0, .int .u64 a0_1, .int .u64 a0_2, .slice A0_3 l0_3.length c0_3]] rfl (by (try simp only [List.map_toArray, List.map_cons, List.map_nil]); first | done | rfl | (simp only [List.length_drop, List.length_take]; rfl)) ?_; (with_reducible refine (interchangeref07_form.calls k a0_0 a0_1 a0_2 _ _ l0_3 false _ ?side1 ?side2 A2.out).mono ?_); (case side1 => repeat (first | exact (Kd.C_below HR0_3.out HB.out) | (with_reducible refine Kd.C_alloc ?_ _) | (with_reducible refine Kd.C_drewN ?_ _) | (with_reducible refine Kd.C_drew ?_))); (case side2 => exact HC0_3.out); rintro e w17 ⟨rfl, hb⟩; refine ⟨_, rfl, ?_⟩; have n0_ := Aside0.mk (blk_below (g := gb210) (o := .cells #[.int .i64 a0_0, .int .u64 a0_1, .int .u64 a0_2, .slice A0_3 l0_3.length c0_3] 25 (0, 0)) (by (with_reducible repeat (first | refine blk_drewN ?_ _ | refine blk_drew ?_ | refine blk_alloc ?_ _)); exact BK210.out) hb); have n1_ := Aside0.mk (below_step (by repeat (first | (with_reducible first | exact HB.out | apply below_alloc | apply pw_below_drewN | apply below_drew1 | refine below_set ?_ GE210.out) | exact HB.out)) hb); clear BK210; clear HB; have BK210 := n0_; have HB := n1_; clear n0_ n1_; (try clear hb); (try clear hb2); (try clear hk); (try clear hi)))
    go_ret
    exact ⟨by first | rfl | (simp [errW_none, errW_some] <;> rfl) | (simp [*, errW_none, errW_some] <;> rfl), by repeat (first | (with_reducible first | exact HB.out | apply below_alloc | apply pw_below_drewN | apply below_drew1 | refine below_set ?_ GE210.out) | exact HB.out)⟩


end Go.Proofs.YthpfcplhlhnfeaaDoor.F
namespace Go.Proofs.YthpfcplhlhnfeaaDoor.F
open Go.RowKit Go.Proofs.YthpfcplhlhnfeaaDoorW.PrintWords Go.Proofs.YthpfcplhlhnfeaaDoorW.PrintLast Go.Proofs.YthpfcplhlhnfeaaDoorW.PrintMore
set_option linter.unusedVariables false
set_option linter.unusedSimpArgs false
set_option maxRecDepth 4000
abbrev intsOf (l : List Nat) : List Int := l.map (fun n : Nat => (n : Int))
theorem pow_half (m : Nat) (hm : m < 63) : IntKind.u64.wrap (Int.tdiv (2 ^ (m + 1)) 2) = (2 : Int) ^ m := by
  have h : ∀ m : Fin 63, IntKind.u64.wrap (Int.tdiv (2 ^ (m.val + 1)) 2) = (2 : Int) ^ m.val := by decide +kernel
  exact h ⟨m, hm⟩
theorem which_loop (fl : Int) (h0 : 0 ≤ fl) (h1 : fl < 18446744073709551616) : ∀ (d i k : Nat) (pre : List Int), 14 = i + d → d < k → pre.length ≤ i →
    interchangeref07_Which.l0 k fl pre (2 ^ (15 - i)) (i : Int) = some (pre ++ intsOf (whichF fl i)) := by
  intro d
  induction d with
  | zero =>
    intro i k pre h hk hp
    obtain ⟨k, rfl⟩ : ∃ j, k = j + 1 := ⟨k - 1, by omega⟩
    rw [interchangeref07_Which.l0, if_neg (by omega), whichF_end fl i (by omega)]
    simp
  | succ d ih =>
    intro i k pre h hk hp
    obtain ⟨k, rfl⟩ : ∃ j, k = j + 1 := ⟨k - 1, by omega⟩
    obtain ⟨m, hm⟩ : ∃ m, 15 - i = m + 1 := ⟨14 - i, by omega⟩
    have hm2 : 15 - (i + 1) = m := by omega
    have hpos : (0 : Int) < 2 ^ (15 - i) := Int.pow_pos (by decide)
    have hw1 : wrap64 ((i : Int) + 1) = ((i + 1 : Nat) : Int) := w_succ (by omega)
    have hq : IntKind.u64.wrap (Int.tdiv fl (2 ^ (15 - i))) = fl / 2 ^ (15 - i) := by
      rw [Int.tdiv_eq_ediv_of_nonneg h0]
      exact wrapU (Int.ediv_nonneg h0 (Int.le_of_lt hpos)) (Int.lt_of_le_of_lt (Int.ediv_le_self _ h0) h1)
    have hh : IntKind.u64.wrap (Int.tdiv (2 ^ (15 - i)) 2) = (2 : Int) ^ (15 - (i + 1)) := by rw [hm, hm2]; exact pow_half m (by omega)
    have hb : (Int.tmod (fl / 2 ^ (15 - i)) 2 = 1) ↔ hasB fl i = true := by
      rw [Int.tmod_eq_emod_of_nonneg (Int.ediv_nonneg h0 (Int.le_of_lt hpos))]
      unfold hasB
      exact (decide_eq_true_iff).symm
    rw [interchangeref07_Which.l0, if_pos (by omega), if_neg (by omega), hq, hh, hw1, whichF_step fl i (by omega)]
    by_cases e : hasB fl i = true
    · rw [if_pos (hb.2 e), if_pos (by omega), if_pos e, ih (i + 1) k (pre ++ [(i : Int)]) (by omega) (by omega) (by simp; omega)]
      simp
    · rw [if_neg (fun h => e (hb.1 h)), if_neg e, ih (i + 1) k pre (by omega) (by omega) (by omega)]
theorem Which_k {k : Nat} (hk : 15 ≤ k) (fl : Int) (h0 : 0 ≤ fl) (h1 : fl < 18446744073709551616) : interchangeref07_Which.f k fl = some (intsOf (whichF fl 0)) := by
  have := which_loop fl h0 h1 14 0 k [] (by omega) (by omega) (by simp)
  unfold interchangeref07_Which.f
  rw [show ((0 : Nat) : Int) = 0 from rfl] at this
  exact this
theorem rval_k {k : Nat} (hk : 14 ≤ k) (c n : Int) (s : ByteArray) (hc : isL c) (h0 : 0 ≤ n) (hz : s.size ≤ 4503599627370496) : interchangeref07_val.f k c n s = some (rightR c n s) := by
  obtain ⟨k, rfl⟩ : ∃ j, k = j + 2 := ⟨k - 2, by omega⟩
  have hd := rDeep_k (k := k) (by omega) s (by omega)
  have hdr : (deepR s).2 = 0 ↔ wholeR s = 0 := by
    unfold deepR
    by_cases e : wholeR s = 0
    · rw [if_pos e]; first | done | exact ⟨fun _ => e, fun _ => rfl⟩
    · rw [if_neg e]; first | done | exact ⟨fun h => absurd h e, fun h => absurd h e⟩
  unfold interchangeref07_val.f rightR
  rcases hc with rfl | rfl | rfl | rfl
  · rw [if_neg (by decide), if_pos rfl, interchangeref07_val.j0]
    by_cases e1 : 255 < s.size
    · rw [decide_eq_true (by omega), if_pos rfl, if_pos (.inr ⟨rfl, e1⟩)]
    · rw [decide_eq_false (by omega), if_neg (by decide), if_neg (by decide), if_neg (fun h => h.elim (fun h => absurd h.1 (by decide)) (fun h => e1 h.2)), interchangeref07_val.j1, if_neg (by decide)]
      by_cases e2 : n = 0
      · rw [if_pos e2, if_neg (by decide), if_neg (fun h => h.elim (fun h => absurd h.1 (by decide)) (fun h => h.2 e2)), if_neg (fun h => absurd h.1 (by decide))]
      · rw [if_neg e2, if_pos (.inr ⟨by decide, e2⟩)]
  · rw [if_neg (by decide), if_neg (by decide), interchangeref07_val.j0, if_neg (by decide), if_neg (by decide), if_neg (fun h => h.elim (fun h => absurd h.1 (by decide)) (fun h => absurd h.1 (by decide))), interchangeref07_val.j1, if_neg (by decide)]
    by_cases e2 : n = 0
    · rw [if_pos e2, if_pos rfl, if_neg (fun h => h.elim (fun h => absurd h.1 (by decide)) (fun h => h.2 e2)), hd, Option.bind_some]
      by_cases e3 : wholeR s = 0
      · rw [if_pos (hdr.2 e3), if_neg (fun h => h.2 e3)]
      · rw [if_neg (fun h => e3 (hdr.1 h)), if_pos ⟨rfl, e3⟩]
    · rw [if_neg e2, if_pos (.inr ⟨by decide, e2⟩)]
  · rw [if_pos rfl]
    by_cases e1 : n > 255
    · rw [if_pos e1, interchangeref07_val.j0, if_pos rfl, if_pos (.inl ⟨rfl, by omega⟩)]
    · have r1 : ¬ (((111 : Int) = 111 ∧ ¬ n < 256) ∨ ((111 : Int) = 83 ∧ 255 < s.size)) := fun h => h.elim (fun h => h.2 (by omega)) (fun h => absurd h.1 (by decide))
      rw [if_neg e1, if_neg (by decide), interchangeref07_val.j0, if_neg (by decide), if_pos rfl, interchangeref07_val.j1, if_pos rfl, if_neg r1]
      by_cases e2 : s.size = 0
      · rw [if_neg (by omega), if_neg (fun h => h.elim (fun h => h.2 e2) (fun h => h.1 (.inl rfl))), if_neg (fun h => absurd h.1 (by decide))]
      · rw [if_pos (show (s.size : Int) > 0 by omega), if_pos (.inl ⟨.inl rfl, e2⟩)]
  · have r1 : ¬ (((113 : Int) = 111 ∧ ¬ n < 256) ∨ ((113 : Int) = 83 ∧ 255 < s.size)) := fun h => h.elim (fun h => absurd h.1 (by decide)) (fun h => absurd h.1 (by decide))
    rw [if_neg (by decide), if_neg (by decide), interchangeref07_val.j0, if_neg (by decide), if_neg (by decide), interchangeref07_val.j1, if_pos (by decide), if_neg r1]
    by_cases e2 : s.size = 0
    · rw [if_neg (by omega), if_neg (fun h => h.elim (fun h => h.2 e2) (fun h => h.1 (.inr rfl))), if_neg (fun h => absurd h.1 (by decide))]
    · rw [if_pos (show (s.size : Int) > 0 by omega), if_pos (.inl ⟨.inr rfl, e2⟩)]
theorem rform_k {k : Nat} (hk : 15 ≤ k) (a b fl : Int) (l : List S42) (h0 : 0 ≤ fl) (h1 : fl < 18446744073709551616) : interchangeref07_form.f k a b fl l = some (decide (FormR a fl l)) := by
  unfold interchangeref07_form.f
  by_cases e1 : a = 60
  · rw [if_pos e1]
    by_cases e2 : fl < 65536
    · rw [if_pos e2, Int.tmod_eq_emod_of_nonneg h0]
      by_cases e3 : fl % 4 = 0
      · rw [if_pos e3, Which_k hk fl h0 h1, Option.bind_some, List.length_map]
        by_cases e4 : (whichF fl 0).length = l.length
        · rw [decide_eq_true (show FormR a fl l from ⟨e1, by omega, e3, e4⟩), beq_iff_eq.2 (by omega)]
        · rw [decide_eq_false (show ¬ FormR a fl l from fun h => e4 h.2.2.2), beq_eq_false_iff_ne.2 (by omega)]
      · rw [if_neg e3, decide_eq_false (show ¬ FormR a fl l from fun h => e3 h.2.2.1)]
    · rw [if_neg e2, decide_eq_false (show ¬ FormR a fl l from fun h => e2 (by have := h.2.1; omega))]
  · rw [if_neg e1, decide_eq_false (show ¬ FormR a fl l from fun h => e1 h.1)]
theorem rd_ints (ws : List Nat) (n : Nat) (h : n < ws.length) : rd (intsOf ws) (n : Int) = ((ws.getD n 0 : Nat) : Int) := by
  unfold rd
  rw [Int.toNat_natCast]
  simp [h]
theorem drop_nat (ws : List Nat) (n : Nat) (h : n < ws.length) : ws.drop n = ws.getD n 0 :: ws.drop (n + 1) := by
  rw [List.drop_eq_getElem_cons h]
  simp [h]
theorem at_lt {ws : List Nat} (hw : ∀ i ∈ ws, i < 14) {n : Nat} (h : n < ws.length) : ws.getD n 0 < 14 := by
  have : ws.getD n 0 = ws[n] := by simp [h]
  rw [this]
  exact hw _ (List.getElem_mem h)
theorem rd_val (l : List S42) (n : Nat) : rd_T42 l (n : Int) = l.getD n z42 := by unfold rd_T42; rw [Int.toNat_natCast]
theorem values_loop {a b fl : Int} {l : List S42} (ok : okH b fl l) (ws : List Nat) (hw : ∀ i ∈ ws, i < 14) (hl : ws.length ≤ l.length) : ∀ (d n k : Nat), ws.length = n + d → d + 14 < k →
    interchangeref07_values.l0 k (intsOf ws) (n : Int) a b fl l = some (valsGo l (ws.drop n) n) := by
  intro d
  induction d with
  | zero =>
    intro n k h hk
    obtain ⟨k, rfl⟩ : ∃ j, k = j + 1 := ⟨k - 1, by omega⟩
    rw [interchangeref07_values.l0, if_neg (by rw [List.length_map]; omega), List.drop_of_length_le (by omega)]
    rfl
  | succ d ih =>
    intro n k h hk
    obtain ⟨k, rfl⟩ : ∃ j, k = j + 1 := ⟨k - 1, by omega⟩
    have hlt := at_lt hw (n := n) (by omega)
    have hv := ok.at (n := n) (by omega)
    rw [interchangeref07_values.l0, if_pos (by rw [List.length_map]; omega), if_pos (by omega), rd_ints ws n (by omega), if_pos (by omega), if_pos (by omega), if_pos (by have := ok.2.2.1; omega), rd_val, drop_nat ws n (by omega), valsGo, w_succ (i := n) (by have := ok.2.2.1; omega)]
    have hr := rval_k (k := k) (by omega) (letN (ws.getD n 0)) (l.getD n z42).f0 (l.getD n z42).f1 (letN_isL _ hlt) hv.1 hv.2.2
    have hb : bt (⟨#[83, 83, 84, 111, 111, 83, 83, 83, 83, 113, 83, 83, 83, 83]⟩ : ByteArray) ((ws.getD n 0 : Nat) : Int) = letN (ws.getD n 0) := rfl
    rw [hb, hr, Option.bind_some]
    by_cases e : rightR (letN (ws.getD n 0)) (l.getD n z42).f0 (l.getD n z42).f1 = 0
    · rw [if_pos e, if_pos e, ih (n + 1) k (by omega) (by omega)]
    · rw [if_neg e, if_neg e]
theorem rvalues_k {k : Nat} (hk : 60 ≤ k) {a b fl : Int} {l : List S42} (ok : okH b fl l) (hl : (whichF fl 0).length ≤ l.length) : interchangeref07_values.f k a b fl l = some (valuesR fl l) := by
  unfold interchangeref07_values.f
  have hw := whichF_len fl
  rw [Which_k (by omega) fl ok.2.1.1 ok.2.1.2, Option.bind_some]
  have := values_loop (a := a) ok (whichF fl 0) (which_lt fl) hl (whichF fl 0).length 0 k (by omega) (by omega)
  rw [List.drop_zero] at this
  exact this
theorem rRight_k {k : Nat} (hk : 60 ≤ k) {a b fl : Int} {l : List S42} (ok : okH b fl l) : interchangeref07_Right.f k a b fl l = some (RightR a b fl l) := by
  unfold interchangeref07_Right.f RightR
  rw [rform_k (by omega) a b fl l ok.2.1.1 ok.2.1.2, Option.bind_some]
  by_cases e : FormR a fl l
  · rw [decide_eq_true e, if_pos rfl, if_pos e]
    by_cases e2 : b > 65536
    · rw [if_pos e2, if_pos (show 65536 < b from e2)]
    · rw [if_neg e2, if_neg (show ¬ 65536 < b from e2), rvalues_k hk ok (by rw [e.2.2.2]; exact Nat.le_refl _), Option.bind_some]
  · rw [decide_eq_false e, if_neg (by decide), if_neg e]
theorem api_loop (l l' : List S42) (hl : l.length = l'.length) (hz : l.length ≤ 4503599627370496) : ∀ (d i k : Nat), l.length = i + d → d < k →
    api_Val.l0 k l l' (l.length : Int) (i : Int) = some (eqL (l.drop i) (l'.drop i)) := by
  intro d
  induction d with
  | zero =>
    intro i k h hk
    obtain ⟨k, rfl⟩ : ∃ j, k = j + 1 := ⟨k - 1, by omega⟩
    rw [api_Val.l0, if_neg (by omega), List.drop_of_length_le (by omega), List.drop_of_length_le (by omega)]
    rfl
  | succ d ih =>
    intro i k h hk
    obtain ⟨k, rfl⟩ : ∃ j, k = j + 1 := ⟨k - 1, by omega⟩
    rw [api_Val.l0, if_pos (by omega), if_pos (by omega), if_pos (by omega), if_pos (by omega), w_succ (i := i) (by omega), rd_val, rd_val, drop_val l i (by omega), drop_val l' i (by omega), eqL, ih (i + 1) k (by omega) (by omega)]
    generalize l.getD i z42 = x
    generalize l'.getD i z42 = y
    unfold eqV
    cases (x.f0 == y.f0) <;> cases (x.f1.toList == y.f1.toList) <;> rfl
theorem pSame_k {k : Nat} (a b fl : Int) (l : List S42) (a' b' fl' : Int) (l' : List S42) (hk : l.length + 3 ≤ k) (hz : l.length ≤ 4503599627370496) : props_Same.f k a b fl l a' b' fl' l' = some (sameB a b fl l a' b' fl' l') := by
  unfold props_Same.f sameB
  by_cases e1 : a = a'
  · rw [if_pos e1, decide_eq_true e1, Bool.true_and]
    by_cases e2 : b = b'
    · rw [if_pos e2, decide_eq_true e2, Bool.true_and]
      by_cases e3 : fl = fl'
      · rw [if_pos e3, decide_eq_true e3, Bool.true_and]
        unfold api_Val.f
        by_cases e4 : l.length = l'.length
        · have h0 := api_loop l l' e4 hz l.length 0 k (by omega) (by omega)
          rw [List.drop_zero, List.drop_zero] at h0
          rw [if_pos (by omega)]
          exact (congrArg (fun o => Option.bind o fun t => some t) h0).trans rfl
        · rw [eqL_len l l' e4, if_neg (by omega), Option.bind_some]
      · rw [if_neg e3, decide_eq_false e3, Bool.false_and]
    · rw [if_neg e2, decide_eq_false e2, Bool.false_and, Bool.false_and]
  · rw [if_neg e1, decide_eq_false e1, Bool.false_and, Bool.false_and, Bool.false_and]
end Go.Proofs.YthpfcplhlhnfeaaDoor.F
namespace Go.Proofs.YthpfcplhlhnfeaaDoor.F
open Go.RowKit Go.Proofs.YthpfcplhlhnfeaaDoorW.PrintWords Go.Proofs.YthpfcplhlhnfeaaDoorW.PrintLast Go.Proofs.YthpfcplhlhnfeaaDoorW.PrintMore
attribute [local go_sem] max2_int min2_int max_two min_two max_three min_three max_four min_four
set_option linter.unusedVariables false
set_option linter.unusedSimpArgs false
set_option maxRecDepth 4000
set_option linter.unnecessarySimpa false

/-! ### interchangeref07_Get: function 19 -/
def interchangeref07_Get.l0 : Nat → Int → List Int → Int → Int → Int → Int → List (S42) → Option (Int × ByteArray × Bool)
  | 0, _, _, _, _, _, _, _ => none
  | k + 1, x1, x6, x7, x328000, x328001, x328002, x328003 => if x7 < (x6.length : Int) then (if 0 ≤ x7 then (if (rd x6 x7) = x1 then (if x7 < (x328003.length : Int) then (some ((rd_T42 x328003 x7).f0, (rd_T42 x328003 x7).f1, true)) else (none)) else (interchangeref07_Get.l0 k x1 x6 (wrap64 (x7 + 1)) x328000 x328001 x328002 x328003)) else (none)) else (some (0, (⟨#[]⟩ : ByteArray), false))
def interchangeref07_Get.f (k : Nat) (a0_0 : Int) (a0_1 : Int) (a0_2 : Int) (l0_3 : List (S42)) (a1 : Int) : Option (Int × ByteArray × Bool) := (interchangeref07_Right.f k a0_0 a0_1 a0_2 l0_3).bind fun t329 => (if t329 = 0 then ((interchangeref07_Which.f k a0_2).bind fun t330 => (interchangeref07_Get.l0 k a1 t330 0 a0_0 a0_1 a0_2 l0_3)) else (some (0, (⟨#[]⟩ : ByteArray), false)))
theorem interchangeref07_Get.mono_l : ∀ k, (∀ y0 y1 y2 y3 y4 y5 y6, LeO (interchangeref07_Get.l0 k y0 y1 y2 y3 y4 y5 y6) (interchangeref07_Get.l0 (k + 1) y0 y1 y2 y3 y4 y5 y6))
  | 0 => fun _ _ _ _ _ _ _ r h => by simp [interchangeref07_Get.l0] at h
  | k + 1 => by
    have ih0 := interchangeref07_Get.mono_l k
    · intro y0 y1 y2 y3 y4 y5 y6
      unfold interchangeref07_Get.l0
      repeat' first
      | (with_reducible exact ih0 _ _ _ _ _ _ _)
      | (with_reducible exact interchangeref07_Right.mono _ _ _ _ _)
      | (with_reducible exact interchangeref07_Which.mono _ _)
      | (with_reducible exact LeO.refl _)
      | (with_reducible exact LeO.none _)
      | (with_reducible refine LeO.ite ?_ ?_)
      | (with_reducible refine LeO.bind ?_ (fun _ => ?_))
      | exact ih0 _ _ _ _ _ _ _
      | exact interchangeref07_Right.mono _ _ _ _ _
      | exact interchangeref07_Which.mono _ _
      | exact LeO.none _
      | refine LeO.ite ?_ ?_
      | refine LeO.bind ?_ (fun _ => ?_)
theorem interchangeref07_Get.mono : ∀ a0 a1 a2 a3 a4 k, LeO (interchangeref07_Get.f k a0 a1 a2 a3 a4) (interchangeref07_Get.f (k + 1) a0 a1 a2 a3 a4) := by
  intro a0 a1 a2 a3 a4 k
  have ih0 := interchangeref07_Get.mono_l k
  unfold interchangeref07_Get.f
  repeat' first
      | (with_reducible exact ih0 _ _ _ _ _ _ _)
      | (with_reducible exact interchangeref07_Right.mono _ _ _ _ _)
      | (with_reducible exact interchangeref07_Which.mono _ _)
      | (with_reducible exact LeO.refl _)
      | (with_reducible exact LeO.none _)
      | (with_reducible refine LeO.ite ?_ ?_)
      | (with_reducible refine LeO.bind ?_ (fun _ => ?_))
      | exact ih0 _ _ _ _ _ _ _
      | exact interchangeref07_Right.mono _ _ _ _ _
      | exact interchangeref07_Which.mono _ _
      | exact LeO.none _
      | refine LeO.ite ?_ ?_
      | refine LeO.bind ?_ (fun _ => ?_)
set_option maxHeartbeats 8000000 in
set_option maxRecDepth 100000 in
theorem interchangeref07_Get.calls (k : Nat) (a0_0 : Int) (a0_1 : Int) (a0_2 : Int) (A0_3 : Option Addr) (c0_3 : Nat) (l0_3 : List (S42)) (a1 : Int) (r1 : Int) (r2 : ByteArray) (r3 : Bool) (w : World) (hr0_3 : Kd.C k42 w A0_3 l0_3.length l0_3) (hc0_3 : l0_3.length ≤ c0_3) (h : interchangeref07_Get.f k a0_0 a0_1 a0_2 l0_3 a1 = some (r1, r2, r3)) :
    Calls Tryd.prog 19 #[.agg #[.int .i64 a0_0, .int .u64 a0_1, .int .u64 a0_2, .slice A0_3 l0_3.length c0_3], .int .i64 a1] w fun e w' => e = .returned (.tuple #[.agg #[.int .u64 r1, .string r2], .bool r3]) ∧ Below w.heap.size w w' := by
  have hu25 := Tryd.underlying25
  have hu42 := Tryd.underlying42
  have HR0_3 := Aside0.mk hr0_3
  have HC0_3 := Aside0.mk hc0_3
  clear hr0_3 hc0_3
  have HB := Aside0.mk (Below.refl w.heap.size w)
  have H : ((interchangeref07_Right.f k a0_0 a0_1 a0_2 l0_3).bind fun t329 => (if t329 = 0 then ((interchangeref07_Which.f k a0_2).bind fun t330 => (interchangeref07_Get.l0 k a1 t330 0 a0_0 a0_1 a0_2 l0_3)) else (some (0, (⟨#[]⟩ : ByteArray), false)))) = some (r1, r2, r3) := h
  clear h
  replace H := Option.bind_eq_some_iff.mp H
  obtain ⟨t329, A30, H⟩ := H
  replace H : (if t329 = 0 then ((interchangeref07_Which.f k a0_2).bind fun t330 => (interchangeref07_Get.l0 k a1 t330 0 a0_0 a0_1 a0_2 l0_3)) else (some (0, (⟨#[]⟩ : ByteArray), false))) = some (r1, r2, r3) := H
  have A3 := Aside0.mk A30
  clear A30
  by_cases c4 : t329 = 0
  · rw [if_pos c4] at H
    have c4b0 : (t329 == 0) = true := beq_iff_eq.mpr c4
    have c4b1 : (t329 != 0) = false := bne_eq_false_iff_eq.mpr c4
    clear c4
    replace H := Option.bind_eq_some_iff.mp H
    obtain ⟨t330, A50, H⟩ := H
    replace H : (interchangeref07_Get.l0 k a1 t330 0 a0_0 a0_1 a0_2 l0_3) = some (r1, r2, r3) := H
    have A5 := Aside0.mk A50
    clear A50
    have H' := Aside0.mk H
    clear H
    go_enter Tryd.func19, Tryd.ntmps19
    go_wp2_with (first | ((with_reducible refine gate_dst (N := 2) rfl ?_); refine box_event ?hg (N := 2) ?hd (cs := #[.int .i64 a0_0, .int .u64 a0_1, .int .u64 a0_2, .slice A0_3 l0_3.length c0_3]) (t := 25) ?hr ?_; (case hd => rfl); (case hg => rfl); (case hr => first | (go_simp; done) | (go_simp; rfl)); intro gb327 hg w6 hbox hb; have n0_ := Aside0.mk (below_step (by repeat (first | (with_reducible first | exact HB.out | apply below_alloc | apply pw_below_drewN | apply below_drew1) | exact HB.out)) hb); have n1_ := Aside0.mk (hbox); have n2_ := Aside0.mk ((by rw [hg]; exact (below_size (by repeat (first | (with_reducible first | exact HB.out | apply below_alloc | apply pw_below_drewN | apply below_drew1) | exact HB.out))) : w.heap.size ≤ gb327)); have n3_ := Aside0.mk ((by rw [hg]; exact (below_size (by repeat (first | (with_reducible first | exact HB.out | apply below_alloc | apply pw_below_drewN | apply below_drew1) | exact HB.out))) : w.heap.size ≤ gb327)); clear HB; have HB := n0_; have BK327 := n1_; have GW327 := n2_; have GE327 := n3_; clear n0_ n1_ n2_ n3_; clear hb hbox hg) | ((with_reducible refine gate_dst (N := 4) rfl ?_); refine box_event ?hg (N := 4) ?hd (cs := #[.int .u64 0, .string (⟨#[]⟩ : ByteArray)]) (t := 42) ?hr ?_; (case hd => rfl); (case hg => rfl); (case hr => first | (go_simp; done) | (go_simp; rfl)); intro gb328 hg w7 hbox hb; have n0_ := Aside0.mk (blk_below (g := gb327) (o := .cells #[.int .i64 a0_0, .int .u64 a0_1, .int .u64 a0_2, .slice A0_3 l0_3.length c0_3] 25 (0, 0)) (by (with_reducible repeat (first | refine blk_drewN ?_ _ | refine blk_drew ?_ | refine blk_alloc ?_ _)); exact BK327.out) hb); have n1_ := Aside0.mk (below_step (by repeat (first | (with_reducible first | exact HB.out | apply below_alloc | apply pw_below_drewN | apply below_drew1 | refine below_set ?_ GE327.out) | exact HB.out)) hb); have n2_ := Aside0.mk (hbox); have n3_ := Aside0.mk ((by rw [hg]; exact (below_size (by repeat (first | (with_reducible first | exact HB.out | apply below_alloc | apply pw_below_drewN | apply below_drew1 | refine below_set ?_ GE327.out) | exact HB.out))) : w.heap.size ≤ gb328)); have n4_ := Aside0.mk ((by rw [hg]; exact (below_size (by repeat (first | (with_reducible first | exact HB.out | apply below_alloc | apply pw_below_drewN | apply below_drew1 | refine below_set ?_ GE327.out) | exact HB.out))) : w.heap.size ≤ gb328)); have n5_ := Aside0.mk ((by rw [hg]; exact Nat.ne_of_lt (blk_lt (g := gb327) (o := .cells #[.int .i64 a0_0, .int .u64 a0_1, .int .u64 a0_2, .slice A0_3 l0_3.length c0_3] 25 (0, 0)) (by (with_reducible repeat (first | refine blk_drewN ?_ _ | refine blk_drew ?_ | refine blk_alloc ?_ _)); exact BK327.out)) : gb327 ≠ gb328)); have n6_ := Aside0.mk ((by rw [hg]; exact Nat.ne_of_gt (blk_lt (g := gb327) (o := .cells #[.int .i64 a0_0, .int .u64 a0_1, .int .u64 a0_2, .slice A0_3 l0_3.length c0_3] 25 (0, 0)) (by (with_reducible repeat (first | refine blk_drewN ?_ _ | refine blk_drew ?_ | refine blk_alloc ?_ _)); exact BK327.out)) : gb328 ≠ gb327)); clear BK327; clear HB; have BK327 := n0_; have HB := n1_; have BK328 := n2_; have GW328 := n3_; have GE328 := n4_; have NB327_328 := n5_; have NB328_327 := n6_; clear n0_ n1_ n2_ n3_ n4_ n5_ n6_; clear hb hbox hg; have hnb8 := NB327_328.out; have hnc8 := NB328_327.out; have hcz9_0 : w7.cell? ⟨gb327, 0, none⟩ = some (.int .i64 a0_0) := (blk_cell BK327.out 0).trans rfl; have hcz9_1 : w7.cell? ⟨gb327, 1, none⟩ = some (.int .u64 a0_1) := (blk_cell BK327.out 1).trans rfl; have hcz9_2 : w7.cell? ⟨gb327, 2, none⟩ = some (.int .u64 a0_2) := (blk_cell BK327.out 2).trans rfl; have hcz9_3 : w7.cell? ⟨gb327, 3, none⟩ = some (.slice A0_3 l0_3.length c0_3) := (blk_cell BK327.out 3).trans rfl; have hfz9_0 := blk_frozen BK327.out 0; have hfz9_1 := blk_frozen BK327.out 1; have hfz9_2 := blk_frozen BK327.out 2; have hfz9_3 := blk_frozen BK327.out 3) | ((with_reducible refine gate_callee (f := 32) rfl ?_); refine goesL_ (some 9) rfl rfl Tryd.func32 (by kernel_rfl) rfl #[.agg #[.int .i64 a0_0, .int .u64 a0_1, .int .u64 a0_2, .slice A0_3 l0_3.length c0_3]] rfl (by (try simp only [List.map_toArray, List.map_cons, List.map_nil]); first | done | rfl | (simp only [List.length_drop, List.length_take]; rfl)) ?_; (with_reducible refine (interchangeref07_Right.calls k a0_0 a0_1 a0_2 _ _ l0_3 t329 _ ?side1 ?side2 A3.out).mono ?_); (case side1 => repeat (first | exact (Kd.C_below HR0_3.out HB.out) | (with_reducible refine Kd.C_alloc ?_ _) | (with_reducible refine Kd.C_drewN ?_ _) | (with_reducible refine Kd.C_drew ?_))); (case side2 => exact HC0_3.out); rintro e w10 ⟨rfl, hb⟩; refine ⟨_, rfl, ?_⟩; have n0_ := Aside0.mk (blk_below (g := gb327) (o := .cells #[.int .i64 a0_0, .int .u64 a0_1, .int .u64 a0_2, .slice A0_3 l0_3.length c0_3] 25 (0, 0)) (by (with_reducible repeat (first | refine blk_drewN ?_ _ | refine blk_drew ?_ | refine blk_alloc ?_ _)); exact BK327.out) hb); have n1_ := Aside0.mk (blk_below (g := gb328) (o := .cells #[.int .u64 0, .string (⟨#[]⟩ : ByteArray)] 42 (0, 0)) (by (with_reducible repeat (first | refine blk_drewN ?_ _ | refine blk_drew ?_ | refine blk_alloc ?_ _)); exact BK328.out) hb); have n2_ := Aside0.mk (below_step (by repeat (first | (with_reducible first | exact HB.out | apply below_alloc | apply pw_below_drewN | apply below_drew1 | refine below_set ?_ GE327.out | refine below_set ?_ GE328.out) | exact HB.out)) hb); clear BK327; clear BK328; clear HB; have BK327 := n0_; have BK328 := n1_; have HB := n2_; clear n0_ n1_ n2_; (try clear hb); (try clear hb2); (try clear hk); (try clear hi); have hcz11_0 : w10.cell? ⟨gb327, 0, none⟩ = some (.int .i64 a0_0) := (blk_cell BK327.out 0).trans rfl; have hcz11_1 : w10.cell? ⟨gb327, 1, none⟩ = some (.int .u64 a0_1) := (blk_cell BK327.out 1).trans rfl; have hcz11_2 : w10.cell? ⟨gb327, 2, none⟩ = some (.int .u64 a0_2) := (blk_cell BK327.out 2).trans rfl; have hcz11_3 : w10.cell? ⟨gb327, 3, none⟩ = some (.slice A0_3 l0_3.length c0_3) := (blk_cell BK327.out 3).trans rfl; have hfz11_0 := blk_frozen BK327.out 0; have hfz11_1 := blk_frozen BK327.out 1; have hfz11_2 := blk_frozen BK327.out 2; have hfz11_3 := blk_frozen BK327.out 3) | ((with_reducible refine gate_callee (f := 34) rfl ?_); refine goesL_ (some 14) rfl rfl Tryd.func34 (by kernel_rfl) rfl #[.int .u64 a0_2] rfl (by (try simp only [List.map_toArray, List.map_cons, List.map_nil]); first | done | rfl | (simp only [List.length_drop, List.length_take]; rfl)) ?_; (with_reducible refine (interchangeref07_Which.calls k a0_2 t330 _ A5.out).mono ?_); rintro e w12 ⟨v331, rfl, ho0, hb⟩; refine ⟨_, rfl, ?_⟩; have n0_ := Aside0.mk (Kd.R_lower ho0 (below_size (by repeat (first | (with_reducible first | exact HB.out | apply below_alloc | apply pw_below_drewN | apply below_drew1 | refine below_set ?_ GE327.out | refine below_set ?_ GE328.out) | exact HB.out)))); have n1_ := Aside0.mk (blk_below (g := gb327) (o := .cells #[.int .i64 a0_0, .int .u64 a0_1, .int .u64 a0_2, .slice A0_3 l0_3.length c0_3] 25 (0, 0)) (by (with_reducible repeat (first | refine blk_drewN ?_ _ | refine blk_drew ?_ | refine blk_alloc ?_ _)); exact BK327.out) hb); have n2_ := Aside0.mk (blk_below (g := gb328) (o := .cells #[.int .u64 0, .string (⟨#[]⟩ : ByteArray)] 42 (0, 0)) (by (with_reducible repeat (first | refine blk_drewN ?_ _ | refine blk_drew ?_ | refine blk_alloc ?_ _)); exact BK328.out) hb); have n3_ := Aside0.mk (below_step (by repeat (first | (with_reducible first | exact HB.out | apply below_alloc | apply pw_below_drewN | apply below_drew1 | refine below_set ?_ GE327.out | refine below_set ?_ GE328.out) | exact HB.out)) hb); clear BK327; clear BK328; clear HB; have HO332 := n0_; have BK327 := n1_; have BK328 := n2_; have HB := n3_; clear n0_ n1_ n2_ n3_; (try clear hb); (try clear hb2); (try clear hk); (try clear hi); (try clear ho0)))
    go_loopg [7] k (fun kq v7 w' => ∃ (x7_1 : Int) (x329000_1 : Int) (x329001_1 : ByteArray), v7 = .int .i64 x7_1 ∧ Aside0 (interchangeref07_Get.l0 kq a1 t330 x7_1 a0_0 a0_1 a0_2 l0_3 = some (r1, r2, r3)) ∧ Aside0 (kq ≤ k) ∧ Aside0 (Kd.R (Kd.int .i64) 3 w' w.heap.size (fun _ => True) v331 t330) ∧ Aside0 (w'.heap[gb327]? = some (.cells #[.int .i64 a0_0, .int .u64 a0_1, .int .u64 a0_2, (.slice A0_3 l0_3.length c0_3)] 25 (0, 0))) ∧ Aside0 (w'.heap[gb328]? = some (.cells #[.int .u64 x329000_1, .string x329001_1] 42 (0, 0))) ∧ Aside0 (Below w.heap.size w w'))
    case atStart => exact ⟨(0), (0), ((⟨#[]⟩ : ByteArray)), (by first | rfl | (simp; done) | (simp [*]; done)), H', ⟨Nat.le_refl _⟩, ⟨by (with_reducible repeat (first | apply Kd.R_alloc | apply Kd.R_drewN | apply Kd.R_drew)); exact HO332.out⟩, ⟨by (with_reducible repeat (first | refine blk_drewN ?_ _ | refine blk_drew ?_ | refine blk_alloc ?_ _)); exact BK327.out⟩, ⟨by (with_reducible repeat (first | refine blk_drewN ?_ _ | refine blk_drew ?_ | refine blk_alloc ?_ _)); exact BK328.out⟩, ⟨by repeat (first | (with_reducible first | exact HB.out | apply below_alloc | apply pw_below_drewN | apply below_drew1 | refine below_set ?_ GE327.out | refine below_set ?_ GE328.out) | exact HB.out)⟩⟩
    case round =>
      clear H'
      try clear c1
      try clear p2
      try clear c3
      try clear c4
      try clear c4b0
      try clear c4b1
      try clear c8
      try clear hcz11_0
      try clear hcz11_1
      try clear hcz11_2
      try clear hcz11_3
      try clear hcz9_0
      try clear hcz9_1
      try clear hcz9_2
      try clear hcz9_3
      try clear hfz11_0
      try clear hfz11_1
      try clear hfz11_2
      try clear hfz11_3
      try clear hfz9_0
      try clear hfz9_1
      try clear hfz9_2
      try clear hfz9_3
      obtain ⟨x7_1, x329000_1, x329001_1, rfl, HA, HK1, HO_6, BK327, BK328, HB⟩ := hrel
      cases gk with
      | zero => exact absurd HA.out (by simp [interchangeref07_Get.l0])
      | succ k1 =>
        have H := HA.out
        clear HA
        simp only [interchangeref07_Get.l0] at H
        by_cases c13 : x7_1 < (t330.length : Int)
        · rw [if_pos c13] at H
          have c13b0 : decide (x7_1 < (t330.length : Int)) = true := decide_eq_true c13
          clear c13
          by_cases c14 : 0 ≤ x7_1
          · rw [if_pos c14] at H
            have c14b0 : decide (0 ≤ x7_1) = true := decide_eq_true c14
            clear c14
            by_cases c15 : (rd t330 x7_1) = a1
            · rw [if_pos c15] at H
              have c15b0 : ((rd t330 x7_1) == a1) = true := beq_iff_eq.mpr c15
              have c15b1 : ((rd t330 x7_1) != a1) = false := bne_eq_false_iff_eq.mpr c15
              clear c15
              by_cases c16 : x7_1 < (l0_3.length : Int)
              · rw [if_pos c16] at H
                have c16b0 : decide (x7_1 < (l0_3.length : Int)) = true := decide_eq_true c16
                clear c16
                simp only [Option.some.injEq, Prod.mk.injEq] at H
                obtain ⟨rfl, rfl, rfl⟩ := H
                obtain ⟨Ao17, co17, eo17⟩ := Kd.R_slice HO_6.out
                subst eo17
                have p333 : 0 ≤ (x7_1 : Int) := of_decide_eq_true (by first | (with_reducible assumption) | assumption)
                have q333 : x7_1 < (t330.length : Int) := of_decide_eq_true (by first | (with_reducible assumption) | assumption)
                obtain ⟨ad333, e333, hx333_0⟩ := Kd.at_int (Kd.R_reads' HO_6.out).2.2 x7_1 p333 q333
                cases e333
                replace p333 := eq_true p333
                replace q333 := eq_true q333
                have hnb18 := NB327_328.out
                have hnc18 := NB328_327.out
                have hcz19_0 : wr.cell? ⟨gb327, 0, none⟩ = some (.int .i64 a0_0) := (blk_cell BK327.out 0).trans rfl
                have hcz19_1 : wr.cell? ⟨gb327, 1, none⟩ = some (.int .u64 a0_1) := (blk_cell BK327.out 1).trans rfl
                have hcz19_2 : wr.cell? ⟨gb327, 2, none⟩ = some (.int .u64 a0_2) := (blk_cell BK327.out 2).trans rfl
                have hcz19_3 : wr.cell? ⟨gb327, 3, none⟩ = some (.slice A0_3 l0_3.length c0_3) := (blk_cell BK327.out 3).trans rfl
                have hfz19_0 := blk_frozen BK327.out 0
                have hfz19_1 := blk_frozen BK327.out 1
                have hfz19_2 := blk_frozen BK327.out 2
                have hfz19_3 := blk_frozen BK327.out 3
                have p334 : 0 ≤ (x7_1 : Int) := of_decide_eq_true (by first | (with_reducible assumption) | assumption)
                have q334 : x7_1 < (l0_3.length : Int) := of_decide_eq_true (by first | (with_reducible assumption) | assumption)
                obtain ⟨ad334, e334, hx334_0, hx334_1⟩ := at_T42 HR0_3.out x7_1 p334 q334
                cases e334
                replace hx334_0 := (HB.out.cell (World.block_lt_of_cell? w _ hx334_0)).trans hx334_0
                replace hx334_1 := (HB.out.cell (World.block_lt_of_cell? w _ hx334_1)).trans hx334_1
                replace p334 := eq_true p334
                replace q334 := eq_true q334
                have hcz20_0 : wr.cell? ⟨gb328, 0, none⟩ = some (.int .u64 x329000_1) := (blk_cell BK328.out 0).trans rfl
                have hcz20_1 : wr.cell? ⟨gb328, 1, none⟩ = some (.string x329001_1) := (blk_cell BK328.out 1).trans rfl
                have hfz20_0 := blk_frozen BK328.out 0
                have hfz20_1 := blk_frozen BK328.out 1
                go_wp2
                refine bodyPost_ret (results_ct rfl _ _ gb328 42 #[.int .u64 ((rd_T42 l0_3 x7_1).f0), .string ((rd_T42 l0_3 x7_1).f1)] (0, 0) _ rfl (by (with_reducible repeat (first | refine blk_drewN ?_ _ | refine blk_drew ?_ | refine blk_alloc ?_ _)); refine blk_put (cs := #[.int .u64 ((rd_T42 l0_3 x7_1).f0), .string x329001_1]) ?_ 1 _ rfl; (with_reducible repeat (first | refine blk_drewN ?_ _ | refine blk_drew ?_ | refine blk_alloc ?_ _)); refine blk_put (cs := #[.int .u64 x329000_1, .string x329001_1]) ?_ 0 _ rfl; (with_reducible repeat (first | refine blk_drewN ?_ _ | refine blk_drew ?_ | refine blk_alloc ?_ _)); exact BK328.out) Tryd.underlying42 rfl (by kernel_rfl)) rfl ?_
                exact ⟨by first | rfl | (simp [errW_none, errW_some] <;> rfl) | (simp [*, errW_none, errW_some] <;> rfl), by repeat (first | (with_reducible first | exact HB.out | apply below_alloc | apply pw_below_drewN | apply below_drew1 | refine below_set ?_ GE327.out | refine below_set ?_ GE328.out) | exact HB.out)⟩
              · rw [if_neg c16] at H
                exact absurd H (by simp)
            · rw [if_neg c15] at H
              have c15b0 : ((rd t330 x7_1) == a1) = false := beq_eq_false_iff_ne.mpr c15
              have c15b1 : ((rd t330 x7_1) != a1) = true := bne_iff_ne.mpr c15
              have H' := Aside0.mk H
              clear H
              obtain ⟨Ao21, co21, eo21⟩ := Kd.R_slice HO_6.out
              subst eo21
              have p333 : 0 ≤ (x7_1 : Int) := of_decide_eq_true (by first | (with_reducible assumption) | assumption)
              have q333 : x7_1 < (t330.length : Int) := of_decide_eq_true (by first | (with_reducible assumption) | assumption)
              obtain ⟨ad333, e333, hx333_0⟩ := Kd.at_int (Kd.R_reads' HO_6.out).2.2 x7_1 p333 q333
              cases e333
              replace p333 := eq_true p333
              replace q333 := eq_true q333
              go_wp2
              go_roundg k1
              case measure => have := HK1.out; omega
              case rel => exact ⟨(wrap64 (x7_1 + 1)), (x329000_1), (x329001_1), (by first | rfl | (simp; done) | (simp [*]; done)), H', ⟨by have := HK1.out; omega⟩, ⟨by (with_reducible repeat (first | apply Kd.R_alloc | apply Kd.R_drewN | apply Kd.R_drew)); exact HO_6.out⟩, ⟨by (with_reducible repeat (first | refine blk_drewN ?_ _ | refine blk_drew ?_ | refine blk_alloc ?_ _)); exact BK327.out⟩, ⟨by (with_reducible repeat (first | refine blk_drewN ?_ _ | refine blk_drew ?_ | refine blk_alloc ?_ _)); exact BK328.out⟩, ⟨by repeat (first | (with_reducible first | exact HB.out | apply below_alloc | apply pw_below_drewN | apply below_drew1 | refine below_set ?_ GE327.out | refine below_set ?_ GE328.out) | exact HB.out)⟩⟩
          · rw [if_neg c14] at H
            exact absurd H (by simp)
        · rw [if_neg c13] at H
          have c13b0 : decide (x7_1 < (t330.length : Int)) = false := decide_eq_false c13
          clear c13
          simp only [Option.some.injEq, Prod.mk.injEq] at H
          obtain ⟨rfl, rfl, rfl⟩ := H
          obtain ⟨Ao22, co22, eo22⟩ := Kd.R_slice HO_6.out
          subst eo22
          have hnb23 := NB328_327.out
          have hnc23 := NB327_328.out
          have hcz24_0 : wr.cell? ⟨gb328, 0, none⟩ = some (.int .u64 x329000_1) := (blk_cell BK328.out 0).trans rfl
          have hcz24_1 : wr.cell? ⟨gb328, 1, none⟩ = some (.string x329001_1) := (blk_cell BK328.out 1).trans rfl
          have hfz24_0 := blk_frozen BK328.out 0
          have hfz24_1 := blk_frozen BK328.out 1
          go_wp2
          refine bodyPost_ret (results_ct rfl _ _ gb328 42 #[.int .u64 0, .string (⟨#[]⟩ : ByteArray)] (0, 0) _ rfl (by (with_reducible repeat (first | refine blk_drewN ?_ _ | refine blk_drew ?_ | refine blk_alloc ?_ _)); refine blk_put (cs := #[.int .u64 0, .string x329001_1]) ?_ 1 _ rfl; (with_reducible repeat (first | refine blk_drewN ?_ _ | refine blk_drew ?_ | refine blk_alloc ?_ _)); refine blk_put (cs := #[.int .u64 x329000_1, .string x329001_1]) ?_ 0 _ rfl; (with_reducible repeat (first | refine blk_drewN ?_ _ | refine blk_drew ?_ | refine blk_alloc ?_ _)); exact BK328.out) Tryd.underlying42 rfl (by kernel_rfl)) rfl ?_
          exact ⟨by first | rfl | (simp [errW_none, errW_some] <;> rfl) | (simp [*, errW_none, errW_some] <;> rfl), by repeat (first | (with_reducible first | exact HB.out | apply below_alloc | apply pw_below_drewN | apply below_drew1 | refine below_set ?_ GE327.out | refine below_set ?_ GE328.out) | exact HB.out)⟩
  · rw [if_neg c4] at H
    have c4b0 : (t329 == 0) = false := beq_eq_false_iff_ne.mpr c4
    have c4b1 : (t329 != 0) = true := bne_iff_ne.mpr c4
    simp only [Option.some.injEq, Prod.mk.injEq] at H
    obtain ⟨rfl, rfl, rfl⟩ := H
    go_enter Tryd.func19, Tryd.ntmps19
    go_wp2_with (first | ((with_reducible refine gate_dst (N := 2) rfl ?_); refine box_event ?hg (N := 2) ?hd (cs := #[.int .i64 a0_0, .int .u64 a0_1, .int .u64 a0_2, .slice A0_3 l0_3.length c0_3]) (t := 25) ?hr ?_; (case hd => rfl); (case hg => rfl); (case hr => first | (go_simp; done) | (go_simp; rfl)); intro gb327 hg w25 hbox hb; have n0_ := Aside0.mk (below_step (by repeat (first | (with_reducible first | exact HB.out | apply below_alloc | apply pw_below_drewN | apply below_drew1) | exact HB.out)) hb); have n1_ := Aside0.mk (hbox); have n2_ := Aside0.mk ((by rw [hg]; exact (below_size (by repeat (first | (with_reducible first | exact HB.out | apply below_alloc | apply pw_below_drewN | apply below_drew1) | exact HB.out))) : w.heap.size ≤ gb327)); have n3_ := Aside0.mk ((by rw [hg]; exact (below_size (by repeat (first | (with_reducible first | exact HB.out | apply below_alloc | apply pw_below_drewN | apply below_drew1) | exact HB.out))) : w.heap.size ≤ gb327)); clear HB; have HB := n0_; have BK327 := n1_; have GW327 := n2_; have GE327 := n3_; clear n0_ n1_ n2_ n3_; clear hb hbox hg) | ((with_reducible refine gate_dst (N := 4) rfl ?_); refine box_event ?hg (N := 4) ?hd (cs := #[.int .u64 0, .string (⟨#[]⟩ : ByteArray)]) (t := 42) ?hr ?_; (case hd => rfl); (case hg => rfl); (case hr => first | (go_simp; done) | (go_simp; rfl)); intro gb328 hg w26 hbox hb; have n0_ := Aside0.mk (blk_below (g := gb327) (o := .cells #[.int .i64 a0_0, .int .u64 a0_1, .int .u64 a0_2, .slice A0_3 l0_3.length c0_3] 25 (0, 0)) (by (with_reducible repeat (first | refine blk_drewN ?_ _ | refine blk_drew ?_ | refine blk_alloc ?_ _)); exact BK327.out) hb); have n1_ := Aside0.mk (below_step (by repeat (first | (with_reducible first | exact HB.out | apply below_alloc | apply pw_below_drewN | apply below_drew1 | refine below_set ?_ GE327.out) | exact HB.out)) hb); have n2_ := Aside0.mk (hbox); have n3_ := Aside0.mk ((by rw [hg]; exact (below_size (by repeat (first | (with_reducible first | exact HB.out | apply below_alloc | apply pw_below_drewN | apply below_drew1 | refine below_set ?_ GE327.out) | exact HB.out))) : w.heap.size ≤ gb328)); have n4_ := Aside0.mk ((by rw [hg]; exact (below_size (by repeat (first | (with_reducible first | exact HB.out | apply below_alloc | apply pw_below_drewN | apply below_drew1 | refine below_set ?_ GE327.out) | exact HB.out))) : w.heap.size ≤ gb328)); have n5_ := Aside0.mk ((by rw [hg]; exact Nat.ne_of_lt (blk_lt (g := gb327) (o := .cells #[.int .i64 a0_0, .int .u64 a0_1, .int .u64 a0_2, .slice A0_3 l0_3.length c0_3] 25 (0, 0)) (by (with_reducible repeat (first | refine blk_drewN ?_ _ | refine blk_drew ?_ | refine blk_alloc ?_ _)); exact BK327.out)) : gb327 ≠ gb328)); have n6_ := Aside0.mk ((by rw [hg]; exact Nat.ne_of_gt (blk_lt (g := gb327) (o := .cells #[.int .i64 a0_0, .int .u64 a0_1, .int .u64 a0_2, .slice A0_3 l0_3.length c0_3] 25 (0, 0)) (by (with_reducible repeat (first | refine blk_drewN ?_ _ | refine blk_drew ?_ | refine blk_alloc ?_ _)); exact BK327.out)) : gb328 ≠ gb327)); clear BK327; clear HB; have BK327 := n0_; have HB := n1_; have BK328 := n2_; have GW328 := n3_; have GE328 := n4_; have NB327_328 := n5_; have NB328_327 := n6_; clear n0_ n1_ n2_ n3_ n4_ n5_ n6_; clear hb hbox hg; have hnb27 := NB327_328.out; have hnc27 := NB328_327.out; have hcz28_0 : w26.cell? ⟨gb327, 0, none⟩ = some (.int .i64 a0_0) := (blk_cell BK327.out 0).trans rfl; have hcz28_1 : w26.cell? ⟨gb327, 1, none⟩ = some (.int .u64 a0_1) := (blk_cell BK327.out 1).trans rfl; have hcz28_2 : w26.cell? ⟨gb327, 2, none⟩ = some (.int .u64 a0_2) := (blk_cell BK327.out 2).trans rfl; have hcz28_3 : w26.cell? ⟨gb327, 3, none⟩ = some (.slice A0_3 l0_3.length c0_3) := (blk_cell BK327.out 3).trans rfl; have hfz28_0 := blk_frozen BK327.out 0; have hfz28_1 := blk_frozen BK327.out 1; have hfz28_2 := blk_frozen BK327.out 2; have hfz28_3 := blk_frozen BK327.out 3) | ((with_reducible refine gate_callee (f := 32) rfl ?_); refine goesL_ (some 9) rfl rfl Tryd.func32 (by kernel_rfl) rfl #[.agg #[.int .i64 a0_0, .int .u64 a0_1, .int .u64 a0_2, .slice A0_3 l0_3.length c0_3]] rfl (by (try simp only [List.map_toArray, List.map_cons, List.map_nil]); first | done | rfl | (simp only [List.length_drop, List.length_take]; rfl)) ?_; (with_reducible refine (interchangeref07_Right.calls k a0_0 a0_1 a0_2 _ _ l0_3 t329 _ ?side1 ?side2 A3.out).mono ?_); (case side1 => repeat (first | exact (Kd.C_below HR0_3.out HB.out) | (with_reducible refine Kd.C_alloc ?_ _) | (with_reducible refine Kd.C_drewN ?_ _) | (with_reducible refine Kd.C_drew ?_))); (case side2 => exact HC0_3.out); rintro e w29 ⟨rfl, hb⟩; refine ⟨_, rfl, ?_⟩; have n0_ := Aside0.mk (blk_below (g := gb327) (o := .cells #[.int .i64 a0_0, .int .u64 a0_1, .int .u64 a0_2, .slice A0_3 l0_3.length c0_3] 25 (0, 0)) (by (with_reducible repeat (first | refine blk_drewN ?_ _ | refine blk_drew ?_ | refine blk_alloc ?_ _)); exact BK327.out) hb); have n1_ := Aside0.mk (blk_below (g := gb328) (o := .cells #[.int .u64 0, .string (⟨#[]⟩ : ByteArray)] 42 (0, 0)) (by (with_reducible repeat (first | refine blk_drewN ?_ _ | refine blk_drew ?_ | refine blk_alloc ?_ _)); exact BK328.out) hb); have n2_ := Aside0.mk (below_step (by repeat (first | (with_reducible first | exact HB.out | apply below_alloc | apply pw_below_drewN | apply below_drew1 | refine below_set ?_ GE327.out | refine below_set ?_ GE328.out) | exact HB.out)) hb); clear BK327; clear BK328; clear HB; have BK327 := n0_; have BK328 := n1_; have HB := n2_; clear n0_ n1_ n2_; (try clear hb); (try clear hb2); (try clear hk); (try clear hi); have hcz30_0 : w29.cell? ⟨gb328, 0, none⟩ = some (.int .u64 0) := (blk_cell BK328.out 0).trans rfl; have hcz30_1 : w29.cell? ⟨gb328, 1, none⟩ = some (.string (⟨#[]⟩ : ByteArray)) := (blk_cell BK328.out 1).trans rfl; have hfz30_0 := blk_frozen BK328.out 0; have hfz30_1 := blk_frozen BK328.out 1))
    refine bodyPost_ret (results_ct rfl _ _ gb328 42 #[.int .u64 0, .string (⟨#[]⟩ : ByteArray)] (0, 0) _ rfl (by (with_reducible repeat (first | refine blk_drewN ?_ _ | refine blk_drew ?_ | refine blk_alloc ?_ _)); refine blk_put (cs := #[.int .u64 0, .string (⟨#[]⟩ : ByteArray)]) ?_ 1 _ rfl; (with_reducible repeat (first | refine blk_drewN ?_ _ | refine blk_drew ?_ | refine blk_alloc ?_ _)); refine blk_put (cs := #[.int .u64 0, .string (⟨#[]⟩ : ByteArray)]) ?_ 0 _ rfl; (with_reducible repeat (first | refine blk_drewN ?_ _ | refine blk_drew ?_ | refine blk_alloc ?_ _)); exact BK328.out) Tryd.underlying42 rfl (by kernel_rfl)) rfl ?_
    exact ⟨by first | rfl | (simp [errW_none, errW_some] <;> rfl) | (simp [*, errW_none, errW_some] <;> rfl), by repeat (first | (with_reducible first | exact HB.out | apply below_alloc | apply pw_below_drewN | apply below_drew1 | refine below_set ?_ GE327.out | refine below_set ?_ GE328.out) | exact HB.out)⟩


end Go.Proofs.YthpfcplhlhnfeaaDoor.F
namespace Go.Proofs.YthpfcplhlhnfeaaDoor.F
open Go.RowKit Go.Proofs.YthpfcplhlhnfeaaDoorW.PrintWords Go.Proofs.YthpfcplhlhnfeaaDoorW.PrintLast Go.Proofs.YthpfcplhlhnfeaaDoorW.PrintMore
set_option linter.unusedVariables false
set_option linter.unusedSimpArgs false
set_option maxRecDepth 4000
theorem rget_loop {a b fl : Int} {l : List S42} (x : Int) (ws : List Nat) (hw : ws.length ≤ 14) (hl : ws.length ≤ l.length) : ∀ (d n k : Nat), ws.length = n + d → d < k →
    interchangeref07_Get.l0 k x (intsOf ws) (n : Int) a b fl l = some (getGo l x (ws.drop n) n) := by
  intro d
  induction d with
  | zero =>
    intro n k h hk
    obtain ⟨k, rfl⟩ : ∃ j, k = j + 1 := ⟨k - 1, by omega⟩
    rw [interchangeref07_Get.l0, if_neg (by rw [List.length_map]; omega), List.drop_of_length_le (by omega)]
    rfl
  | succ d ih =>
    intro n k h hk
    obtain ⟨k, rfl⟩ : ∃ j, k = j + 1 := ⟨k - 1, by omega⟩
    rw [interchangeref07_Get.l0, if_pos (by rw [List.length_map]; omega), if_pos (by omega), rd_ints ws n (by omega), drop_nat ws n (by omega), getGo]
    by_cases e : ((ws.getD n 0 : Nat) : Int) = x
    · rw [if_pos e, if_pos e, if_pos (by omega), rd_val]
    · rw [if_neg e, if_neg e, w_succ (i := n) (by omega), ih (n + 1) k (by omega) (by omega)]
theorem rGet_k {k : Nat} (hk : 80 ≤ k) {a b fl : Int} {l : List S42} (ok : okH b fl l) (x : Int) : interchangeref07_Get.f k a b fl l x = some (getR a b fl l x) := by
  unfold interchangeref07_Get.f getR
  rw [rRight_k (by omega) ok, Option.bind_some]
  by_cases e : RightR a b fl l = 0
  · have hw := whichF_len fl
    have hf := (right_form e).1.2.2.2
    rw [if_pos e, if_pos e, Which_k (by omega) fl ok.2.1.1 ok.2.1.2, Option.bind_some]
    have := rget_loop (a := a) (b := b) (fl := fl) (l := l) x (whichF fl 0) hw (by omega) (whichF fl 0).length 0 k (by omega) (by omega)
    rw [List.drop_zero] at this
    exact this
  · rw [if_neg e, if_neg e]
/-- the flags of the properties below n -/
def fT (g : Int) : Nat → Int
  | 0 => 0
  | n + 1 => if hasB g n = true then fT g n + 2 ^ (15 - n) else fT g n
/-- the values of the properties below n -/
def vT (g : Int) (f : Nat → S42) : Nat → List S42
  | 0 => []
  | n + 1 => if hasB g n = true then vT g f n ++ [f n] else vT g f n
theorem vT_which (g : Int) (f : Nat → S42) : ∀ n, n ≤ 14 → vT g f n ++ (whichF g n).map f = (whichF g 0).map f
  | 0, _ => rfl
  | n + 1, h => by
    have ih := vT_which g f n (by omega)
    rw [whichF_step g n (by omega)] at ih
    rw [vT]
    by_cases e : hasB g n = true
    · rw [if_pos e] at ih ⊢
      rw [List.append_assoc]
      exact ih
    · rw [if_neg e] at ih ⊢
      exact ih
theorem vT_all (g : Int) (f : Nat → S42) : vT g f 14 = (whichF g 0).map f := by
  have h := vT_which g f 14 (Nat.le_refl _)
  rw [whichF_end g 14 (Nat.le_refl _)] at h
  simpa using h
theorem vT_len (g : Int) (f : Nat → S42) : ∀ n, (vT g f n).length ≤ n
  | 0 => Nat.le_refl _
  | n + 1 => by
    have ih := vT_len g f n
    rw [vT]
    split
    · rw [List.length_append, List.length_singleton]; omega
    · omega
theorem fT_nat (x : Nat) (hx : x < 65536) : ∀ n, n ≤ 15 → fT (x : Int) n = ((x / 2 ^ (16 - n) * 2 ^ (16 - n) : Nat) : Int)
  | 0, _ => by
    have : (2 : Nat) ^ (16 - 0) = 65536 := by decide
    rw [this, Nat.div_eq_of_lt hx]
    rfl
  | n + 1, h => by
    have ih := fT_nat x hx n (by omega)
    rw [fT, ih]
    have e1 : 16 - n = (15 - n) + 1 := by omega
    have e2 : 16 - (n + 1) = 15 - n := by omega
    rw [e1, e2, Nat.pow_succ, ← Nat.div_div_eq_div_mul]
    have hb : hasB (x : Int) n = decide (x / 2 ^ (15 - n) % 2 = 1) := by rw [hasB_nat, Nat.testBit_eq_decide_div_mod_eq]
    rw [hb]
    have hp : ((2 : Int) ^ (15 - n)) = ((2 ^ (15 - n) : Nat) : Int) := by simp
    rw [hp]
    generalize 2 ^ (15 - n) = p
    generalize x / p = y
    have hy : y / 2 * 2 + y % 2 = y := by omega
    have hm : y / 2 * (p * 2) = y / 2 * 2 * p := by rw [Nat.mul_comm p 2, Nat.mul_assoc]
    rw [hm]
    by_cases e : y % 2 = 1
    · rw [decide_eq_true e, if_pos rfl, ← Int.natCast_add]
      have : y / 2 * 2 * p + p = y * p := by
        conv => rhs; rw [← hy, e, Nat.add_mul, Nat.one_mul]
      rw [this]
    · rw [decide_eq_false e, if_neg (by decide)]
      have : y / 2 * 2 = y := by omega
      rw [this]
theorem fT_all {g : Int} (h0 : 0 ≤ g) (h : g ≤ 65535) (h4 : g % 4 = 0) : fT g 14 = g := by
  obtain ⟨x, rfl⟩ := Int.eq_ofNat_of_zero_le h0
  rw [fT_nat x (by omega) 14 (by decide)]
  have : (2 : Nat) ^ (16 - 14) = 4 := by decide
  rw [this]
  omega
theorem fT_range {g : Int} (h0 : 0 ≤ g) (h : g ≤ 65535) (n : Nat) (hn : n ≤ 15) : 0 ≤ fT g n ∧ fT g n ≤ 65535 := by
  obtain ⟨x, rfl⟩ := Int.eq_ofNat_of_zero_le h0
  rw [fT_nat x (by omega) n hn]
  have := Nat.div_mul_le_self x (2 ^ (16 - n))
  omega
theorem fT_add {g : Int} (h0 : 0 ≤ g) (h : g ≤ 65535) {n : Nat} (hn : n < 14) (hh : hasB g n = true) : IntKind.u64.wrap (fT g n + 2 ^ (15 - n)) = fT g (n + 1) := by
  have h1 := fT_range h0 h (n + 1) (by omega)
  have e : fT g (n + 1) = fT g n + 2 ^ (15 - n) := by rw [fT, if_pos hh]
  rw [← e]
  exact wrapU h1.1 (by omega)
theorem fT_skip {g : Int} {n : Nat} (hh : ¬ hasB g n = true) : fT g (n + 1) = fT g n := by rw [fT, if_neg hh]
theorem vT_add {g : Int} {f : Nat → S42} {n : Nat} (hh : hasB g n = true) : vT g f (n + 1) = vT g f n ++ [f n] := by rw [vT, if_pos hh]
theorem vT_skip {g : Int} {f : Nat → S42} {n : Nat} (hh : ¬ hasB g n = true) : vT g f (n + 1) = vT g f n := by rw [vT, if_neg hh]
end Go.Proofs.YthpfcplhlhnfeaaDoor.F
