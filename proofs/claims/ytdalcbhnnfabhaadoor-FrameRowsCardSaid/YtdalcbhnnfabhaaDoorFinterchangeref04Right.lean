-- Printed by this session's program pf.py out of the kit's print.
import Derived.Test.YtdalcbhnnfabhaaDoorFbase
namespace Go.Proofs.YtdalcbhnnfabhaaDoor.F
open Go.RowKit Go.Proofs.YtdalcbhnnfabhaaDoorW.PrintWords Go.Proofs.YtdalcbhnnfabhaaDoorW.PrintLast Go.Proofs.YtdalcbhnnfabhaaDoorW.PrintMore
attribute [local go_sem] max2_int min2_int max_two min_two max_three min_three max_four min_four
set_option linter.unusedVariables false
set_option linter.unusedSimpArgs false

/-! ### interchangeref04_Right: function 23 -/
def interchangeref04_Right.j0 : Nat → Bool → Int → Int → ByteArray → Option (Bool)
  | 0, _, _, _, _ => none
  | k + 1, x36, x216000, x216001, x216002 => if x36 = true then (some false) else (if x216000 = 8 then (if (x216002.size : Int) = 0 then (some (x216001 == 0)) else (some false)) else (if x216000 = 3 then (some (decide ((x216002.size : Int) > 0))) else (some true)))
def interchangeref04_Right.f (k : Nat) (a0_0 : Int) (a0_1 : Int) (a0_2 : ByteArray) : Option (Bool) := if a0_0 = 1 then (if a0_1 < 0 then (interchangeref04_Right.j0 k true a0_0 a0_1 a0_2) else (if a0_1 > 65535 then (interchangeref04_Right.j0 k true a0_0 a0_1 a0_2) else (interchangeref04_Right.j0 k (decide ((a0_2.size : Int) > 131072)) a0_0 a0_1 a0_2))) else (if a0_0 = 2 then (if a0_1 < 0 then (interchangeref04_Right.j0 k true a0_0 a0_1 a0_2) else (if a0_1 > 65535 then (interchangeref04_Right.j0 k true a0_0 a0_1 a0_2) else (interchangeref04_Right.j0 k (decide ((a0_2.size : Int) > 131072)) a0_0 a0_1 a0_2))) else (if a0_0 = 3 then (if a0_1 < 0 then (interchangeref04_Right.j0 k true a0_0 a0_1 a0_2) else (if a0_1 > 65535 then (interchangeref04_Right.j0 k true a0_0 a0_1 a0_2) else (interchangeref04_Right.j0 k (decide ((a0_2.size : Int) > 131072)) a0_0 a0_1 a0_2))) else (if a0_0 = 8 then (if a0_1 < 0 then (interchangeref04_Right.j0 k true a0_0 a0_1 a0_2) else (if a0_1 > 65535 then (interchangeref04_Right.j0 k true a0_0 a0_1 a0_2) else (interchangeref04_Right.j0 k (decide ((a0_2.size : Int) > 131072)) a0_0 a0_1 a0_2))) else (interchangeref04_Right.j0 k true a0_0 a0_1 a0_2))))
theorem interchangeref04_Right.mono_l : ∀ k, (∀ y0 y1 y2 y3, LeO (interchangeref04_Right.j0 k y0 y1 y2 y3) (interchangeref04_Right.j0 (k + 1) y0 y1 y2 y3))
  | 0 => fun _ _ _ _ r h => by simp [interchangeref04_Right.j0] at h
  | k + 1 => by
    have ih0 := interchangeref04_Right.mono_l k
    · intro y0 y1 y2 y3
      unfold interchangeref04_Right.j0
      repeat' first
      | (with_reducible exact ih0 _ _ _ _)
      | (with_reducible exact LeO.refl _)
      | (with_reducible exact LeO.none _)
      | (with_reducible refine LeO.ite ?_ ?_)
      | (with_reducible refine LeO.bind ?_ (fun _ => ?_))
      | exact ih0 _ _ _ _
      | exact LeO.none _
      | refine LeO.ite ?_ ?_
      | refine LeO.bind ?_ (fun _ => ?_)
theorem interchangeref04_Right.mono : ∀ a0 a1 a2 k, LeO (interchangeref04_Right.f k a0 a1 a2) (interchangeref04_Right.f (k + 1) a0 a1 a2) := by
  intro a0 a1 a2 k
  have ih0 := interchangeref04_Right.mono_l k
  unfold interchangeref04_Right.f
  repeat' first
      | (with_reducible exact ih0 _ _ _ _)
      | (with_reducible exact LeO.refl _)
      | (with_reducible exact LeO.none _)
      | (with_reducible refine LeO.ite ?_ ?_)
      | (with_reducible refine LeO.bind ?_ (fun _ => ?_))
      | exact ih0 _ _ _ _
      | exact LeO.none _
      | refine LeO.ite ?_ ?_
      | refine LeO.bind ?_ (fun _ => ?_)
set_option maxHeartbeats 8000000 in
set_option maxRecDepth 100000 in
theorem interchangeref04_Right.calls (k : Nat) (a0_0 : Int) (a0_1 : Int) (a0_2 : ByteArray) (r : Bool) (w : World) (h : interchangeref04_Right.f k a0_0 a0_1 a0_2 = some r) :
    Calls Tryd.prog 23 #[.agg #[.int .i64 a0_0, .int .i64 a0_1, .string a0_2]] w fun e w' => e = .returned (.bool r) ∧ Below w.heap.size w w' := by
  have hu29 := Tryd.underlying29
  have HB := Aside0.mk (Below.refl w.heap.size w)
  have H : (if a0_0 = 1 then (if a0_1 < 0 then (interchangeref04_Right.j0 k true a0_0 a0_1 a0_2) else (if a0_1 > 65535 then (interchangeref04_Right.j0 k true a0_0 a0_1 a0_2) else (interchangeref04_Right.j0 k (decide ((a0_2.size : Int) > 131072)) a0_0 a0_1 a0_2))) else (if a0_0 = 2 then (if a0_1 < 0 then (interchangeref04_Right.j0 k true a0_0 a0_1 a0_2) else (if a0_1 > 65535 then (interchangeref04_Right.j0 k true a0_0 a0_1 a0_2) else (interchangeref04_Right.j0 k (decide ((a0_2.size : Int) > 131072)) a0_0 a0_1 a0_2))) else (if a0_0 = 3 then (if a0_1 < 0 then (interchangeref04_Right.j0 k true a0_0 a0_1 a0_2) else (if a0_1 > 65535 then (interchangeref04_Right.j0 k true a0_0 a0_1 a0_2) else (interchangeref04_Right.j0 k (decide ((a0_2.size : Int) > 131072)) a0_0 a0_1 a0_2))) else (if a0_0 = 8 then (if a0_1 < 0 then (interchangeref04_Right.j0 k true a0_0 a0_1 a0_2) else (if a0_1 > 65535 then (interchangeref04_Right.j0 k true a0_0 a0_1 a0_2) else (interchangeref04_Right.j0 k (decide ((a0_2.size : Int) > 131072)) a0_0 a0_1 a0_2))) else (interchangeref04_Right.j0 k true a0_0 a0_1 a0_2))))) = some r := h
  clear h
  have HC2 := Aside0.mk H
  clear H
  go_enter Tryd.func23, Tryd.ntmps23
  go_upto_region 1 with (first | ((with_reducible refine gate_dst (N := 1) rfl ?_); refine box_event ?hg (N := 1) ?hd (cs := #[.int .i64 a0_0, .int .i64 a0_1, .string a0_2]) (t := 29) ?hr ?_; (case hd => rfl); (case hg => rfl); (case hr => first | (go_simp; done) | (go_simp; rfl)); intro gb215 hg w3 hbox hb; have n0_ := Aside0.mk (below_step (by repeat (first | (with_reducible first | exact HB.out | apply below_alloc | apply pw_below_drewN | apply below_drew1) | exact HB.out)) hb); have n1_ := Aside0.mk (hbox); have n2_ := Aside0.mk ((by rw [hg]; exact (below_size (by repeat (first | (with_reducible first | exact HB.out | apply below_alloc | apply pw_below_drewN | apply below_drew1) | exact HB.out))) : w.heap.size ≤ gb215)); have n3_ := Aside0.mk ((by rw [hg]; exact (below_size (by repeat (first | (with_reducible first | exact HB.out | apply below_alloc | apply pw_below_drewN | apply below_drew1) | exact HB.out))) : w.heap.size ≤ gb215)); clear HB; have HB := n0_; have BK215 := n1_; have GW215 := n2_; have GE215 := n3_; clear n0_ n1_ n2_ n3_; clear hb hbox hg))
  (try simp only [Act.put, List.setIfInBounds_toArray, List.set_cons_zero, List.set_cons_succ])
  go_cut [36] (fun v36 wc => ∃ (kq : Nat) (x36_1 : Bool), v36 = .bool x36_1 ∧ Aside0 (interchangeref04_Right.j0 kq x36_1 a0_0 a0_1 a0_2 = some r) ∧ Aside0 (kq ≤ k) ∧ Aside0 (wc.heap[gb215]? = some (.cells #[.int .i64 a0_0, .int .i64 a0_1, .string a0_2] 29 (0, 0))) ∧ Aside0 (Below w.heap.size w wc))
  case first =>
    have H := HC2.out
    clear HC2
    by_cases c4 : a0_0 = 1
    · rw [if_pos c4] at H
      have c4b0 : (a0_0 == 1) = true := beq_iff_eq.mpr c4
      have c4b1 : (a0_0 != 1) = false := bne_eq_false_iff_eq.mpr c4
      clear c4
      (first | rw [c4b0] | (simp only [i64_w, i32_w]; rw [c4b0]) | skip)
      by_cases c5 : a0_1 < 0
      · rw [if_pos c5] at H
        have c5b0 : decide (a0_1 < 0) = true := decide_eq_true c5
        clear c5
        have H' := Aside0.mk H
        clear H
        have hcz6_0 : w3.cell? ⟨gb215, 0, none⟩ = some (.int .i64 a0_0) := (blk_cell BK215.out 0).trans rfl
        have hcz6_1 : w3.cell? ⟨gb215, 1, none⟩ = some (.int .i64 a0_1) := (blk_cell BK215.out 1).trans rfl
        have hcz6_2 : w3.cell? ⟨gb215, 2, none⟩ = some (.string a0_2) := (blk_cell BK215.out 2).trans rfl
        have hfz6_0 := blk_frozen BK215.out 0
        have hfz6_1 := blk_frozen BK215.out 1
        have hfz6_2 := blk_frozen BK215.out 2
        go_wp2
        go_meet
        case rel => exact ⟨_, (true), (by first | rfl | (simp; done) | (simp [*]; done)), H', ⟨by first | omega | exact Nat.le_refl _⟩, ⟨by (with_reducible repeat (first | refine blk_drewN ?_ _ | refine blk_drew ?_ | refine blk_alloc ?_ _)); exact BK215.out⟩, ⟨by repeat (first | (with_reducible first | exact HB.out | apply below_alloc | apply pw_below_drewN | apply below_drew1 | refine below_set ?_ GE215.out) | exact HB.out)⟩⟩
      · rw [if_neg c5] at H
        have c5b0 : decide (a0_1 < 0) = false := decide_eq_false c5
        clear c5
        by_cases c7 : a0_1 > 65535
        · rw [if_pos c7] at H
          have c7b0 : decide (65535 < a0_1) = true := decide_eq_true c7
          clear c7
          have H' := Aside0.mk H
          clear H
          have hcz8_0 : w3.cell? ⟨gb215, 0, none⟩ = some (.int .i64 a0_0) := (blk_cell BK215.out 0).trans rfl
          have hcz8_1 : w3.cell? ⟨gb215, 1, none⟩ = some (.int .i64 a0_1) := (blk_cell BK215.out 1).trans rfl
          have hcz8_2 : w3.cell? ⟨gb215, 2, none⟩ = some (.string a0_2) := (blk_cell BK215.out 2).trans rfl
          have hfz8_0 := blk_frozen BK215.out 0
          have hfz8_1 := blk_frozen BK215.out 1
          have hfz8_2 := blk_frozen BK215.out 2
          go_wp2
          go_meet
          case rel => exact ⟨_, (true), (by first | rfl | (simp; done) | (simp [*]; done)), H', ⟨by first | omega | exact Nat.le_refl _⟩, ⟨by (with_reducible repeat (first | refine blk_drewN ?_ _ | refine blk_drew ?_ | refine blk_alloc ?_ _)); exact BK215.out⟩, ⟨by repeat (first | (with_reducible first | exact HB.out | apply below_alloc | apply pw_below_drewN | apply below_drew1 | refine below_set ?_ GE215.out) | exact HB.out)⟩⟩
        · rw [if_neg c7] at H
          have c7b0 : decide (65535 < a0_1) = false := decide_eq_false c7
          clear c7
          have H' := Aside0.mk H
          clear H
          have hcz9_0 : w3.cell? ⟨gb215, 0, none⟩ = some (.int .i64 a0_0) := (blk_cell BK215.out 0).trans rfl
          have hcz9_1 : w3.cell? ⟨gb215, 1, none⟩ = some (.int .i64 a0_1) := (blk_cell BK215.out 1).trans rfl
          have hcz9_2 : w3.cell? ⟨gb215, 2, none⟩ = some (.string a0_2) := (blk_cell BK215.out 2).trans rfl
          have hfz9_0 := blk_frozen BK215.out 0
          have hfz9_1 := blk_frozen BK215.out 1
          have hfz9_2 := blk_frozen BK215.out 2
          go_wp2
          go_meet
          case rel => exact ⟨_, (decide ((a0_2.size : Int) > 131072)), (by first | rfl | (simp; done) | (simp [*]; done)), H', ⟨by first | omega | exact Nat.le_refl _⟩, ⟨by (with_reducible repeat (first | refine blk_drewN ?_ _ | refine blk_drew ?_ | refine blk_alloc ?_ _)); exact BK215.out⟩, ⟨by repeat (first | (with_reducible first | exact HB.out | apply below_alloc | apply pw_below_drewN | apply below_drew1 | refine below_set ?_ GE215.out) | exact HB.out)⟩⟩
    · rw [if_neg c4] at H
      have c4b0 : (a0_0 == 1) = false := beq_eq_false_iff_ne.mpr c4
      have c4b1 : (a0_0 != 1) = true := bne_iff_ne.mpr c4
      (first | rw [c4b0] | (simp only [i64_w, i32_w]; rw [c4b0]) | skip)
      by_cases c10 : a0_0 = 2
      · rw [if_pos c10] at H
        have c10b0 : (a0_0 == 2) = true := beq_iff_eq.mpr c10
        have c10b1 : (a0_0 != 2) = false := bne_eq_false_iff_eq.mpr c10
        clear c10
        by_cases c11 : a0_1 < 0
        · rw [if_pos c11] at H
          have c11b0 : decide (a0_1 < 0) = true := decide_eq_true c11
          clear c11
          have H' := Aside0.mk H
          clear H
          have hcz12_0 : w3.cell? ⟨gb215, 0, none⟩ = some (.int .i64 a0_0) := (blk_cell BK215.out 0).trans rfl
          have hcz12_1 : w3.cell? ⟨gb215, 1, none⟩ = some (.int .i64 a0_1) := (blk_cell BK215.out 1).trans rfl
          have hcz12_2 : w3.cell? ⟨gb215, 2, none⟩ = some (.string a0_2) := (blk_cell BK215.out 2).trans rfl
          have hfz12_0 := blk_frozen BK215.out 0
          have hfz12_1 := blk_frozen BK215.out 1
          have hfz12_2 := blk_frozen BK215.out 2
          go_wp2
          go_meet
          case rel => exact ⟨_, (true), (by first | rfl | (simp; done) | (simp [*]; done)), H', ⟨by first | omega | exact Nat.le_refl _⟩, ⟨by (with_reducible repeat (first | refine blk_drewN ?_ _ | refine blk_drew ?_ | refine blk_alloc ?_ _)); exact BK215.out⟩, ⟨by repeat (first | (with_reducible first | exact HB.out | apply below_alloc | apply pw_below_drewN | apply below_drew1 | refine below_set ?_ GE215.out) | exact HB.out)⟩⟩
        · rw [if_neg c11] at H
          have c11b0 : decide (a0_1 < 0) = false := decide_eq_false c11
          clear c11
          by_cases c13 : a0_1 > 65535
          · rw [if_pos c13] at H
            have c13b0 : decide (65535 < a0_1) = true := decide_eq_true c13
            clear c13
            have H' := Aside0.mk H
            clear H
            have hcz14_0 : w3.cell? ⟨gb215, 0, none⟩ = some (.int .i64 a0_0) := (blk_cell BK215.out 0).trans rfl
            have hcz14_1 : w3.cell? ⟨gb215, 1, none⟩ = some (.int .i64 a0_1) := (blk_cell BK215.out 1).trans rfl
            have hcz14_2 : w3.cell? ⟨gb215, 2, none⟩ = some (.string a0_2) := (blk_cell BK215.out 2).trans rfl
            have hfz14_0 := blk_frozen BK215.out 0
            have hfz14_1 := blk_frozen BK215.out 1
            have hfz14_2 := blk_frozen BK215.out 2
            go_wp2
            go_meet
            case rel => exact ⟨_, (true), (by first | rfl | (simp; done) | (simp [*]; done)), H', ⟨by first | omega | exact Nat.le_refl _⟩, ⟨by (with_reducible repeat (first | refine blk_drewN ?_ _ | refine blk_drew ?_ | refine blk_alloc ?_ _)); exact BK215.out⟩, ⟨by repeat (first | (with_reducible first | exact HB.out | apply below_alloc | apply pw_below_drewN | apply below_drew1 | refine below_set ?_ GE215.out) | exact HB.out)⟩⟩
          · rw [if_neg c13] at H
            have c13b0 : decide (65535 < a0_1) = false := decide_eq_false c13
            clear c13
            have H' := Aside0.mk H
            clear H
            have hcz15_0 : w3.cell? ⟨gb215, 0, none⟩ = some (.int .i64 a0_0) := (blk_cell BK215.out 0).trans rfl
            have hcz15_1 : w3.cell? ⟨gb215, 1, none⟩ = some (.int .i64 a0_1) := (blk_cell BK215.out 1).trans rfl
            have hcz15_2 : w3.cell? ⟨gb215, 2, none⟩ = some (.string a0_2) := (blk_cell BK215.out 2).trans rfl
            have hfz15_0 := blk_frozen BK215.out 0
            have hfz15_1 := blk_frozen BK215.out 1
            have hfz15_2 := blk_frozen BK215.out 2
            go_wp2
            go_meet
            case rel => exact ⟨_, (decide ((a0_2.size : Int) > 131072)), (by first | rfl | (simp; done) | (simp [*]; done)), H', ⟨by first | omega | exact Nat.le_refl _⟩, ⟨by (with_reducible repeat (first | refine blk_drewN ?_ _ | refine blk_drew ?_ | refine blk_alloc ?_ _)); exact BK215.out⟩, ⟨by repeat (first | (with_reducible first | exact HB.out | apply below_alloc | apply pw_below_drewN | apply below_drew1 | refine below_set ?_ GE215.out) | exact HB.out)⟩⟩
      · rw [if_neg c10] at H
        have c10b0 : (a0_0 == 2) = false := beq_eq_false_iff_ne.mpr c10
        have c10b1 : (a0_0 != 2) = true := bne_iff_ne.mpr c10
        by_cases c16 : a0_0 = 3
        · rw [if_pos c16] at H
          have c16b0 : (a0_0 == 3) = true := beq_iff_eq.mpr c16
          have c16b1 : (a0_0 != 3) = false := bne_eq_false_iff_eq.mpr c16
          clear c16
          by_cases c17 : a0_1 < 0
          · rw [if_pos c17] at H
            have c17b0 : decide (a0_1 < 0) = true := decide_eq_true c17
            clear c17
            have H' := Aside0.mk H
            clear H
            have hcz18_0 : w3.cell? ⟨gb215, 0, none⟩ = some (.int .i64 a0_0) := (blk_cell BK215.out 0).trans rfl
            have hcz18_1 : w3.cell? ⟨gb215, 1, none⟩ = some (.int .i64 a0_1) := (blk_cell BK215.out 1).trans rfl
            have hcz18_2 : w3.cell? ⟨gb215, 2, none⟩ = some (.string a0_2) := (blk_cell BK215.out 2).trans rfl
            have hfz18_0 := blk_frozen BK215.out 0
            have hfz18_1 := blk_frozen BK215.out 1
            have hfz18_2 := blk_frozen BK215.out 2
            go_wp2
            go_meet
            case rel => exact ⟨_, (true), (by first | rfl | (simp; done) | (simp [*]; done)), H', ⟨by first | omega | exact Nat.le_refl _⟩, ⟨by (with_reducible repeat (first | refine blk_drewN ?_ _ | refine blk_drew ?_ | refine blk_alloc ?_ _)); exact BK215.out⟩, ⟨by repeat (first | (with_reducible first | exact HB.out | apply below_alloc | apply pw_below_drewN | apply below_drew1 | refine below_set ?_ GE215.out) | exact HB.out)⟩⟩
          · rw [if_neg c17] at H
            have c17b0 : decide (a0_1 < 0) = false := decide_eq_false c17
            clear c17
            by_cases c19 : a0_1 > 65535
            · rw [if_pos c19] at H
              have c19b0 : decide (65535 < a0_1) = true := decide_eq_true c19
              clear c19
              have H' := Aside0.mk H
              clear H
              have hcz20_0 : w3.cell? ⟨gb215, 0, none⟩ = some (.int .i64 a0_0) := (blk_cell BK215.out 0).trans rfl
              have hcz20_1 : w3.cell? ⟨gb215, 1, none⟩ = some (.int .i64 a0_1) := (blk_cell BK215.out 1).trans rfl
              have hcz20_2 : w3.cell? ⟨gb215, 2, none⟩ = some (.string a0_2) := (blk_cell BK215.out 2).trans rfl
              have hfz20_0 := blk_frozen BK215.out 0
              have hfz20_1 := blk_frozen BK215.out 1
              have hfz20_2 := blk_frozen BK215.out 2
              go_wp2
              go_meet
              case rel => exact ⟨_, (true), (by first | rfl | (simp; done) | (simp [*]; done)), H', ⟨by first | omega | exact Nat.le_refl _⟩, ⟨by (with_reducible repeat (first | refine blk_drewN ?_ _ | refine blk_drew ?_ | refine blk_alloc ?_ _)); exact BK215.out⟩, ⟨by repeat (first | (with_reducible first | exact HB.out | apply below_alloc | apply pw_below_drewN | apply below_drew1 | refine below_set ?_ GE215.out) | exact HB.out)⟩⟩
            · rw [if_neg c19] at H
              have c19b0 : decide (65535 < a0_1) = false := decide_eq_false c19
              clear c19
              have H' := Aside0.mk H
              clear H
              have hcz21_0 : w3.cell? ⟨gb215, 0, none⟩ = some (.int .i64 a0_0) := (blk_cell BK215.out 0).trans rfl
              have hcz21_1 : w3.cell? ⟨gb215, 1, none⟩ = some (.int .i64 a0_1) := (blk_cell BK215.out 1).trans rfl
              have hcz21_2 : w3.cell? ⟨gb215, 2, none⟩ = some (.string a0_2) := (blk_cell BK215.out 2).trans rfl
              have hfz21_0 := blk_frozen BK215.out 0
              have hfz21_1 := blk_frozen BK215.out 1
              have hfz21_2 := blk_frozen BK215.out 2
              go_wp2
              go_meet
              case rel => exact ⟨_, (decide ((a0_2.size : Int) > 131072)), (by first | rfl | (simp; done) | (simp [*]; done)), H', ⟨by first | omega | exact Nat.le_refl _⟩, ⟨by (with_reducible repeat (first | refine blk_drewN ?_ _ | refine blk_drew ?_ | refine blk_alloc ?_ _)); exact BK215.out⟩, ⟨by repeat (first | (with_reducible first | exact HB.out | apply below_alloc | apply pw_below_drewN | apply below_drew1 | refine below_set ?_ GE215.out) | exact HB.out)⟩⟩
        · rw [if_neg c16] at H
          have c16b0 : (a0_0 == 3) = false := beq_eq_false_iff_ne.mpr c16
          have c16b1 : (a0_0 != 3) = true := bne_iff_ne.mpr c16
          by_cases c22 : a0_0 = 8
          · rw [if_pos c22] at H
            have c22b0 : (a0_0 == 8) = true := beq_iff_eq.mpr c22
            have c22b1 : (a0_0 != 8) = false := bne_eq_false_iff_eq.mpr c22
            clear c22
            by_cases c23 : a0_1 < 0
            · rw [if_pos c23] at H
              have c23b0 : decide (a0_1 < 0) = true := decide_eq_true c23
              clear c23
              have H' := Aside0.mk H
              clear H
              have hcz24_0 : w3.cell? ⟨gb215, 0, none⟩ = some (.int .i64 a0_0) := (blk_cell BK215.out 0).trans rfl
              have hcz24_1 : w3.cell? ⟨gb215, 1, none⟩ = some (.int .i64 a0_1) := (blk_cell BK215.out 1).trans rfl
              have hcz24_2 : w3.cell? ⟨gb215, 2, none⟩ = some (.string a0_2) := (blk_cell BK215.out 2).trans rfl
              have hfz24_0 := blk_frozen BK215.out 0
              have hfz24_1 := blk_frozen BK215.out 1
              have hfz24_2 := blk_frozen BK215.out 2
              go_wp2
              go_meet
              case rel => exact ⟨_, (true), (by first | rfl | (simp; done) | (simp [*]; done)), H', ⟨by first | omega | exact Nat.le_refl _⟩, ⟨by (with_reducible repeat (first | refine blk_drewN ?_ _ | refine blk_drew ?_ | refine blk_alloc ?_ _)); exact BK215.out⟩, ⟨by repeat (first | (with_reducible first | exact HB.out | apply below_alloc | apply pw_below_drewN | apply below_drew1 | refine below_set ?_ GE215.out) | exact HB.out)⟩⟩
            · rw [if_neg c23] at H
              have c23b0 : decide (a0_1 < 0) = false := decide_eq_false c23
              clear c23
              by_cases c25 : a0_1 > 65535
              · rw [if_pos c25] at H
                have c25b0 : decide (65535 < a0_1) = true := decide_eq_true c25
                clear c25
                have H' := Aside0.mk H
                clear H
                have hcz26_0 : w3.cell? ⟨gb215, 0, none⟩ = some (.int .i64 a0_0) := (blk_cell BK215.out 0).trans rfl
                have hcz26_1 : w3.cell? ⟨gb215, 1, none⟩ = some (.int .i64 a0_1) := (blk_cell BK215.out 1).trans rfl
                have hcz26_2 : w3.cell? ⟨gb215, 2, none⟩ = some (.string a0_2) := (blk_cell BK215.out 2).trans rfl
                have hfz26_0 := blk_frozen BK215.out 0
                have hfz26_1 := blk_frozen BK215.out 1
                have hfz26_2 := blk_frozen BK215.out 2
                go_wp2
                go_meet
                case rel => exact ⟨_, (true), (by first | rfl | (simp; done) | (simp [*]; done)), H', ⟨by first | omega | exact Nat.le_refl _⟩, ⟨by (with_reducible repeat (first | refine blk_drewN ?_ _ | refine blk_drew ?_ | refine blk_alloc ?_ _)); exact BK215.out⟩, ⟨by repeat (first | (with_reducible first | exact HB.out | apply below_alloc | apply pw_below_drewN | apply below_drew1 | refine below_set ?_ GE215.out) | exact HB.out)⟩⟩
              · rw [if_neg c25] at H
                have c25b0 : decide (65535 < a0_1) = false := decide_eq_false c25
                clear c25
                have H' := Aside0.mk H
                clear H
                have hcz27_0 : w3.cell? ⟨gb215, 0, none⟩ = some (.int .i64 a0_0) := (blk_cell BK215.out 0).trans rfl
                have hcz27_1 : w3.cell? ⟨gb215, 1, none⟩ = some (.int .i64 a0_1) := (blk_cell BK215.out 1).trans rfl
                have hcz27_2 : w3.cell? ⟨gb215, 2, none⟩ = some (.string a0_2) := (blk_cell BK215.out 2).trans rfl
                have hfz27_0 := blk_frozen BK215.out 0
                have hfz27_1 := blk_frozen BK215.out 1
                have hfz27_2 := blk_frozen BK215.out 2
                go_wp2
                go_meet
                case rel => exact ⟨_, (decide ((a0_2.size : Int) > 131072)), (by first | rfl | (simp; done) | (simp [*]; done)), H', ⟨by first | omega | exact Nat.le_refl _⟩, ⟨by (with_reducible repeat (first | refine blk_drewN ?_ _ | refine blk_drew ?_ | refine blk_alloc ?_ _)); exact BK215.out⟩, ⟨by repeat (first | (with_reducible first | exact HB.out | apply below_alloc | apply pw_below_drewN | apply below_drew1 | refine below_set ?_ GE215.out) | exact HB.out)⟩⟩
          · rw [if_neg c22] at H
            have c22b0 : (a0_0 == 8) = false := beq_eq_false_iff_ne.mpr c22
            have c22b1 : (a0_0 != 8) = true := bne_iff_ne.mpr c22
            have H' := Aside0.mk H
            clear H
            have hcz28_0 : w3.cell? ⟨gb215, 0, none⟩ = some (.int .i64 a0_0) := (blk_cell BK215.out 0).trans rfl
            have hcz28_1 : w3.cell? ⟨gb215, 1, none⟩ = some (.int .i64 a0_1) := (blk_cell BK215.out 1).trans rfl
            have hcz28_2 : w3.cell? ⟨gb215, 2, none⟩ = some (.string a0_2) := (blk_cell BK215.out 2).trans rfl
            have hfz28_0 := blk_frozen BK215.out 0
            have hfz28_1 := blk_frozen BK215.out 1
            have hfz28_2 := blk_frozen BK215.out 2
            go_wp2
            go_meet
            case rel => exact ⟨_, (true), (by first | rfl | (simp; done) | (simp [*]; done)), H', ⟨by first | omega | exact Nat.le_refl _⟩, ⟨by (with_reducible repeat (first | refine blk_drewN ?_ _ | refine blk_drew ?_ | refine blk_alloc ?_ _)); exact BK215.out⟩, ⟨by repeat (first | (with_reducible first | exact HB.out | apply below_alloc | apply pw_below_drewN | apply below_drew1 | refine below_set ?_ GE215.out) | exact HB.out)⟩⟩
  case rest =>
    clear HC2
    try clear c1
    try clear c2
    try clear p2
    try clear c4
    try clear c4b0
    try clear c4b1
    try clear c5
    try clear c5b0
    try clear c7
    try clear c7b0
    try clear c10
    try clear c10b0
    try clear c10b1
    try clear c11
    try clear c11b0
    try clear c13
    try clear c13b0
    try clear c16
    try clear c16b0
    try clear c16b1
    try clear c17
    try clear c17b0
    try clear c19
    try clear c19b0
    try clear c22
    try clear c22b0
    try clear c22b1
    try clear c23
    try clear c23b0
    try clear c25
    try clear c25b0
    try clear hcz12_0
    try clear hcz12_1
    try clear hcz12_2
    try clear hcz14_0
    try clear hcz14_1
    try clear hcz14_2
    try clear hcz15_0
    try clear hcz15_1
    try clear hcz15_2
    try clear hcz18_0
    try clear hcz18_1
    try clear hcz18_2
    try clear hcz20_0
    try clear hcz20_1
    try clear hcz20_2
    try clear hcz21_0
    try clear hcz21_1
    try clear hcz21_2
    try clear hcz24_0
    try clear hcz24_1
    try clear hcz24_2
    try clear hcz26_0
    try clear hcz26_1
    try clear hcz26_2
    try clear hcz27_0
    try clear hcz27_1
    try clear hcz27_2
    try clear hcz28_0
    try clear hcz28_1
    try clear hcz28_2
    try clear hcz6_0
    try clear hcz6_1
    try clear hcz6_2
    try clear hcz8_0
    try clear hcz8_1
    try clear hcz8_2
    try clear hcz9_0
    try clear hcz9_1
    try clear hcz9_2
    try clear hfz12_0
    try clear hfz12_1
    try clear hfz12_2
    try clear hfz14_0
    try clear hfz14_1
    try clear hfz14_2
    try clear hfz15_0
    try clear hfz15_1
    try clear hfz15_2
    try clear hfz18_0
    try clear hfz18_1
    try clear hfz18_2
    try clear hfz20_0
    try clear hfz20_1
    try clear hfz20_2
    try clear hfz21_0
    try clear hfz21_1
    try clear hfz21_2
    try clear hfz24_0
    try clear hfz24_1
    try clear hfz24_2
    try clear hfz26_0
    try clear hfz26_1
    try clear hfz26_2
    try clear hfz27_0
    try clear hfz27_1
    try clear hfz27_2
    try clear hfz28_0
    try clear hfz28_1
    try clear hfz28_2
    try clear hfz6_0
    try clear hfz6_1
    try clear hfz6_2
    try clear hfz8_0
    try clear hfz8_1
    try clear hfz8_2
    try clear hfz9_0
    try clear hfz9_1
    try clear hfz9_2
    obtain ⟨kq, x36_1, rfl, HA, HJ1, BK215, HB⟩ := hcut
    cases kq with
    | zero => exact absurd HA.out (by simp [interchangeref04_Right.j0])
    | succ kj1 =>
      have H := HA.out
      clear HA
      simp only [interchangeref04_Right.j0] at H
      by_cases c29 : x36_1 = true
      · subst c29
        have H1 : (some false) = some r := by rw [if_pos rfl] at H; exact H
        clear H
        have H := H1
        clear H1
        obtain rfl := Option.some.inj H
        go_wp2
        go_ret
        exact ⟨by first | rfl | (simp [errW_none, errW_some] <;> rfl) | (simp [*, errW_none, errW_some] <;> rfl), by repeat (first | (with_reducible first | exact HB.out | apply below_alloc | apply pw_below_drewN | apply below_drew1 | refine below_set ?_ GE215.out) | exact HB.out)⟩
      · replace c29 := Bool.eq_false_iff.mpr c29
        subst c29
        have H1 : (if a0_0 = 8 then (if (a0_2.size : Int) = 0 then (some (a0_1 == 0)) else (some false)) else (if a0_0 = 3 then (some (decide ((a0_2.size : Int) > 0))) else (some true))) = some r := by rw [if_neg (show ¬ (false = true) by decide)] at H; exact H
        clear H
        have H := H1
        clear H1
        by_cases c30 : a0_0 = 8
        · rw [if_pos c30] at H
          have c30b0 : (a0_0 == 8) = true := beq_iff_eq.mpr c30
          have c30b1 : (a0_0 != 8) = false := bne_eq_false_iff_eq.mpr c30
          clear c30
          by_cases c31 : (a0_2.size : Int) = 0
          · rw [if_pos c31] at H
            have c31b0 : ((a0_2.size : Int) == 0) = true := beq_iff_eq.mpr c31
            have c31b1 : ((a0_2.size : Int) != 0) = false := bne_eq_false_iff_eq.mpr c31
            clear c31
            obtain rfl := Option.some.inj H
            have hcz32_0 : wc.cell? ⟨gb215, 0, none⟩ = some (.int .i64 a0_0) := (blk_cell BK215.out 0).trans rfl
            have hcz32_1 : wc.cell? ⟨gb215, 1, none⟩ = some (.int .i64 a0_1) := (blk_cell BK215.out 1).trans rfl
            have hcz32_2 : wc.cell? ⟨gb215, 2, none⟩ = some (.string a0_2) := (blk_cell BK215.out 2).trans rfl
            have hfz32_0 := blk_frozen BK215.out 0
            have hfz32_1 := blk_frozen BK215.out 1
            have hfz32_2 := blk_frozen BK215.out 2
            go_wp2
            go_ret
            exact ⟨by first | rfl | (simp [errW_none, errW_some] <;> rfl) | (simp [*, errW_none, errW_some] <;> rfl), by repeat (first | (with_reducible first | exact HB.out | apply below_alloc | apply pw_below_drewN | apply below_drew1 | refine below_set ?_ GE215.out) | exact HB.out)⟩
          · rw [if_neg c31] at H
            have c31b0 : ((a0_2.size : Int) == 0) = false := beq_eq_false_iff_ne.mpr c31
            have c31b1 : ((a0_2.size : Int) != 0) = true := bne_iff_ne.mpr c31
            obtain rfl := Option.some.inj H
            have hcz33_0 : wc.cell? ⟨gb215, 0, none⟩ = some (.int .i64 a0_0) := (blk_cell BK215.out 0).trans rfl
            have hcz33_1 : wc.cell? ⟨gb215, 1, none⟩ = some (.int .i64 a0_1) := (blk_cell BK215.out 1).trans rfl
            have hcz33_2 : wc.cell? ⟨gb215, 2, none⟩ = some (.string a0_2) := (blk_cell BK215.out 2).trans rfl
            have hfz33_0 := blk_frozen BK215.out 0
            have hfz33_1 := blk_frozen BK215.out 1
            have hfz33_2 := blk_frozen BK215.out 2
            go_wp2
            go_ret
            exact ⟨by first | rfl | (simp [errW_none, errW_some] <;> rfl) | (simp [*, errW_none, errW_some] <;> rfl), by repeat (first | (with_reducible first | exact HB.out | apply below_alloc | apply pw_below_drewN | apply below_drew1 | refine below_set ?_ GE215.out) | exact HB.out)⟩
        · rw [if_neg c30] at H
          have c30b0 : (a0_0 == 8) = false := beq_eq_false_iff_ne.mpr c30
          have c30b1 : (a0_0 != 8) = true := bne_iff_ne.mpr c30
          by_cases c34 : a0_0 = 3
          · rw [if_pos c34] at H
            have c34b0 : (a0_0 == 3) = true := beq_iff_eq.mpr c34
            have c34b1 : (a0_0 != 3) = false := bne_eq_false_iff_eq.mpr c34
            clear c34
            obtain rfl := Option.some.inj H
            have hcz35_0 : wc.cell? ⟨gb215, 0, none⟩ = some (.int .i64 a0_0) := (blk_cell BK215.out 0).trans rfl
            have hcz35_1 : wc.cell? ⟨gb215, 1, none⟩ = some (.int .i64 a0_1) := (blk_cell BK215.out 1).trans rfl
            have hcz35_2 : wc.cell? ⟨gb215, 2, none⟩ = some (.string a0_2) := (blk_cell BK215.out 2).trans rfl
            have hfz35_0 := blk_frozen BK215.out 0
            have hfz35_1 := blk_frozen BK215.out 1
            have hfz35_2 := blk_frozen BK215.out 2
            go_wp2
            go_ret
            exact ⟨by first | rfl | (simp [errW_none, errW_some] <;> rfl) | (simp [*, errW_none, errW_some] <;> rfl), by repeat (first | (with_reducible first | exact HB.out | apply below_alloc | apply pw_below_drewN | apply below_drew1 | refine below_set ?_ GE215.out) | exact HB.out)⟩
          · rw [if_neg c34] at H
            have c34b0 : (a0_0 == 3) = false := beq_eq_false_iff_ne.mpr c34
            have c34b1 : (a0_0 != 3) = true := bne_iff_ne.mpr c34
            obtain rfl := Option.some.inj H
            have hcz36_0 : wc.cell? ⟨gb215, 0, none⟩ = some (.int .i64 a0_0) := (blk_cell BK215.out 0).trans rfl
            have hcz36_1 : wc.cell? ⟨gb215, 1, none⟩ = some (.int .i64 a0_1) := (blk_cell BK215.out 1).trans rfl
            have hcz36_2 : wc.cell? ⟨gb215, 2, none⟩ = some (.string a0_2) := (blk_cell BK215.out 2).trans rfl
            have hfz36_0 := blk_frozen BK215.out 0
            have hfz36_1 := blk_frozen BK215.out 1
            have hfz36_2 := blk_frozen BK215.out 2
            go_wp2
            go_ret
            exact ⟨by first | rfl | (simp [errW_none, errW_some] <;> rfl) | (simp [*, errW_none, errW_some] <;> rfl), by repeat (first | (with_reducible first | exact HB.out | apply below_alloc | apply pw_below_drewN | apply below_drew1 | refine below_set ?_ GE215.out) | exact HB.out)⟩


end Go.Proofs.YtdalcbhnnfabhaaDoor.F
