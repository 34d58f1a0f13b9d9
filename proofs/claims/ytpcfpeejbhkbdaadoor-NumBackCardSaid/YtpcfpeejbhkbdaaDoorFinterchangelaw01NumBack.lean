-- Printed by this session's program pf.py out of the kit's print.
import Derived.Test.YtpcfpeejbhkbdaaDoorFbase
import Derived.Test.YtpcfpeejbhkbdaaDoorFHshown01
import Derived.Test.YtpcfpeejbhkbdaaDoorFnumPut
import Derived.Test.YtpcfpeejbhkbdaaDoorFnumTake
namespace Go.Proofs.YtpcfpeejbhkbdaaDoor.F
open Go.RowKit Go.Proofs.YtpcfpeejbhkbdaaDoorW.PrintWords Go.Proofs.YtpcfpeejbhkbdaaDoorW.PrintLast Go.Proofs.YtpcfpeejbhkbdaaDoorW.PrintMore
attribute [local go_sem] max2_int min2_int max_two min_two max_three min_three max_four min_four
set_option linter.unusedVariables false
set_option linter.unusedSimpArgs false

/-! ### interchangelaw01_NumBack: function 6 -/
def interchangelaw01_NumBack.j0 : Nat → Int → ByteArray → Bool → Bool → Option (Bool)
  | 0, _, _, _, _ => none
  | k + 1, x3, x6, x7, x61 => if x61 = true then (some false) else ((num_Take.f k x6 x3).bind fun bt153 => ((num_Put.f k x3 bt153.1).bind fun bt156 => (if x7 = true then (if bt153.2.2 = 0 then (if bt156.2 = 0 then (if bt156.1.size + bt153.2.1.size ≤ 9223372036854775807 then (some ((bt156.1 ++ bt153.2.1).toList == x6.toList)) else (none)) else (some false)) else (some true)) else (some false))))
def interchangelaw01_NumBack.f (k : Nat) (a0_0 : Int) (a0_1 : Int) (a0_2 : ByteArray) (a0_3 : ByteArray) : Option (Bool) := (interchangelaw01_shown.f).bind fun t147 => ((num_Put.f k a0_0 a0_1).bind fun bt148 => (if bt148.2 = 0 then (if bt148.1.size + a0_2.size ≤ 9223372036854775807 then ((num_Take.f k (bt148.1 ++ a0_2) a0_0).bind fun bt150 => (if bt150.2.2 = 0 then (if bt150.1 = a0_1 then (if bt150.2.1.toList = a0_2.toList then (interchangelaw01_NumBack.j0 k a0_0 a0_3 t147 ((bt148.1.size : Int) != a0_0)) else (interchangelaw01_NumBack.j0 k a0_0 a0_3 t147 true)) else (interchangelaw01_NumBack.j0 k a0_0 a0_3 t147 true)) else (interchangelaw01_NumBack.j0 k a0_0 a0_3 t147 true))) else (none)) else ((num_Take.f k a0_3 a0_0).bind fun bt158 => ((num_Put.f k a0_0 bt158.1).bind fun bt161 => (if t147 = true then (if bt158.2.2 = 0 then (if bt161.2 = 0 then (if bt161.1.size + bt158.2.1.size ≤ 9223372036854775807 then (some ((bt161.1 ++ bt158.2.1).toList == a0_3.toList)) else (none)) else (some false)) else (some true)) else (some false))))))
theorem interchangelaw01_NumBack.mono_l : ∀ k, (∀ y0 y1 y2 y3, LeO (interchangelaw01_NumBack.j0 k y0 y1 y2 y3) (interchangelaw01_NumBack.j0 (k + 1) y0 y1 y2 y3))
  | 0 => fun _ _ _ _ r h => by simp [interchangelaw01_NumBack.j0] at h
  | k + 1 => by
    have ih0 := interchangelaw01_NumBack.mono_l k
    · intro y0 y1 y2 y3
      unfold interchangelaw01_NumBack.j0
      repeat' first
      | (with_reducible exact ih0 _ _ _ _)
      | (with_reducible exact num_Put.mono _ _ _)
      | (with_reducible exact num_Take.mono _ _ _)
      | (with_reducible exact LeO.refl _)
      | (with_reducible exact LeO.none _)
      | (with_reducible refine LeO.ite ?_ ?_)
      | (with_reducible refine LeO.bind ?_ (fun _ => ?_))
      | exact ih0 _ _ _ _
      | exact num_Put.mono _ _ _
      | exact num_Take.mono _ _ _
      | exact LeO.none _
      | refine LeO.ite ?_ ?_
      | refine LeO.bind ?_ (fun _ => ?_)
theorem interchangelaw01_NumBack.mono : ∀ a0 a1 a2 a3 k, LeO (interchangelaw01_NumBack.f k a0 a1 a2 a3) (interchangelaw01_NumBack.f (k + 1) a0 a1 a2 a3) := by
  intro a0 a1 a2 a3 k
  have ih0 := interchangelaw01_NumBack.mono_l k
  unfold interchangelaw01_NumBack.f
  repeat' first
      | (with_reducible exact ih0 _ _ _ _)
      | (with_reducible exact num_Put.mono _ _ _)
      | (with_reducible exact num_Take.mono _ _ _)
      | (with_reducible exact LeO.refl _)
      | (with_reducible exact LeO.none _)
      | (with_reducible refine LeO.ite ?_ ?_)
      | (with_reducible refine LeO.bind ?_ (fun _ => ?_))
      | exact ih0 _ _ _ _
      | exact num_Put.mono _ _ _
      | exact num_Take.mono _ _ _
      | exact LeO.none _
      | refine LeO.ite ?_ ?_
      | refine LeO.bind ?_ (fun _ => ?_)
set_option maxHeartbeats 8000000 in
set_option maxRecDepth 100000 in
theorem interchangelaw01_NumBack.calls (k : Nat) (a0_0 : Int) (a0_1 : Int) (a0_2 : ByteArray) (a0_3 : ByteArray) (r : Bool) (w : World) (hg : Laid w) (h : interchangelaw01_NumBack.f k a0_0 a0_1 a0_2 a0_3 = some r) :
    Calls Tryd.prog 6 #[.agg #[.int .i64 a0_0, .int .u64 a0_1, .string a0_2, .string a0_3]] w fun e w' => e = .returned (.bool r) ∧ Below w.heap.size w w' := by
  have HG := Aside0.mk hg
  clear hg
  have hu39 := Tryd.underlying39
  have HB := Aside0.mk (Below.refl w.heap.size w)
  have H : ((interchangelaw01_shown.f).bind fun t147 => ((num_Put.f k a0_0 a0_1).bind fun bt148 => (if bt148.2 = 0 then (if bt148.1.size + a0_2.size ≤ 9223372036854775807 then ((num_Take.f k (bt148.1 ++ a0_2) a0_0).bind fun bt150 => (if bt150.2.2 = 0 then (if bt150.1 = a0_1 then (if bt150.2.1.toList = a0_2.toList then (interchangelaw01_NumBack.j0 k a0_0 a0_3 t147 ((bt148.1.size : Int) != a0_0)) else (interchangelaw01_NumBack.j0 k a0_0 a0_3 t147 true)) else (interchangelaw01_NumBack.j0 k a0_0 a0_3 t147 true)) else (interchangelaw01_NumBack.j0 k a0_0 a0_3 t147 true))) else (none)) else ((num_Take.f k a0_3 a0_0).bind fun bt158 => ((num_Put.f k a0_0 bt158.1).bind fun bt161 => (if t147 = true then (if bt158.2.2 = 0 then (if bt161.2 = 0 then (if bt161.1.size + bt158.2.1.size ≤ 9223372036854775807 then (some ((bt161.1 ++ bt158.2.1).toList == a0_3.toList)) else (none)) else (some false)) else (some true)) else (some false))))))) = some r := h
  clear h
  replace H := Option.bind_eq_some_iff.mp H
  obtain ⟨t147, A20, H⟩ := H
  replace H : ((num_Put.f k a0_0 a0_1).bind fun bt148 => (if bt148.2 = 0 then (if bt148.1.size + a0_2.size ≤ 9223372036854775807 then ((num_Take.f k (bt148.1 ++ a0_2) a0_0).bind fun bt150 => (if bt150.2.2 = 0 then (if bt150.1 = a0_1 then (if bt150.2.1.toList = a0_2.toList then (interchangelaw01_NumBack.j0 k a0_0 a0_3 t147 ((bt148.1.size : Int) != a0_0)) else (interchangelaw01_NumBack.j0 k a0_0 a0_3 t147 true)) else (interchangelaw01_NumBack.j0 k a0_0 a0_3 t147 true)) else (interchangelaw01_NumBack.j0 k a0_0 a0_3 t147 true))) else (none)) else ((num_Take.f k a0_3 a0_0).bind fun bt158 => ((num_Put.f k a0_0 bt158.1).bind fun bt161 => (if t147 = true then (if bt158.2.2 = 0 then (if bt161.2 = 0 then (if bt161.1.size + bt158.2.1.size ≤ 9223372036854775807 then (some ((bt161.1 ++ bt158.2.1).toList == a0_3.toList)) else (none)) else (some false)) else (some true)) else (some false)))))) = some r := H
  have A2 := Aside0.mk A20
  clear A20
  replace H := Option.bind_eq_some_iff.mp H
  obtain ⟨⟨t148, t149⟩, A30, H⟩ := H
  replace H : (if t149 = 0 then (if t148.size + a0_2.size ≤ 9223372036854775807 then ((num_Take.f k (t148 ++ a0_2) a0_0).bind fun bt150 => (if bt150.2.2 = 0 then (if bt150.1 = a0_1 then (if bt150.2.1.toList = a0_2.toList then (interchangelaw01_NumBack.j0 k a0_0 a0_3 t147 ((t148.size : Int) != a0_0)) else (interchangelaw01_NumBack.j0 k a0_0 a0_3 t147 true)) else (interchangelaw01_NumBack.j0 k a0_0 a0_3 t147 true)) else (interchangelaw01_NumBack.j0 k a0_0 a0_3 t147 true))) else (none)) else ((num_Take.f k a0_3 a0_0).bind fun bt158 => ((num_Put.f k a0_0 bt158.1).bind fun bt161 => (if t147 = true then (if bt158.2.2 = 0 then (if bt161.2 = 0 then (if bt161.1.size + bt158.2.1.size ≤ 9223372036854775807 then (some ((bt161.1 ++ bt158.2.1).toList == a0_3.toList)) else (none)) else (some false)) else (some true)) else (some false))))) = some r := H
  have A3 := Aside0.mk A30
  clear A30
  by_cases c4 : t149 = 0
  · rw [if_pos c4] at H
    have c4b0 : (t149 == 0) = true := beq_iff_eq.mpr c4
    have c4b1 : (t149 != 0) = false := bne_eq_false_iff_eq.mpr c4
    clear c4
    by_cases c5 : t148.size + a0_2.size ≤ 9223372036854775807
    · rw [if_pos c5] at H
      have c5b0 := eq_true c5
      have c5b1 : decide (t148.size + a0_2.size ≤ 9223372036854775807) = true := decide_eq_true c5
      try have c5b2 : (9223372036854775807 < t148.size + a0_2.size) = False := eq_false (Nat.not_lt.2 c5)
      replace H := Option.bind_eq_some_iff.mp H
      obtain ⟨⟨t150, t151, t152⟩, A60, H⟩ := H
      replace H : (if t152 = 0 then (if t150 = a0_1 then (if t151.toList = a0_2.toList then (interchangelaw01_NumBack.j0 k a0_0 a0_3 t147 ((t148.size : Int) != a0_0)) else (interchangelaw01_NumBack.j0 k a0_0 a0_3 t147 true)) else (interchangelaw01_NumBack.j0 k a0_0 a0_3 t147 true)) else (interchangelaw01_NumBack.j0 k a0_0 a0_3 t147 true)) = some r := H
      have A6 := Aside0.mk A60
      clear A60
      have HC7 := Aside0.mk H
      clear H
      go_enter Tryd.func6, Tryd.ntmps6
      go_upto_region 9 with (first | ((with_reducible refine gate_dst (N := 1) rfl ?_); refine box_event ?hg (N := 1) ?hd (cs := #[.int .i64 a0_0, .int .u64 a0_1, .string a0_2, .string a0_3]) (t := 39) ?hr ?_; (case hd => rfl); (case hg => rfl); (case hr => first | (go_simp; done) | (go_simp; rfl)); intro gb146 hg w8 hbox hb; have n0_ := Aside0.mk (below_step (by repeat (first | (with_reducible first | exact HB.out | apply below_alloc | apply pw_below_drewN | apply below_drew1) | exact HB.out)) hb); have n1_ := Aside0.mk (hbox); have n2_ := Aside0.mk ((by rw [hg]; exact (below_size (by repeat (first | (with_reducible first | exact HB.out | apply below_alloc | apply pw_below_drewN | apply below_drew1) | exact HB.out))) : w.heap.size ≤ gb146)); have n3_ := Aside0.mk ((by rw [hg]; exact (below_size (by repeat (first | (with_reducible first | exact HB.out | apply below_alloc | apply pw_below_drewN | apply below_drew1) | exact HB.out))) : w.heap.size ≤ gb146)); clear HB; have HB := n0_; have BK146 := n1_; have GW146 := n2_; have GE146 := n3_; clear n0_ n1_ n2_ n3_; clear hb hbox hg; have hcz9_0 : w8.cell? ⟨gb146, 0, none⟩ = some (.int .i64 a0_0) := (blk_cell BK146.out 0).trans rfl; have hcz9_1 : w8.cell? ⟨gb146, 1, none⟩ = some (.int .u64 a0_1) := (blk_cell BK146.out 1).trans rfl; have hcz9_2 : w8.cell? ⟨gb146, 2, none⟩ = some (.string a0_2) := (blk_cell BK146.out 2).trans rfl; have hcz9_3 : w8.cell? ⟨gb146, 3, none⟩ = some (.string a0_3) := (blk_cell BK146.out 3).trans rfl; have hfz9_0 := blk_frozen BK146.out 0; have hfz9_1 := blk_frozen BK146.out 1; have hfz9_2 := blk_frozen BK146.out 2; have hfz9_3 := blk_frozen BK146.out 3) | ((with_reducible refine gate_callee (f := 11) rfl ?_); refine goesL_ (some 26) rfl rfl Tryd.func11 (by kernel_rfl) rfl #[] rfl (by (try simp only [List.map_toArray, List.map_cons, List.map_nil]); first | done | rfl | (simp only [List.length_drop, List.length_take]; rfl)) ?_; (with_reducible refine (interchangelaw01_shown.calls t147 _ ?lg A2.out).mono ?_); (case lg => exact (HG.out.below (by repeat (first | (with_reducible first | exact HB.out | apply below_alloc | apply pw_below_drewN | apply below_drew1) | exact HB.out)))); rintro e w10 ⟨rfl, hb⟩; refine ⟨_, rfl, ?_⟩; have n0_ := Aside0.mk (blk_below (g := gb146) (o := .cells #[.int .i64 a0_0, .int .u64 a0_1, .string a0_2, .string a0_3] 39 (0, 0)) (by (with_reducible repeat (first | refine blk_drewN ?_ _ | refine blk_drew ?_ | refine blk_alloc ?_ _)); exact BK146.out) hb); have n1_ := Aside0.mk (below_step (by repeat (first | (with_reducible first | exact HB.out | apply below_alloc | apply pw_below_drewN | apply below_drew1 | refine below_set ?_ GE146.out) | exact HB.out)) hb); clear BK146; clear HB; have BK146 := n0_; have HB := n1_; clear n0_ n1_; (try clear hb); (try clear hb2); (try clear hk); (try clear hi)) | ((with_reducible refine gate_callee (f := 12) rfl ?_); refine goesL_ (some 30) rfl rfl Tryd.func12 (by kernel_rfl) rfl #[.int .i64 a0_0, .int .u64 a0_1] rfl (by (try simp only [List.map_toArray, List.map_cons, List.map_nil]); first | done | rfl | (simp only [List.length_drop, List.length_take]; rfl)) ?_; (with_reducible refine (num_Put.calls k a0_0 a0_1 t148 t149 _ ?lg A3.out).mono ?_); (case lg => exact (HG.out.below (by repeat (first | (with_reducible first | exact HB.out | apply below_alloc | apply pw_below_drewN | apply below_drew1) | exact HB.out)))); rintro e w11 ⟨rfl, hb⟩; refine ⟨_, rfl, ?_⟩; have n0_ := Aside0.mk (blk_below (g := gb146) (o := .cells #[.int .i64 a0_0, .int .u64 a0_1, .string a0_2, .string a0_3] 39 (0, 0)) (by (with_reducible repeat (first | refine blk_drewN ?_ _ | refine blk_drew ?_ | refine blk_alloc ?_ _)); exact BK146.out) hb); have n1_ := Aside0.mk (below_step (by repeat (first | (with_reducible first | exact HB.out | apply below_alloc | apply pw_below_drewN | apply below_drew1 | refine below_set ?_ GE146.out) | exact HB.out)) hb); clear BK146; clear HB; have BK146 := n0_; have HB := n1_; clear n0_ n1_; (try clear hb); (try clear hb2); (try clear hk); (try clear hi)) | ((with_reducible refine gate_callee (f := 16) rfl ?_); refine goesL_ (some 40) rfl rfl Tryd.func16 (by kernel_rfl) rfl #[.string (t148 ++ a0_2), .int .i64 a0_0] rfl (by (try simp only [List.map_toArray, List.map_cons, List.map_nil]); first | done | rfl | (simp only [List.length_drop, List.length_take]; rfl)) ?_; (with_reducible refine (num_Take.calls k (t148 ++ a0_2) a0_0 t150 t151 t152 _ ?lg A6.out).mono ?_); (case lg => exact (HG.out.below (by repeat (first | (with_reducible first | exact HB.out | apply below_alloc | apply pw_below_drewN | apply below_drew1) | exact HB.out)))); rintro e w' ⟨rfl, ⟨nd, rfl⟩⟩; refine ⟨_, rfl, ?_⟩))
      (try simp only [Act.put, List.setIfInBounds_toArray, List.set_cons_zero, List.set_cons_succ])
      go_cut [61] (fun v61 wc => ∃ (kq : Nat) (x61_6 : Bool), v61 = .bool x61_6 ∧ Aside0 (interchangelaw01_NumBack.j0 kq a0_0 a0_3 t147 x61_6 = some r) ∧ Aside0 (kq ≤ k) ∧ Aside0 (wc.heap[gb146]? = some (.cells #[.int .i64 a0_0, .int .u64 a0_1, .string a0_2, .string a0_3] 39 (0, 0))) ∧ Aside0 (Below w.heap.size w wc))
      case first =>
        have H := HC7.out
        clear HC7
        by_cases c12 : t152 = 0
        · rw [if_pos c12] at H
          have c12b0 : (t152 == 0) = true := beq_iff_eq.mpr c12
          have c12b1 : (t152 != 0) = false := bne_eq_false_iff_eq.mpr c12
          clear c12
          (first | rw [c12b0] | (simp only [i64_w, i32_w]; rw [c12b0]) | skip)
          by_cases c13 : t150 = a0_1
          · rw [if_pos c13] at H
            have c13b0 : (t150 == a0_1) = true := beq_iff_eq.mpr c13
            have c13b1 : (t150 != a0_1) = false := bne_eq_false_iff_eq.mpr c13
            clear c13
            by_cases c14 : t151.toList = a0_2.toList
            · rw [if_pos c14] at H
              have c14b0 : (t151.toList == a0_2.toList) = true := beq_iff_eq.mpr c14
              have c14b1 : (t151.toList != a0_2.toList) = false := bne_eq_false_iff_eq.mpr c14
              clear c14
              have H' := Aside0.mk H
              clear H
              go_wp2
              go_meet
              case rel => exact ⟨_, (((t148.size : Int) != a0_0)), (by first | rfl | (simp; done) | (simp [*]; done)), H', ⟨by first | omega | exact Nat.le_refl _⟩, ⟨by (with_reducible repeat (first | refine blk_drewN ?_ _ | refine blk_drew ?_ | refine blk_alloc ?_ _)); exact BK146.out⟩, ⟨by repeat (first | (with_reducible first | exact HB.out | apply below_alloc | apply pw_below_drewN | apply below_drew1 | refine below_set ?_ GE146.out) | exact HB.out)⟩⟩
            · rw [if_neg c14] at H
              have c14b0 : (t151.toList == a0_2.toList) = false := beq_eq_false_iff_ne.mpr c14
              have c14b1 : (t151.toList != a0_2.toList) = true := bne_iff_ne.mpr c14
              have H' := Aside0.mk H
              clear H
              go_wp2
              go_meet
              case rel => exact ⟨_, (true), (by first | rfl | (simp; done) | (simp [*]; done)), H', ⟨by first | omega | exact Nat.le_refl _⟩, ⟨by (with_reducible repeat (first | refine blk_drewN ?_ _ | refine blk_drew ?_ | refine blk_alloc ?_ _)); exact BK146.out⟩, ⟨by repeat (first | (with_reducible first | exact HB.out | apply below_alloc | apply pw_below_drewN | apply below_drew1 | refine below_set ?_ GE146.out) | exact HB.out)⟩⟩
          · rw [if_neg c13] at H
            have c13b0 : (t150 == a0_1) = false := beq_eq_false_iff_ne.mpr c13
            have c13b1 : (t150 != a0_1) = true := bne_iff_ne.mpr c13
            have H' := Aside0.mk H
            clear H
            go_wp2
            go_meet
            case rel => exact ⟨_, (true), (by first | rfl | (simp; done) | (simp [*]; done)), H', ⟨by first | omega | exact Nat.le_refl _⟩, ⟨by (with_reducible repeat (first | refine blk_drewN ?_ _ | refine blk_drew ?_ | refine blk_alloc ?_ _)); exact BK146.out⟩, ⟨by repeat (first | (with_reducible first | exact HB.out | apply below_alloc | apply pw_below_drewN | apply below_drew1 | refine below_set ?_ GE146.out) | exact HB.out)⟩⟩
        · rw [if_neg c12] at H
          have c12b0 : (t152 == 0) = false := beq_eq_false_iff_ne.mpr c12
          have c12b1 : (t152 != 0) = true := bne_iff_ne.mpr c12
          (first | rw [c12b0] | (simp only [i64_w, i32_w]; rw [c12b0]) | skip)
          have H' := Aside0.mk H
          clear H
          go_wp2
          go_meet
          case rel => exact ⟨_, (true), (by first | rfl | (simp; done) | (simp [*]; done)), H', ⟨by first | omega | exact Nat.le_refl _⟩, ⟨by (with_reducible repeat (first | refine blk_drewN ?_ _ | refine blk_drew ?_ | refine blk_alloc ?_ _)); exact BK146.out⟩, ⟨by repeat (first | (with_reducible first | exact HB.out | apply below_alloc | apply pw_below_drewN | apply below_drew1 | refine below_set ?_ GE146.out) | exact HB.out)⟩⟩
      case rest =>
        clear HC7
        try clear c1
        try clear p2
        try clear c4
        try clear c4b0
        try clear c4b1
        try clear c5
        try clear c5b0
        try clear c5b1
        try clear c5b2
        try clear c6
        try clear c11
        try clear c12
        try clear c12b0
        try clear c12b1
        try clear c13
        try clear c13b0
        try clear c13b1
        try clear c14
        try clear c14b0
        try clear c14b1
        try clear hcz9_0
        try clear hcz9_1
        try clear hcz9_2
        try clear hcz9_3
        try clear hfz9_0
        try clear hfz9_1
        try clear hfz9_2
        try clear hfz9_3
        obtain ⟨kq, x61_6, rfl, HA, HJ6, BK146, HB⟩ := hcut
        cases kq with
        | zero => exact absurd HA.out (by simp [interchangelaw01_NumBack.j0])
        | succ kj6 =>
          have H := HA.out
          clear HA
          simp only [interchangelaw01_NumBack.j0] at H
          by_cases c15 : x61_6 = true
          · subst c15
            have H1 : (some false) = some r := by rw [if_pos rfl] at H; exact H
            clear H
            have H := H1
            clear H1
            obtain rfl := Option.some.inj H
            go_wp2
            go_ret
            exact ⟨by first | rfl | (simp [errW_none, errW_some] <;> rfl) | (simp [*, errW_none, errW_some] <;> rfl), by repeat (first | (with_reducible first | exact HB.out | apply below_alloc | apply pw_below_drewN | apply below_drew1 | refine below_set ?_ GE146.out) | exact HB.out)⟩
          · replace c15 := Bool.eq_false_iff.mpr c15
            subst c15
            have H1 : ((num_Take.f kj6 a0_3 a0_0).bind fun bt153 => ((num_Put.f kj6 a0_0 bt153.1).bind fun bt156 => (if t147 = true then (if bt153.2.2 = 0 then (if bt156.2 = 0 then (if bt156.1.size + bt153.2.1.size ≤ 9223372036854775807 then (some ((bt156.1 ++ bt153.2.1).toList == a0_3.toList)) else (none)) else (some false)) else (some true)) else (some false)))) = some r := by rw [if_neg (show ¬ (false = true) by decide)] at H; exact H
            clear H
            have H := H1
            clear H1
            replace H := Option.bind_eq_some_iff.mp H
            obtain ⟨⟨t153, t154, t155⟩, A160, H⟩ := H
            replace H : ((num_Put.f kj6 a0_0 t153).bind fun bt156 => (if t147 = true then (if t155 = 0 then (if bt156.2 = 0 then (if bt156.1.size + t154.size ≤ 9223372036854775807 then (some ((bt156.1 ++ t154).toList == a0_3.toList)) else (none)) else (some false)) else (some true)) else (some false))) = some r := H
            have A16 := Aside0.mk A160
            clear A160
            replace H := Option.bind_eq_some_iff.mp H
            obtain ⟨⟨t156, t157⟩, A170, H⟩ := H
            replace H : (if t147 = true then (if t155 = 0 then (if t157 = 0 then (if t156.size + t154.size ≤ 9223372036854775807 then (some ((t156 ++ t154).toList == a0_3.toList)) else (none)) else (some false)) else (some true)) else (some false)) = some r := H
            have A17 := Aside0.mk A170
            clear A170
            by_cases c18 : t147 = true
            · subst c18
              have H1 : (if t155 = 0 then (if t157 = 0 then (if t156.size + t154.size ≤ 9223372036854775807 then (some ((t156 ++ t154).toList == a0_3.toList)) else (none)) else (some false)) else (some true)) = some r := by rw [if_pos rfl] at H; exact H
              clear H
              have H := H1
              clear H1
              by_cases c19 : t155 = 0
              · rw [if_pos c19] at H
                have c19b0 : (t155 == 0) = true := beq_iff_eq.mpr c19
                have c19b1 : (t155 != 0) = false := bne_eq_false_iff_eq.mpr c19
                clear c19
                by_cases c20 : t157 = 0
                · rw [if_pos c20] at H
                  have c20b0 : (t157 == 0) = true := beq_iff_eq.mpr c20
                  have c20b1 : (t157 != 0) = false := bne_eq_false_iff_eq.mpr c20
                  clear c20
                  by_cases c21 : t156.size + t154.size ≤ 9223372036854775807
                  · rw [if_pos c21] at H
                    have c21b0 := eq_true c21
                    have c21b1 : decide (t156.size + t154.size ≤ 9223372036854775807) = true := decide_eq_true c21
                    try have c21b2 : (9223372036854775807 < t156.size + t154.size) = False := eq_false (Nat.not_lt.2 c21)
                    obtain rfl := Option.some.inj H
                    go_wp2_with (first | ((with_reducible refine gate_callee (f := 16) rfl ?_); refine goesL_ (some 65) rfl rfl Tryd.func16 (by kernel_rfl) rfl #[.string a0_3, .int .i64 a0_0] rfl (by (try simp only [List.map_toArray, List.map_cons, List.map_nil]); first | done | rfl | (simp only [List.length_drop, List.length_take]; rfl)) ?_; (with_reducible refine (num_Take.calls kj6 a0_3 a0_0 t153 t154 t155 _ ?lg A16.out).mono ?_); (case lg => exact (HG.out.below (by repeat (first | (with_reducible first | exact HB.out | apply below_alloc | apply pw_below_drewN | apply below_drew1) | exact HB.out)))); rintro e w' ⟨rfl, ⟨nd, rfl⟩⟩; refine ⟨_, rfl, ?_⟩) | ((with_reducible refine gate_callee (f := 12) rfl ?_); refine goesL_ (some 72) rfl rfl Tryd.func12 (by kernel_rfl) rfl #[.int .i64 a0_0, .int .u64 t153] rfl (by (try simp only [List.map_toArray, List.map_cons, List.map_nil]); first | done | rfl | (simp only [List.length_drop, List.length_take]; rfl)) ?_; (with_reducible refine (num_Put.calls kj6 a0_0 t153 t156 t157 _ ?lg A17.out).mono ?_); (case lg => exact (HG.out.below (by repeat (first | (with_reducible first | exact HB.out | apply below_alloc | apply pw_below_drewN | apply below_drew1) | exact HB.out)))); rintro e w22 ⟨rfl, hb⟩; refine ⟨_, rfl, ?_⟩; have n0_ := Aside0.mk (blk_below (g := gb146) (o := .cells #[.int .i64 a0_0, .int .u64 a0_1, .string a0_2, .string a0_3] 39 (0, 0)) (by (with_reducible repeat (first | refine blk_drewN ?_ _ | refine blk_drew ?_ | refine blk_alloc ?_ _)); exact BK146.out) hb); have n1_ := Aside0.mk (below_step (by repeat (first | (with_reducible first | exact HB.out | apply below_alloc | apply pw_below_drewN | apply below_drew1 | refine below_set ?_ GE146.out) | exact HB.out)) hb); clear BK146; clear HB; have BK146 := n0_; have HB := n1_; clear n0_ n1_; (try clear hb); (try clear hb2); (try clear hk); (try clear hi)))
                    go_ret
                    exact ⟨by first | rfl | (simp [errW_none, errW_some] <;> rfl) | (simp [*, errW_none, errW_some] <;> rfl), by repeat (first | (with_reducible first | exact HB.out | apply below_alloc | apply pw_below_drewN | apply below_drew1 | refine below_set ?_ GE146.out) | exact HB.out)⟩
                  · rw [if_neg c21] at H
                    exact absurd H (by simp)
                · rw [if_neg c20] at H
                  have c20b0 : (t157 == 0) = false := beq_eq_false_iff_ne.mpr c20
                  have c20b1 : (t157 != 0) = true := bne_iff_ne.mpr c20
                  obtain rfl := Option.some.inj H
                  go_wp2_with (first | ((with_reducible refine gate_callee (f := 16) rfl ?_); refine goesL_ (some 65) rfl rfl Tryd.func16 (by kernel_rfl) rfl #[.string a0_3, .int .i64 a0_0] rfl (by (try simp only [List.map_toArray, List.map_cons, List.map_nil]); first | done | rfl | (simp only [List.length_drop, List.length_take]; rfl)) ?_; (with_reducible refine (num_Take.calls kj6 a0_3 a0_0 t153 t154 t155 _ ?lg A16.out).mono ?_); (case lg => exact (HG.out.below (by repeat (first | (with_reducible first | exact HB.out | apply below_alloc | apply pw_below_drewN | apply below_drew1) | exact HB.out)))); rintro e w' ⟨rfl, ⟨nd, rfl⟩⟩; refine ⟨_, rfl, ?_⟩) | ((with_reducible refine gate_callee (f := 12) rfl ?_); refine goesL_ (some 72) rfl rfl Tryd.func12 (by kernel_rfl) rfl #[.int .i64 a0_0, .int .u64 t153] rfl (by (try simp only [List.map_toArray, List.map_cons, List.map_nil]); first | done | rfl | (simp only [List.length_drop, List.length_take]; rfl)) ?_; (with_reducible refine (num_Put.calls kj6 a0_0 t153 t156 t157 _ ?lg A17.out).mono ?_); (case lg => exact (HG.out.below (by repeat (first | (with_reducible first | exact HB.out | apply below_alloc | apply pw_below_drewN | apply below_drew1) | exact HB.out)))); rintro e w23 ⟨rfl, hb⟩; refine ⟨_, rfl, ?_⟩; have n0_ := Aside0.mk (blk_below (g := gb146) (o := .cells #[.int .i64 a0_0, .int .u64 a0_1, .string a0_2, .string a0_3] 39 (0, 0)) (by (with_reducible repeat (first | refine blk_drewN ?_ _ | refine blk_drew ?_ | refine blk_alloc ?_ _)); exact BK146.out) hb); have n1_ := Aside0.mk (below_step (by repeat (first | (with_reducible first | exact HB.out | apply below_alloc | apply pw_below_drewN | apply below_drew1 | refine below_set ?_ GE146.out) | exact HB.out)) hb); clear BK146; clear HB; have BK146 := n0_; have HB := n1_; clear n0_ n1_; (try clear hb); (try clear hb2); (try clear hk); (try clear hi)))
                  go_ret
                  exact ⟨by first | rfl | (simp [errW_none, errW_some] <;> rfl) | (simp [*, errW_none, errW_some] <;> rfl), by repeat (first | (with_reducible first | exact HB.out | apply below_alloc | apply pw_below_drewN | apply below_drew1 | refine below_set ?_ GE146.out) | exact HB.out)⟩
              · rw [if_neg c19] at H
                have c19b0 : (t155 == 0) = false := beq_eq_false_iff_ne.mpr c19
                have c19b1 : (t155 != 0) = true := bne_iff_ne.mpr c19
                obtain rfl := Option.some.inj H
                go_wp2_with (first | ((with_reducible refine gate_callee (f := 16) rfl ?_); refine goesL_ (some 65) rfl rfl Tryd.func16 (by kernel_rfl) rfl #[.string a0_3, .int .i64 a0_0] rfl (by (try simp only [List.map_toArray, List.map_cons, List.map_nil]); first | done | rfl | (simp only [List.length_drop, List.length_take]; rfl)) ?_; (with_reducible refine (num_Take.calls kj6 a0_3 a0_0 t153 t154 t155 _ ?lg A16.out).mono ?_); (case lg => exact (HG.out.below (by repeat (first | (with_reducible first | exact HB.out | apply below_alloc | apply pw_below_drewN | apply below_drew1) | exact HB.out)))); rintro e w' ⟨rfl, ⟨nd, rfl⟩⟩; refine ⟨_, rfl, ?_⟩) | ((with_reducible refine gate_callee (f := 12) rfl ?_); refine goesL_ (some 72) rfl rfl Tryd.func12 (by kernel_rfl) rfl #[.int .i64 a0_0, .int .u64 t153] rfl (by (try simp only [List.map_toArray, List.map_cons, List.map_nil]); first | done | rfl | (simp only [List.length_drop, List.length_take]; rfl)) ?_; (with_reducible refine (num_Put.calls kj6 a0_0 t153 t156 t157 _ ?lg A17.out).mono ?_); (case lg => exact (HG.out.below (by repeat (first | (with_reducible first | exact HB.out | apply below_alloc | apply pw_below_drewN | apply below_drew1) | exact HB.out)))); rintro e w24 ⟨rfl, hb⟩; refine ⟨_, rfl, ?_⟩; have n0_ := Aside0.mk (blk_below (g := gb146) (o := .cells #[.int .i64 a0_0, .int .u64 a0_1, .string a0_2, .string a0_3] 39 (0, 0)) (by (with_reducible repeat (first | refine blk_drewN ?_ _ | refine blk_drew ?_ | refine blk_alloc ?_ _)); exact BK146.out) hb); have n1_ := Aside0.mk (below_step (by repeat (first | (with_reducible first | exact HB.out | apply below_alloc | apply pw_below_drewN | apply below_drew1 | refine below_set ?_ GE146.out) | exact HB.out)) hb); clear BK146; clear HB; have BK146 := n0_; have HB := n1_; clear n0_ n1_; (try clear hb); (try clear hb2); (try clear hk); (try clear hi)))
                go_ret
                exact ⟨by first | rfl | (simp [errW_none, errW_some] <;> rfl) | (simp [*, errW_none, errW_some] <;> rfl), by repeat (first | (with_reducible first | exact HB.out | apply below_alloc | apply pw_below_drewN | apply below_drew1 | refine below_set ?_ GE146.out) | exact HB.out)⟩
            · replace c18 := Bool.eq_false_iff.mpr c18
              subst c18
              have H1 : (some false) = some r := by rw [if_neg (show ¬ (false = true) by decide)] at H; exact H
              clear H
              have H := H1
              clear H1
              obtain rfl := Option.some.inj H
              go_wp2_with (first | ((with_reducible refine gate_callee (f := 16) rfl ?_); refine goesL_ (some 65) rfl rfl Tryd.func16 (by kernel_rfl) rfl #[.string a0_3, .int .i64 a0_0] rfl (by (try simp only [List.map_toArray, List.map_cons, List.map_nil]); first | done | rfl | (simp only [List.length_drop, List.length_take]; rfl)) ?_; (with_reducible refine (num_Take.calls kj6 a0_3 a0_0 t153 t154 t155 _ ?lg A16.out).mono ?_); (case lg => exact (HG.out.below (by repeat (first | (with_reducible first | exact HB.out | apply below_alloc | apply pw_below_drewN | apply below_drew1) | exact HB.out)))); rintro e w' ⟨rfl, ⟨nd, rfl⟩⟩; refine ⟨_, rfl, ?_⟩) | ((with_reducible refine gate_callee (f := 12) rfl ?_); refine goesL_ (some 72) rfl rfl Tryd.func12 (by kernel_rfl) rfl #[.int .i64 a0_0, .int .u64 t153] rfl (by (try simp only [List.map_toArray, List.map_cons, List.map_nil]); first | done | rfl | (simp only [List.length_drop, List.length_take]; rfl)) ?_; (with_reducible refine (num_Put.calls kj6 a0_0 t153 t156 t157 _ ?lg A17.out).mono ?_); (case lg => exact (HG.out.below (by repeat (first | (with_reducible first | exact HB.out | apply below_alloc | apply pw_below_drewN | apply below_drew1) | exact HB.out)))); rintro e w25 ⟨rfl, hb⟩; refine ⟨_, rfl, ?_⟩; have n0_ := Aside0.mk (blk_below (g := gb146) (o := .cells #[.int .i64 a0_0, .int .u64 a0_1, .string a0_2, .string a0_3] 39 (0, 0)) (by (with_reducible repeat (first | refine blk_drewN ?_ _ | refine blk_drew ?_ | refine blk_alloc ?_ _)); exact BK146.out) hb); have n1_ := Aside0.mk (below_step (by repeat (first | (with_reducible first | exact HB.out | apply below_alloc | apply pw_below_drewN | apply below_drew1 | refine below_set ?_ GE146.out) | exact HB.out)) hb); clear BK146; clear HB; have BK146 := n0_; have HB := n1_; clear n0_ n1_; (try clear hb); (try clear hb2); (try clear hk); (try clear hi)))
              go_ret
              exact ⟨by first | rfl | (simp [errW_none, errW_some] <;> rfl) | (simp [*, errW_none, errW_some] <;> rfl), by repeat (first | (with_reducible first | exact HB.out | apply below_alloc | apply pw_below_drewN | apply below_drew1 | refine below_set ?_ GE146.out) | exact HB.out)⟩
    · rw [if_neg c5] at H
      exact absurd H (by simp)
  · rw [if_neg c4] at H
    have c4b0 : (t149 == 0) = false := beq_eq_false_iff_ne.mpr c4
    have c4b1 : (t149 != 0) = true := bne_iff_ne.mpr c4
    replace H := Option.bind_eq_some_iff.mp H
    obtain ⟨⟨t158, t159, t160⟩, A260, H⟩ := H
    replace H : ((num_Put.f k a0_0 t158).bind fun bt161 => (if t147 = true then (if t160 = 0 then (if bt161.2 = 0 then (if bt161.1.size + t159.size ≤ 9223372036854775807 then (some ((bt161.1 ++ t159).toList == a0_3.toList)) else (none)) else (some false)) else (some true)) else (some false))) = some r := H
    have A26 := Aside0.mk A260
    clear A260
    replace H := Option.bind_eq_some_iff.mp H
    obtain ⟨⟨t161, t162⟩, A270, H⟩ := H
    replace H : (if t147 = true then (if t160 = 0 then (if t162 = 0 then (if t161.size + t159.size ≤ 9223372036854775807 then (some ((t161 ++ t159).toList == a0_3.toList)) else (none)) else (some false)) else (some true)) else (some false)) = some r := H
    have A27 := Aside0.mk A270
    clear A270
    by_cases c28 : t147 = true
    · subst c28
      have H1 : (if t160 = 0 then (if t162 = 0 then (if t161.size + t159.size ≤ 9223372036854775807 then (some ((t161 ++ t159).toList == a0_3.toList)) else (none)) else (some false)) else (some true)) = some r := by rw [if_pos rfl] at H; exact H
      clear H
      have H := H1
      clear H1
      by_cases c29 : t160 = 0
      · rw [if_pos c29] at H
        have c29b0 : (t160 == 0) = true := beq_iff_eq.mpr c29
        have c29b1 : (t160 != 0) = false := bne_eq_false_iff_eq.mpr c29
        clear c29
        by_cases c30 : t162 = 0
        · rw [if_pos c30] at H
          have c30b0 : (t162 == 0) = true := beq_iff_eq.mpr c30
          have c30b1 : (t162 != 0) = false := bne_eq_false_iff_eq.mpr c30
          clear c30
          by_cases c31 : t161.size + t159.size ≤ 9223372036854775807
          · rw [if_pos c31] at H
            have c31b0 := eq_true c31
            have c31b1 : decide (t161.size + t159.size ≤ 9223372036854775807) = true := decide_eq_true c31
            try have c31b2 : (9223372036854775807 < t161.size + t159.size) = False := eq_false (Nat.not_lt.2 c31)
            obtain rfl := Option.some.inj H
            go_enter Tryd.func6, Tryd.ntmps6
            go_wp2_with (first | ((with_reducible refine gate_dst (N := 1) rfl ?_); refine box_event ?hg (N := 1) ?hd (cs := #[.int .i64 a0_0, .int .u64 a0_1, .string a0_2, .string a0_3]) (t := 39) ?hr ?_; (case hd => rfl); (case hg => rfl); (case hr => first | (go_simp; done) | (go_simp; rfl)); intro gb146 hg w32 hbox hb; have n0_ := Aside0.mk (below_step (by repeat (first | (with_reducible first | exact HB.out | apply below_alloc | apply pw_below_drewN | apply below_drew1) | exact HB.out)) hb); have n1_ := Aside0.mk (hbox); have n2_ := Aside0.mk ((by rw [hg]; exact (below_size (by repeat (first | (with_reducible first | exact HB.out | apply below_alloc | apply pw_below_drewN | apply below_drew1) | exact HB.out))) : w.heap.size ≤ gb146)); have n3_ := Aside0.mk ((by rw [hg]; exact (below_size (by repeat (first | (with_reducible first | exact HB.out | apply below_alloc | apply pw_below_drewN | apply below_drew1) | exact HB.out))) : w.heap.size ≤ gb146)); clear HB; have HB := n0_; have BK146 := n1_; have GW146 := n2_; have GE146 := n3_; clear n0_ n1_ n2_ n3_; clear hb hbox hg; have hcz33_0 : w32.cell? ⟨gb146, 0, none⟩ = some (.int .i64 a0_0) := (blk_cell BK146.out 0).trans rfl; have hcz33_1 : w32.cell? ⟨gb146, 1, none⟩ = some (.int .u64 a0_1) := (blk_cell BK146.out 1).trans rfl; have hcz33_2 : w32.cell? ⟨gb146, 2, none⟩ = some (.string a0_2) := (blk_cell BK146.out 2).trans rfl; have hcz33_3 : w32.cell? ⟨gb146, 3, none⟩ = some (.string a0_3) := (blk_cell BK146.out 3).trans rfl; have hfz33_0 := blk_frozen BK146.out 0; have hfz33_1 := blk_frozen BK146.out 1; have hfz33_2 := blk_frozen BK146.out 2; have hfz33_3 := blk_frozen BK146.out 3) | ((with_reducible refine gate_callee (f := 11) rfl ?_); refine goesL_ (some 26) rfl rfl Tryd.func11 (by kernel_rfl) rfl #[] rfl (by (try simp only [List.map_toArray, List.map_cons, List.map_nil]); first | done | rfl | (simp only [List.length_drop, List.length_take]; rfl)) ?_; (with_reducible refine (interchangelaw01_shown.calls true _ ?lg A2.out).mono ?_); (case lg => exact (HG.out.below (by repeat (first | (with_reducible first | exact HB.out | apply below_alloc | apply pw_below_drewN | apply below_drew1) | exact HB.out)))); rintro e w34 ⟨rfl, hb⟩; refine ⟨_, rfl, ?_⟩; have n0_ := Aside0.mk (blk_below (g := gb146) (o := .cells #[.int .i64 a0_0, .int .u64 a0_1, .string a0_2, .string a0_3] 39 (0, 0)) (by (with_reducible repeat (first | refine blk_drewN ?_ _ | refine blk_drew ?_ | refine blk_alloc ?_ _)); exact BK146.out) hb); have n1_ := Aside0.mk (below_step (by repeat (first | (with_reducible first | exact HB.out | apply below_alloc | apply pw_below_drewN | apply below_drew1 | refine below_set ?_ GE146.out) | exact HB.out)) hb); clear BK146; clear HB; have BK146 := n0_; have HB := n1_; clear n0_ n1_; (try clear hb); (try clear hb2); (try clear hk); (try clear hi)) | ((with_reducible refine gate_callee (f := 12) rfl ?_); refine goesL_ (some 30) rfl rfl Tryd.func12 (by kernel_rfl) rfl #[.int .i64 a0_0, .int .u64 a0_1] rfl (by (try simp only [List.map_toArray, List.map_cons, List.map_nil]); first | done | rfl | (simp only [List.length_drop, List.length_take]; rfl)) ?_; (with_reducible refine (num_Put.calls k a0_0 a0_1 t148 t149 _ ?lg A3.out).mono ?_); (case lg => exact (HG.out.below (by repeat (first | (with_reducible first | exact HB.out | apply below_alloc | apply pw_below_drewN | apply below_drew1) | exact HB.out)))); rintro e w35 ⟨rfl, hb⟩; refine ⟨_, rfl, ?_⟩; have n0_ := Aside0.mk (blk_below (g := gb146) (o := .cells #[.int .i64 a0_0, .int .u64 a0_1, .string a0_2, .string a0_3] 39 (0, 0)) (by (with_reducible repeat (first | refine blk_drewN ?_ _ | refine blk_drew ?_ | refine blk_alloc ?_ _)); exact BK146.out) hb); have n1_ := Aside0.mk (below_step (by repeat (first | (with_reducible first | exact HB.out | apply below_alloc | apply pw_below_drewN | apply below_drew1 | refine below_set ?_ GE146.out) | exact HB.out)) hb); clear BK146; clear HB; have BK146 := n0_; have HB := n1_; clear n0_ n1_; (try clear hb); (try clear hb2); (try clear hk); (try clear hi)) | ((with_reducible refine gate_callee (f := 16) rfl ?_); refine goesL_ (some 65) rfl rfl Tryd.func16 (by kernel_rfl) rfl #[.string a0_3, .int .i64 a0_0] rfl (by (try simp only [List.map_toArray, List.map_cons, List.map_nil]); first | done | rfl | (simp only [List.length_drop, List.length_take]; rfl)) ?_; (with_reducible refine (num_Take.calls k a0_3 a0_0 t158 t159 t160 _ ?lg A26.out).mono ?_); (case lg => exact (HG.out.below (by repeat (first | (with_reducible first | exact HB.out | apply below_alloc | apply pw_below_drewN | apply below_drew1) | exact HB.out)))); rintro e w' ⟨rfl, ⟨nd, rfl⟩⟩; refine ⟨_, rfl, ?_⟩) | ((with_reducible refine gate_callee (f := 12) rfl ?_); refine goesL_ (some 72) rfl rfl Tryd.func12 (by kernel_rfl) rfl #[.int .i64 a0_0, .int .u64 t158] rfl (by (try simp only [List.map_toArray, List.map_cons, List.map_nil]); first | done | rfl | (simp only [List.length_drop, List.length_take]; rfl)) ?_; (with_reducible refine (num_Put.calls k a0_0 t158 t161 t162 _ ?lg A27.out).mono ?_); (case lg => exact (HG.out.below (by repeat (first | (with_reducible first | exact HB.out | apply below_alloc | apply pw_below_drewN | apply below_drew1) | exact HB.out)))); rintro e w36 ⟨rfl, hb⟩; refine ⟨_, rfl, ?_⟩; have n0_ := Aside0.mk (blk_below (g := gb146) (o := .cells #[.int .i64 a0_0, .int .u64 a0_1, .string a0_2, .string a0_3] 39 (0, 0)) (by (with_reducible repeat (first | refine blk_drewN ?_ _ | refine blk_drew ?_ | refine blk_alloc ?_ _)); exact BK146.out) hb); have n1_ := Aside0.mk (below_step (by repeat (first | (with_reducible first | exact HB.out | apply below_alloc | apply pw_below_drewN | apply below_drew1 | refine below_set ?_ GE146.out) | exact HB.out)) hb); clear BK146; clear HB; have BK146 := n0_; have HB := n1_; clear n0_ n1_; (try clear hb); (try clear hb2); (try clear hk); (try clear hi)))
            go_ret
            exact ⟨by first | rfl | (simp [errW_none, errW_some] <;> rfl) | (simp [*, errW_none, errW_some] <;> rfl), by repeat (first | (with_reducible first | exact HB.out | apply below_alloc | apply pw_below_drewN | apply below_drew1 | refine below_set ?_ GE146.out) | exact HB.out)⟩
          · rw [if_neg c31] at H
            exact absurd H (by simp)
        · rw [if_neg c30] at H
          have c30b0 : (t162 == 0) = false := beq_eq_false_iff_ne.mpr c30
          have c30b1 : (t162 != 0) = true := bne_iff_ne.mpr c30
          obtain rfl := Option.some.inj H
          go_enter Tryd.func6, Tryd.ntmps6
          go_wp2_with (first | ((with_reducible refine gate_dst (N := 1) rfl ?_); refine box_event ?hg (N := 1) ?hd (cs := #[.int .i64 a0_0, .int .u64 a0_1, .string a0_2, .string a0_3]) (t := 39) ?hr ?_; (case hd => rfl); (case hg => rfl); (case hr => first | (go_simp; done) | (go_simp; rfl)); intro gb146 hg w37 hbox hb; have n0_ := Aside0.mk (below_step (by repeat (first | (with_reducible first | exact HB.out | apply below_alloc | apply pw_below_drewN | apply below_drew1) | exact HB.out)) hb); have n1_ := Aside0.mk (hbox); have n2_ := Aside0.mk ((by rw [hg]; exact (below_size (by repeat (first | (with_reducible first | exact HB.out | apply below_alloc | apply pw_below_drewN | apply below_drew1) | exact HB.out))) : w.heap.size ≤ gb146)); have n3_ := Aside0.mk ((by rw [hg]; exact (below_size (by repeat (first | (with_reducible first | exact HB.out | apply below_alloc | apply pw_below_drewN | apply below_drew1) | exact HB.out))) : w.heap.size ≤ gb146)); clear HB; have HB := n0_; have BK146 := n1_; have GW146 := n2_; have GE146 := n3_; clear n0_ n1_ n2_ n3_; clear hb hbox hg; have hcz38_0 : w37.cell? ⟨gb146, 0, none⟩ = some (.int .i64 a0_0) := (blk_cell BK146.out 0).trans rfl; have hcz38_1 : w37.cell? ⟨gb146, 1, none⟩ = some (.int .u64 a0_1) := (blk_cell BK146.out 1).trans rfl; have hcz38_2 : w37.cell? ⟨gb146, 2, none⟩ = some (.string a0_2) := (blk_cell BK146.out 2).trans rfl; have hcz38_3 : w37.cell? ⟨gb146, 3, none⟩ = some (.string a0_3) := (blk_cell BK146.out 3).trans rfl; have hfz38_0 := blk_frozen BK146.out 0; have hfz38_1 := blk_frozen BK146.out 1; have hfz38_2 := blk_frozen BK146.out 2; have hfz38_3 := blk_frozen BK146.out 3) | ((with_reducible refine gate_callee (f := 11) rfl ?_); refine goesL_ (some 26) rfl rfl Tryd.func11 (by kernel_rfl) rfl #[] rfl (by (try simp only [List.map_toArray, List.map_cons, List.map_nil]); first | done | rfl | (simp only [List.length_drop, List.length_take]; rfl)) ?_; (with_reducible refine (interchangelaw01_shown.calls true _ ?lg A2.out).mono ?_); (case lg => exact (HG.out.below (by repeat (first | (with_reducible first | exact HB.out | apply below_alloc | apply pw_below_drewN | apply below_drew1) | exact HB.out)))); rintro e w39 ⟨rfl, hb⟩; refine ⟨_, rfl, ?_⟩; have n0_ := Aside0.mk (blk_below (g := gb146) (o := .cells #[.int .i64 a0_0, .int .u64 a0_1, .string a0_2, .string a0_3] 39 (0, 0)) (by (with_reducible repeat (first | refine blk_drewN ?_ _ | refine blk_drew ?_ | refine blk_alloc ?_ _)); exact BK146.out) hb); have n1_ := Aside0.mk (below_step (by repeat (first | (with_reducible first | exact HB.out | apply below_alloc | apply pw_below_drewN | apply below_drew1 | refine below_set ?_ GE146.out) | exact HB.out)) hb); clear BK146; clear HB; have BK146 := n0_; have HB := n1_; clear n0_ n1_; (try clear hb); (try clear hb2); (try clear hk); (try clear hi)) | ((with_reducible refine gate_callee (f := 12) rfl ?_); refine goesL_ (some 30) rfl rfl Tryd.func12 (by kernel_rfl) rfl #[.int .i64 a0_0, .int .u64 a0_1] rfl (by (try simp only [List.map_toArray, List.map_cons, List.map_nil]); first | done | rfl | (simp only [List.length_drop, List.length_take]; rfl)) ?_; (with_reducible refine (num_Put.calls k a0_0 a0_1 t148 t149 _ ?lg A3.out).mono ?_); (case lg => exact (HG.out.below (by repeat (first | (with_reducible first | exact HB.out | apply below_alloc | apply pw_below_drewN | apply below_drew1) | exact HB.out)))); rintro e w40 ⟨rfl, hb⟩; refine ⟨_, rfl, ?_⟩; have n0_ := Aside0.mk (blk_below (g := gb146) (o := .cells #[.int .i64 a0_0, .int .u64 a0_1, .string a0_2, .string a0_3] 39 (0, 0)) (by (with_reducible repeat (first | refine blk_drewN ?_ _ | refine blk_drew ?_ | refine blk_alloc ?_ _)); exact BK146.out) hb); have n1_ := Aside0.mk (below_step (by repeat (first | (with_reducible first | exact HB.out | apply below_alloc | apply pw_below_drewN | apply below_drew1 | refine below_set ?_ GE146.out) | exact HB.out)) hb); clear BK146; clear HB; have BK146 := n0_; have HB := n1_; clear n0_ n1_; (try clear hb); (try clear hb2); (try clear hk); (try clear hi)) | ((with_reducible refine gate_callee (f := 16) rfl ?_); refine goesL_ (some 65) rfl rfl Tryd.func16 (by kernel_rfl) rfl #[.string a0_3, .int .i64 a0_0] rfl (by (try simp only [List.map_toArray, List.map_cons, List.map_nil]); first | done | rfl | (simp only [List.length_drop, List.length_take]; rfl)) ?_; (with_reducible refine (num_Take.calls k a0_3 a0_0 t158 t159 t160 _ ?lg A26.out).mono ?_); (case lg => exact (HG.out.below (by repeat (first | (with_reducible first | exact HB.out | apply below_alloc | apply pw_below_drewN | apply below_drew1) | exact HB.out)))); rintro e w' ⟨rfl, ⟨nd, rfl⟩⟩; refine ⟨_, rfl, ?_⟩) | ((with_reducible refine gate_callee (f := 12) rfl ?_); refine goesL_ (some 72) rfl rfl Tryd.func12 (by kernel_rfl) rfl #[.int .i64 a0_0, .int .u64 t158] rfl (by (try simp only [List.map_toArray, List.map_cons, List.map_nil]); first | done | rfl | (simp only [List.length_drop, List.length_take]; rfl)) ?_; (with_reducible refine (num_Put.calls k a0_0 t158 t161 t162 _ ?lg A27.out).mono ?_); (case lg => exact (HG.out.below (by repeat (first | (with_reducible first | exact HB.out | apply below_alloc | apply pw_below_drewN | apply below_drew1) | exact HB.out)))); rintro e w41 ⟨rfl, hb⟩; refine ⟨_, rfl, ?_⟩; have n0_ := Aside0.mk (blk_below (g := gb146) (o := .cells #[.int .i64 a0_0, .int .u64 a0_1, .string a0_2, .string a0_3] 39 (0, 0)) (by (with_reducible repeat (first | refine blk_drewN ?_ _ | refine blk_drew ?_ | refine blk_alloc ?_ _)); exact BK146.out) hb); have n1_ := Aside0.mk (below_step (by repeat (first | (with_reducible first | exact HB.out | apply below_alloc | apply pw_below_drewN | apply below_drew1 | refine below_set ?_ GE146.out) | exact HB.out)) hb); clear BK146; clear HB; have BK146 := n0_; have HB := n1_; clear n0_ n1_; (try clear hb); (try clear hb2); (try clear hk); (try clear hi)))
          go_ret
          exact ⟨by first | rfl | (simp [errW_none, errW_some] <;> rfl) | (simp [*, errW_none, errW_some] <;> rfl), by repeat (first | (with_reducible first | exact HB.out | apply below_alloc | apply pw_below_drewN | apply below_drew1 | refine below_set ?_ GE146.out) | exact HB.out)⟩
      · rw [if_neg c29] at H
        have c29b0 : (t160 == 0) = false := beq_eq_false_iff_ne.mpr c29
        have c29b1 : (t160 != 0) = true := bne_iff_ne.mpr c29
        obtain rfl := Option.some.inj H
        go_enter Tryd.func6, Tryd.ntmps6
        go_wp2_with (first | ((with_reducible refine gate_dst (N := 1) rfl ?_); refine box_event ?hg (N := 1) ?hd (cs := #[.int .i64 a0_0, .int .u64 a0_1, .string a0_2, .string a0_3]) (t := 39) ?hr ?_; (case hd => rfl); (case hg => rfl); (case hr => first | (go_simp; done) | (go_simp; rfl)); intro gb146 hg w42 hbox hb; have n0_ := Aside0.mk (below_step (by repeat (first | (with_reducible first | exact HB.out | apply below_alloc | apply pw_below_drewN | apply below_drew1) | exact HB.out)) hb); have n1_ := Aside0.mk (hbox); have n2_ := Aside0.mk ((by rw [hg]; exact (below_size (by repeat (first | (with_reducible first | exact HB.out | apply below_alloc | apply pw_below_drewN | apply below_drew1) | exact HB.out))) : w.heap.size ≤ gb146)); have n3_ := Aside0.mk ((by rw [hg]; exact (below_size (by repeat (first | (with_reducible first | exact HB.out | apply below_alloc | apply pw_below_drewN | apply below_drew1) | exact HB.out))) : w.heap.size ≤ gb146)); clear HB; have HB := n0_; have BK146 := n1_; have GW146 := n2_; have GE146 := n3_; clear n0_ n1_ n2_ n3_; clear hb hbox hg; have hcz43_0 : w42.cell? ⟨gb146, 0, none⟩ = some (.int .i64 a0_0) := (blk_cell BK146.out 0).trans rfl; have hcz43_1 : w42.cell? ⟨gb146, 1, none⟩ = some (.int .u64 a0_1) := (blk_cell BK146.out 1).trans rfl; have hcz43_2 : w42.cell? ⟨gb146, 2, none⟩ = some (.string a0_2) := (blk_cell BK146.out 2).trans rfl; have hcz43_3 : w42.cell? ⟨gb146, 3, none⟩ = some (.string a0_3) := (blk_cell BK146.out 3).trans rfl; have hfz43_0 := blk_frozen BK146.out 0; have hfz43_1 := blk_frozen BK146.out 1; have hfz43_2 := blk_frozen BK146.out 2; have hfz43_3 := blk_frozen BK146.out 3) | ((with_reducible refine gate_callee (f := 11) rfl ?_); refine goesL_ (some 26) rfl rfl Tryd.func11 (by kernel_rfl) rfl #[] rfl (by (try simp only [List.map_toArray, List.map_cons, List.map_nil]); first | done | rfl | (simp only [List.length_drop, List.length_take]; rfl)) ?_; (with_reducible refine (interchangelaw01_shown.calls true _ ?lg A2.out).mono ?_); (case lg => exact (HG.out.below (by repeat (first | (with_reducible first | exact HB.out | apply below_alloc | apply pw_below_drewN | apply below_drew1) | exact HB.out)))); rintro e w44 ⟨rfl, hb⟩; refine ⟨_, rfl, ?_⟩; have n0_ := Aside0.mk (blk_below (g := gb146) (o := .cells #[.int .i64 a0_0, .int .u64 a0_1, .string a0_2, .string a0_3] 39 (0, 0)) (by (with_reducible repeat (first | refine blk_drewN ?_ _ | refine blk_drew ?_ | refine blk_alloc ?_ _)); exact BK146.out) hb); have n1_ := Aside0.mk (below_step (by repeat (first | (with_reducible first | exact HB.out | apply below_alloc | apply pw_below_drewN | apply below_drew1 | refine below_set ?_ GE146.out) | exact HB.out)) hb); clear BK146; clear HB; have BK146 := n0_; have HB := n1_; clear n0_ n1_; (try clear hb); (try clear hb2); (try clear hk); (try clear hi)) | ((with_reducible refine gate_callee (f := 12) rfl ?_); refine goesL_ (some 30) rfl rfl Tryd.func12 (by kernel_rfl) rfl #[.int .i64 a0_0, .int .u64 a0_1] rfl (by (try simp only [List.map_toArray, List.map_cons, List.map_nil]); first | done | rfl | (simp only [List.length_drop, List.length_take]; rfl)) ?_; (with_reducible refine (num_Put.calls k a0_0 a0_1 t148 t149 _ ?lg A3.out).mono ?_); (case lg => exact (HG.out.below (by repeat (first | (with_reducible first | exact HB.out | apply below_alloc | apply pw_below_drewN | apply below_drew1) | exact HB.out)))); rintro e w45 ⟨rfl, hb⟩; refine ⟨_, rfl, ?_⟩; have n0_ := Aside0.mk (blk_below (g := gb146) (o := .cells #[.int .i64 a0_0, .int .u64 a0_1, .string a0_2, .string a0_3] 39 (0, 0)) (by (with_reducible repeat (first | refine blk_drewN ?_ _ | refine blk_drew ?_ | refine blk_alloc ?_ _)); exact BK146.out) hb); have n1_ := Aside0.mk (below_step (by repeat (first | (with_reducible first | exact HB.out | apply below_alloc | apply pw_below_drewN | apply below_drew1 | refine below_set ?_ GE146.out) | exact HB.out)) hb); clear BK146; clear HB; have BK146 := n0_; have HB := n1_; clear n0_ n1_; (try clear hb); (try clear hb2); (try clear hk); (try clear hi)) | ((with_reducible refine gate_callee (f := 16) rfl ?_); refine goesL_ (some 65) rfl rfl Tryd.func16 (by kernel_rfl) rfl #[.string a0_3, .int .i64 a0_0] rfl (by (try simp only [List.map_toArray, List.map_cons, List.map_nil]); first | done | rfl | (simp only [List.length_drop, List.length_take]; rfl)) ?_; (with_reducible refine (num_Take.calls k a0_3 a0_0 t158 t159 t160 _ ?lg A26.out).mono ?_); (case lg => exact (HG.out.below (by repeat (first | (with_reducible first | exact HB.out | apply below_alloc | apply pw_below_drewN | apply below_drew1) | exact HB.out)))); rintro e w' ⟨rfl, ⟨nd, rfl⟩⟩; refine ⟨_, rfl, ?_⟩) | ((with_reducible refine gate_callee (f := 12) rfl ?_); refine goesL_ (some 72) rfl rfl Tryd.func12 (by kernel_rfl) rfl #[.int .i64 a0_0, .int .u64 t158] rfl (by (try simp only [List.map_toArray, List.map_cons, List.map_nil]); first | done | rfl | (simp only [List.length_drop, List.length_take]; rfl)) ?_; (with_reducible refine (num_Put.calls k a0_0 t158 t161 t162 _ ?lg A27.out).mono ?_); (case lg => exact (HG.out.below (by repeat (first | (with_reducible first | exact HB.out | apply below_alloc | apply pw_below_drewN | apply below_drew1) | exact HB.out)))); rintro e w46 ⟨rfl, hb⟩; refine ⟨_, rfl, ?_⟩; have n0_ := Aside0.mk (blk_below (g := gb146) (o := .cells #[.int .i64 a0_0, .int .u64 a0_1, .string a0_2, .string a0_3] 39 (0, 0)) (by (with_reducible repeat (first | refine blk_drewN ?_ _ | refine blk_drew ?_ | refine blk_alloc ?_ _)); exact BK146.out) hb); have n1_ := Aside0.mk (below_step (by repeat (first | (with_reducible first | exact HB.out | apply below_alloc | apply pw_below_drewN | apply below_drew1 | refine below_set ?_ GE146.out) | exact HB.out)) hb); clear BK146; clear HB; have BK146 := n0_; have HB := n1_; clear n0_ n1_; (try clear hb); (try clear hb2); (try clear hk); (try clear hi)))
        go_ret
        exact ⟨by first | rfl | (simp [errW_none, errW_some] <;> rfl) | (simp [*, errW_none, errW_some] <;> rfl), by repeat (first | (with_reducible first | exact HB.out | apply below_alloc | apply pw_below_drewN | apply below_drew1 | refine below_set ?_ GE146.out) | exact HB.out)⟩
    · replace c28 := Bool.eq_false_iff.mpr c28
      subst c28
      have H1 : (some false) = some r := by rw [if_neg (show ¬ (false = true) by decide)] at H; exact H
      clear H
      have H := H1
      clear H1
      obtain rfl := Option.some.inj H
      go_enter Tryd.func6, Tryd.ntmps6
      go_wp2_with (first | ((with_reducible refine gate_dst (N := 1) rfl ?_); refine box_event ?hg (N := 1) ?hd (cs := #[.int .i64 a0_0, .int .u64 a0_1, .string a0_2, .string a0_3]) (t := 39) ?hr ?_; (case hd => rfl); (case hg => rfl); (case hr => first | (go_simp; done) | (go_simp; rfl)); intro gb146 hg w47 hbox hb; have n0_ := Aside0.mk (below_step (by repeat (first | (with_reducible first | exact HB.out | apply below_alloc | apply pw_below_drewN | apply below_drew1) | exact HB.out)) hb); have n1_ := Aside0.mk (hbox); have n2_ := Aside0.mk ((by rw [hg]; exact (below_size (by repeat (first | (with_reducible first | exact HB.out | apply below_alloc | apply pw_below_drewN | apply below_drew1) | exact HB.out))) : w.heap.size ≤ gb146)); have n3_ := Aside0.mk ((by rw [hg]; exact (below_size (by repeat (first | (with_reducible first | exact HB.out | apply below_alloc | apply pw_below_drewN | apply below_drew1) | exact HB.out))) : w.heap.size ≤ gb146)); clear HB; have HB := n0_; have BK146 := n1_; have GW146 := n2_; have GE146 := n3_; clear n0_ n1_ n2_ n3_; clear hb hbox hg; have hcz48_0 : w47.cell? ⟨gb146, 0, none⟩ = some (.int .i64 a0_0) := (blk_cell BK146.out 0).trans rfl; have hcz48_1 : w47.cell? ⟨gb146, 1, none⟩ = some (.int .u64 a0_1) := (blk_cell BK146.out 1).trans rfl; have hcz48_2 : w47.cell? ⟨gb146, 2, none⟩ = some (.string a0_2) := (blk_cell BK146.out 2).trans rfl; have hcz48_3 : w47.cell? ⟨gb146, 3, none⟩ = some (.string a0_3) := (blk_cell BK146.out 3).trans rfl; have hfz48_0 := blk_frozen BK146.out 0; have hfz48_1 := blk_frozen BK146.out 1; have hfz48_2 := blk_frozen BK146.out 2; have hfz48_3 := blk_frozen BK146.out 3) | ((with_reducible refine gate_callee (f := 11) rfl ?_); refine goesL_ (some 26) rfl rfl Tryd.func11 (by kernel_rfl) rfl #[] rfl (by (try simp only [List.map_toArray, List.map_cons, List.map_nil]); first | done | rfl | (simp only [List.length_drop, List.length_take]; rfl)) ?_; (with_reducible refine (interchangelaw01_shown.calls false _ ?lg A2.out).mono ?_); (case lg => exact (HG.out.below (by repeat (first | (with_reducible first | exact HB.out | apply below_alloc | apply pw_below_drewN | apply below_drew1) | exact HB.out)))); rintro e w49 ⟨rfl, hb⟩; refine ⟨_, rfl, ?_⟩; have n0_ := Aside0.mk (blk_below (g := gb146) (o := .cells #[.int .i64 a0_0, .int .u64 a0_1, .string a0_2, .string a0_3] 39 (0, 0)) (by (with_reducible repeat (first | refine blk_drewN ?_ _ | refine blk_drew ?_ | refine blk_alloc ?_ _)); exact BK146.out) hb); have n1_ := Aside0.mk (below_step (by repeat (first | (with_reducible first | exact HB.out | apply below_alloc | apply pw_below_drewN | apply below_drew1 | refine below_set ?_ GE146.out) | exact HB.out)) hb); clear BK146; clear HB; have BK146 := n0_; have HB := n1_; clear n0_ n1_; (try clear hb); (try clear hb2); (try clear hk); (try clear hi)) | ((with_reducible refine gate_callee (f := 12) rfl ?_); refine goesL_ (some 30) rfl rfl Tryd.func12 (by kernel_rfl) rfl #[.int .i64 a0_0, .int .u64 a0_1] rfl (by (try simp only [List.map_toArray, List.map_cons, List.map_nil]); first | done | rfl | (simp only [List.length_drop, List.length_take]; rfl)) ?_; (with_reducible refine (num_Put.calls k a0_0 a0_1 t148 t149 _ ?lg A3.out).mono ?_); (case lg => exact (HG.out.below (by repeat (first | (with_reducible first | exact HB.out | apply below_alloc | apply pw_below_drewN | apply below_drew1) | exact HB.out)))); rintro e w50 ⟨rfl, hb⟩; refine ⟨_, rfl, ?_⟩; have n0_ := Aside0.mk (blk_below (g := gb146) (o := .cells #[.int .i64 a0_0, .int .u64 a0_1, .string a0_2, .string a0_3] 39 (0, 0)) (by (with_reducible repeat (first | refine blk_drewN ?_ _ | refine blk_drew ?_ | refine blk_alloc ?_ _)); exact BK146.out) hb); have n1_ := Aside0.mk (below_step (by repeat (first | (with_reducible first | exact HB.out | apply below_alloc | apply pw_below_drewN | apply below_drew1 | refine below_set ?_ GE146.out) | exact HB.out)) hb); clear BK146; clear HB; have BK146 := n0_; have HB := n1_; clear n0_ n1_; (try clear hb); (try clear hb2); (try clear hk); (try clear hi)) | ((with_reducible refine gate_callee (f := 16) rfl ?_); refine goesL_ (some 65) rfl rfl Tryd.func16 (by kernel_rfl) rfl #[.string a0_3, .int .i64 a0_0] rfl (by (try simp only [List.map_toArray, List.map_cons, List.map_nil]); first | done | rfl | (simp only [List.length_drop, List.length_take]; rfl)) ?_; (with_reducible refine (num_Take.calls k a0_3 a0_0 t158 t159 t160 _ ?lg A26.out).mono ?_); (case lg => exact (HG.out.below (by repeat (first | (with_reducible first | exact HB.out | apply below_alloc | apply pw_below_drewN | apply below_drew1) | exact HB.out)))); rintro e w' ⟨rfl, ⟨nd, rfl⟩⟩; refine ⟨_, rfl, ?_⟩) | ((with_reducible refine gate_callee (f := 12) rfl ?_); refine goesL_ (some 72) rfl rfl Tryd.func12 (by kernel_rfl) rfl #[.int .i64 a0_0, .int .u64 t158] rfl (by (try simp only [List.map_toArray, List.map_cons, List.map_nil]); first | done | rfl | (simp only [List.length_drop, List.length_take]; rfl)) ?_; (with_reducible refine (num_Put.calls k a0_0 t158 t161 t162 _ ?lg A27.out).mono ?_); (case lg => exact (HG.out.below (by repeat (first | (with_reducible first | exact HB.out | apply below_alloc | apply pw_below_drewN | apply below_drew1) | exact HB.out)))); rintro e w51 ⟨rfl, hb⟩; refine ⟨_, rfl, ?_⟩; have n0_ := Aside0.mk (blk_below (g := gb146) (o := .cells #[.int .i64 a0_0, .int .u64 a0_1, .string a0_2, .string a0_3] 39 (0, 0)) (by (with_reducible repeat (first | refine blk_drewN ?_ _ | refine blk_drew ?_ | refine blk_alloc ?_ _)); exact BK146.out) hb); have n1_ := Aside0.mk (below_step (by repeat (first | (with_reducible first | exact HB.out | apply below_alloc | apply pw_below_drewN | apply below_drew1 | refine below_set ?_ GE146.out) | exact HB.out)) hb); clear BK146; clear HB; have BK146 := n0_; have HB := n1_; clear n0_ n1_; (try clear hb); (try clear hb2); (try clear hk); (try clear hi)))
      go_ret
      exact ⟨by first | rfl | (simp [errW_none, errW_some] <;> rfl) | (simp [*, errW_none, errW_some] <;> rfl), by repeat (first | (with_reducible first | exact HB.out | apply below_alloc | apply pw_below_drewN | apply below_drew1 | refine below_set ?_ GE146.out) | exact HB.out)⟩


end Go.Proofs.YtpcfpeejbhkbdaaDoor.F
