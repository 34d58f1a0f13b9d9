-- pruned: for the answer 'true' alone
-- Printed by this session's program pf.py out of the kit's print.
import Derived.Test.YtmpbhbbgnmkpgaaDoorFbase
import Derived.Test.YtmpbhbbgnmkpgaaDoorFHcut
import Derived.Test.YtmpbhbbgnmkpgaaDoorFinterchangelaw02shown
namespace Go.Proofs.YtmpbhbbgnmkpgaaDoor.F
open Go.RowKit Go.Proofs.YtmpbhbbgnmkpgaaDoorW.PrintWords Go.Proofs.YtmpbhbbgnmkpgaaDoorW.PrintLast Go.Proofs.YtmpbhbbgnmkpgaaDoorW.PrintMore
attribute [local go_sem] max2_int min2_int max_two min_two max_three min_three max_four min_four
set_option linter.unusedVariables false
set_option linter.unusedSimpArgs false

/-! ### interchangelaw02_TextCuts: function 5 -/
mutual
def interchangelaw02_TextCuts.j0 : Nat → ByteArray → Int → Bool → List ByteArray → Option (Bool)
  | 0, _, _, _, _ => none
  | k + 1, x0, x1, x5, x6 => interchangelaw02_TextCuts.l0 k x0 x1 x5 x6 (⟨#[]⟩ : ByteArray) 0
def interchangelaw02_TextCuts.l0 : Nat → ByteArray → Int → Bool → List ByteArray → ByteArray → Int → Option (Bool)
  | 0, _, _, _, _, _, _ => none
  | k + 1, x0, x1, x5, x6, x7, x8 => if x8 < (x6.length : Int) then (if 0 ≤ x8 then (if ((rdOf ByteArray.empty x6 x8).size : Int) > x1 then (some false) else (if ((rdOf ByteArray.empty x6 x8).size : Int) = 0 then (some false) else (if (wrap64 (x8 + 1)) < (x6.length : Int) then (if ((rdOf ByteArray.empty x6 x8).size : Int) = x1 then (if x7.size + (rdOf ByteArray.empty x6 x8).size ≤ 9223372036854775807 then (interchangelaw02_TextCuts.l0 k x0 x1 x5 x6 (x7 ++ (rdOf ByteArray.empty x6 x8)) (wrap64 (x8 + 1))) else (none)) else (some false)) else (if x7.size + (rdOf ByteArray.empty x6 x8).size ≤ 9223372036854775807 then (interchangelaw02_TextCuts.l0 k x0 x1 x5 x6 (x7 ++ (rdOf ByteArray.empty x6 x8)) (wrap64 (x8 + 1))) else (none))))) else (none)) else (if x5 = true then (some (x7.toList == x0.toList)) else (some false))
end
def interchangelaw02_TextCuts.f (k : Nat) (a0 : ByteArray) (a1 : Int) : Option (Bool) := (interchangelaw02_shown.f k).bind fun t145 => ((text_Cut.f a0 a1).bind fun t146 => (if a1 < 1 then (interchangelaw02_TextCuts.j0 k a0 1 t145 t146) else (interchangelaw02_TextCuts.j0 k a0 a1 t145 t146)))
theorem interchangelaw02_TextCuts.mono_l : ∀ k, (∀ y0 y1 y2 y3, LeO (interchangelaw02_TextCuts.j0 k y0 y1 y2 y3) (interchangelaw02_TextCuts.j0 (k + 1) y0 y1 y2 y3)) ∧ (∀ y0 y1 y2 y3 y4 y5, LeO (interchangelaw02_TextCuts.l0 k y0 y1 y2 y3 y4 y5) (interchangelaw02_TextCuts.l0 (k + 1) y0 y1 y2 y3 y4 y5))
  | 0 => ⟨fun _ _ _ _ r h => by simp [interchangelaw02_TextCuts.j0] at h, fun _ _ _ _ _ _ r h => by simp [interchangelaw02_TextCuts.l0] at h⟩
  | k + 1 => by
    obtain ⟨ih0, ih1⟩ := interchangelaw02_TextCuts.mono_l k
    refine ⟨?_, ?_⟩
    · intro y0 y1 y2 y3
      unfold interchangelaw02_TextCuts.j0
      repeat' first
      | (with_reducible exact ih0 _ _ _ _)
      | (with_reducible exact ih1 _ _ _ _ _ _)
      | (with_reducible exact interchangelaw02_shown.mono _)
      | (with_reducible exact LeO.refl _)
      | (with_reducible exact LeO.none _)
      | (with_reducible refine LeO.ite ?_ ?_)
      | (with_reducible refine LeO.bind ?_ (fun _ => ?_))
      | exact ih0 _ _ _ _
      | exact ih1 _ _ _ _ _ _
      | exact interchangelaw02_shown.mono _
      | exact LeO.none _
      | refine LeO.ite ?_ ?_
      | refine LeO.bind ?_ (fun _ => ?_)
    · intro y0 y1 y2 y3 y4 y5
      unfold interchangelaw02_TextCuts.l0
      repeat' first
      | (with_reducible exact ih0 _ _ _ _)
      | (with_reducible exact ih1 _ _ _ _ _ _)
      | (with_reducible exact interchangelaw02_shown.mono _)
      | (with_reducible exact LeO.refl _)
      | (with_reducible exact LeO.none _)
      | (with_reducible refine LeO.ite ?_ ?_)
      | (with_reducible refine LeO.bind ?_ (fun _ => ?_))
      | exact ih0 _ _ _ _
      | exact ih1 _ _ _ _ _ _
      | exact interchangelaw02_shown.mono _
      | exact LeO.none _
      | refine LeO.ite ?_ ?_
      | refine LeO.bind ?_ (fun _ => ?_)
theorem interchangelaw02_TextCuts.mono : ∀ a0 a1 k, LeO (interchangelaw02_TextCuts.f k a0 a1) (interchangelaw02_TextCuts.f (k + 1) a0 a1) := by
  intro a0 a1 k
  obtain ⟨ih0, ih1⟩ := interchangelaw02_TextCuts.mono_l k
  unfold interchangelaw02_TextCuts.f
  repeat' first
      | (with_reducible exact ih0 _ _ _ _)
      | (with_reducible exact ih1 _ _ _ _ _ _)
      | (with_reducible exact interchangelaw02_shown.mono _)
      | (with_reducible exact LeO.refl _)
      | (with_reducible exact LeO.none _)
      | (with_reducible refine LeO.ite ?_ ?_)
      | (with_reducible refine LeO.bind ?_ (fun _ => ?_))
      | exact ih0 _ _ _ _
      | exact ih1 _ _ _ _ _ _
      | exact interchangelaw02_shown.mono _
      | exact LeO.none _
      | refine LeO.ite ?_ ?_
      | refine LeO.bind ?_ (fun _ => ?_)
set_option maxHeartbeats 8000000 in
set_option maxRecDepth 100000 in
theorem interchangelaw02_TextCuts.calls (k : Nat) (a0 : ByteArray) (a1 : Int) (w : World) (hg : Laid w) (h : interchangelaw02_TextCuts.f k a0 a1 = some true) :
    Calls Tryd.prog 5 #[.string a0, .int .i64 a1] w fun e w' => e = .returned (.bool true) ∧ Below w.heap.size w w' := by
  have HG := Aside0.mk hg
  clear hg
  have HB := Aside0.mk (Below.refl w.heap.size w)
  have H : ((interchangelaw02_shown.f k).bind fun t145 => ((text_Cut.f a0 a1).bind fun t146 => (if a1 < 1 then (interchangelaw02_TextCuts.j0 k a0 1 t145 t146) else (interchangelaw02_TextCuts.j0 k a0 a1 t145 t146)))) = some true := h
  clear h
  replace H := Option.bind_eq_some_iff.mp H
  obtain ⟨t145, A30, H⟩ := H
  replace H : ((text_Cut.f a0 a1).bind fun t146 => (if a1 < 1 then (interchangelaw02_TextCuts.j0 k a0 1 t145 t146) else (interchangelaw02_TextCuts.j0 k a0 a1 t145 t146))) = some true := H
  have A3 := Aside0.mk A30
  clear A30
  replace H := Option.bind_eq_some_iff.mp H
  obtain ⟨t146, A40, H⟩ := H
  replace H : (if a1 < 1 then (interchangelaw02_TextCuts.j0 k a0 1 t145 t146) else (interchangelaw02_TextCuts.j0 k a0 a1 t145 t146)) = some true := H
  have A4 := Aside0.mk A40
  clear A40
  have HC5 := Aside0.mk H
  clear H
  go_enter Tryd.func5, Tryd.ntmps5
  go_upto_if 14 with (first | ((with_reducible refine gate_callee (f := 11) rfl ?_); refine goesL_ (some 9) rfl rfl Tryd.func11 (by kernel_rfl) rfl #[] rfl (by (try simp only [List.map_toArray, List.map_cons, List.map_nil]); first | done | rfl | (simp only [List.length_drop, List.length_take]; rfl)) ?_; (with_reducible refine (interchangelaw02_shown.calls k t145 _ ?lg A3.out).mono ?_); (case lg => exact (HG.out.below (by repeat (first | (with_reducible first | exact HB.out | apply below_alloc | apply pw_below_drewN | apply below_drew1) | exact HB.out)))); rintro e w6 ⟨rfl, hb⟩; refine ⟨_, rfl, ?_⟩; have n0_ := Aside0.mk (below_step (by repeat (first | (with_reducible first | exact HB.out | apply below_alloc | apply pw_below_drewN | apply below_drew1) | exact HB.out)) hb); clear HB; have HB := n0_; clear n0_; (try clear hb); (try clear hb2); (try clear hk); (try clear hi)) | ((with_reducible refine gate_callee (f := 14) rfl ?_); refine goesL_ (some 12) rfl rfl Tryd.func14 (by kernel_rfl) rfl #[.string a0, .int .i64 a1] rfl (by (try simp only [List.map_toArray, List.map_cons, List.map_nil]); first | done | rfl | (simp only [List.length_drop, List.length_take]; rfl)) ?_; (with_reducible refine (text_Cut.calls a0 a1 t146 _ A4.out).mono ?_); rintro e w7 ⟨v147, rfl, ho0, hb⟩; refine ⟨_, rfl, ?_⟩; have n0_ := Aside0.mk (Kd.R_lower ho0 (below_size (by repeat (first | (with_reducible first | exact HB.out | apply below_alloc | apply pw_below_drewN | apply below_drew1) | exact HB.out)))); have n1_ := Aside0.mk (below_step (by repeat (first | (with_reducible first | exact HB.out | apply below_alloc | apply pw_below_drewN | apply below_drew1) | exact HB.out)) hb); clear HB; have HO148 := n0_; have HB := n1_; clear n0_ n1_; (try clear hb); (try clear hb2); (try clear hk); (try clear hi); (try clear ho0)))
  (try simp only [Act.put, List.setIfInBounds_toArray, List.set_cons_zero, List.set_cons_succ])
  go_cut [1] (fun v1 wc => ∃ (kq : Nat) (x1_4 : Int), v1 = .int .i64 x1_4 ∧ Aside0 (interchangelaw02_TextCuts.j0 kq a0 x1_4 t145 t146 = some true) ∧ Aside0 (kq ≤ k) ∧ Aside0 (Kd.R Kd.string 9 wc w.heap.size (fun _ => True) v147 t146) ∧ Aside0 (Below w.heap.size w wc))
  case first =>
    have H := HC5.out
    clear HC5
    by_cases c8 : a1 < 1
    · rw [if_pos c8] at H
      have c8b0 : decide (a1 < 1) = true := decide_eq_true c8
      clear c8
      (first | rw [c8b0] | (simp only [i64_w, i32_w]; rw [c8b0]) | skip)
      have H' := Aside0.mk H
      clear H
      go_wp2
      go_meet
      case rel => exact ⟨_, (1), (by first | rfl | (simp; done) | (simp [*]; done)), H', ⟨by first | omega | exact Nat.le_refl _⟩, ⟨by (with_reducible repeat (first | apply Kd.R_alloc | apply Kd.R_drewN | apply Kd.R_drew)); exact HO148.out⟩, ⟨by repeat (first | (with_reducible first | exact HB.out | apply below_alloc | apply pw_below_drewN | apply below_drew1) | exact HB.out)⟩⟩
    · rw [if_neg c8] at H
      have c8b0 : decide (a1 < 1) = false := decide_eq_false c8
      clear c8
      (first | rw [c8b0] | (simp only [i64_w, i32_w]; rw [c8b0]) | skip)
      have H' := Aside0.mk H
      clear H
      go_wp2
      go_meet
      case rel => exact ⟨_, (a1), (by first | rfl | (simp; done) | (simp [*]; done)), H', ⟨by first | omega | exact Nat.le_refl _⟩, ⟨by (with_reducible repeat (first | apply Kd.R_alloc | apply Kd.R_drewN | apply Kd.R_drew)); exact HO148.out⟩, ⟨by repeat (first | (with_reducible first | exact HB.out | apply below_alloc | apply pw_below_drewN | apply below_drew1) | exact HB.out)⟩⟩
  case rest =>
    clear HC5
    try clear c1
    try clear p2
    try clear c5
    try clear c8
    try clear c8b0
    obtain ⟨kq, x1_4, rfl, HA, HJ4, HO_6, HB⟩ := hcut
    cases kq with
    | zero => exact absurd HA.out (by simp [interchangelaw02_TextCuts.j0])
    | succ kj4 =>
      have H := HA.out
      clear HA
      simp only [interchangelaw02_TextCuts.j0] at H
      have H' := Aside0.mk H
      clear H
      go_wp2
      go_loopg [7, 8] kj4 (fun kq v7 v8 w' => ∃ (x7_2 : ByteArray) (x8_2 : Int), v7 = .string x7_2 ∧ v8 = .int .i64 x8_2 ∧ Aside0 (interchangelaw02_TextCuts.l0 kq a0 x1_4 t145 t146 x7_2 x8_2 = some true) ∧ Aside0 (kq ≤ kj4) ∧ Aside0 (Kd.R Kd.string 9 w' w.heap.size (fun _ => True) v147 t146) ∧ Aside0 (Below w.heap.size w w'))
      case atStart => exact ⟨((⟨#[]⟩ : ByteArray)), (0), (by first | rfl | (simp; done) | (simp [*]; done)), (by first | rfl | (simp; done) | (simp [*]; done)), H', ⟨Nat.le_refl _⟩, ⟨by (with_reducible repeat (first | apply Kd.R_alloc | apply Kd.R_drewN | apply Kd.R_drew)); exact HO_6.out⟩, ⟨by repeat (first | (with_reducible first | exact HB.out | apply below_alloc | apply pw_below_drewN | apply below_drew1) | exact HB.out)⟩⟩
      case round =>
        clear H'
        try clear c1
        try clear p2
        try clear c5
        try clear c8
        try clear c8b0
        try clear p2
        obtain ⟨x7_2, x8_2, rfl, rfl, HA, HK2, HO_6, HB⟩ := hrel
        cases gk with
        | zero => exact absurd HA.out (by simp [interchangelaw02_TextCuts.l0])
        | succ k2 =>
          have H := HA.out
          clear HA
          simp only [interchangelaw02_TextCuts.l0] at H
          by_cases c9 : x8_2 < (t146.length : Int)
          · rw [if_pos c9] at H
            have c9b0 : decide (x8_2 < (t146.length : Int)) = true := decide_eq_true c9
            clear c9
            by_cases c10 : 0 ≤ x8_2
            · rw [if_pos c10] at H
              have c10b0 : decide (0 ≤ x8_2) = true := decide_eq_true c10
              clear c10
              by_cases c11 : ((rdOf ByteArray.empty t146 x8_2).size : Int) > x1_4
              · rw [if_pos c11] at H
                have c11b0 : decide (x1_4 < ((rdOf ByteArray.empty t146 x8_2).size : Int)) = true := decide_eq_true c11
                clear c11
                exact absurd H (by decide)
              · rw [if_neg c11] at H
                have c11b0 : decide (x1_4 < ((rdOf ByteArray.empty t146 x8_2).size : Int)) = false := decide_eq_false c11
                clear c11
                by_cases c13 : ((rdOf ByteArray.empty t146 x8_2).size : Int) = 0
                · rw [if_pos c13] at H
                  have c13b0 : (((rdOf ByteArray.empty t146 x8_2).size : Int) == 0) = true := beq_iff_eq.mpr c13
                  have c13b1 : (((rdOf ByteArray.empty t146 x8_2).size : Int) != 0) = false := bne_eq_false_iff_eq.mpr c13
                  clear c13
                  exact absurd H (by decide)
                · rw [if_neg c13] at H
                  have c13b0 : (((rdOf ByteArray.empty t146 x8_2).size : Int) == 0) = false := beq_eq_false_iff_ne.mpr c13
                  have c13b1 : (((rdOf ByteArray.empty t146 x8_2).size : Int) != 0) = true := bne_iff_ne.mpr c13
                  by_cases c15 : (wrap64 (x8_2 + 1)) < (t146.length : Int)
                  · rw [if_pos c15] at H
                    have c15b0 : decide ((wrap64 (x8_2 + 1)) < (t146.length : Int)) = true := decide_eq_true c15
                    clear c15
                    by_cases c16 : ((rdOf ByteArray.empty t146 x8_2).size : Int) = x1_4
                    · rw [if_pos c16] at H
                      have c16b0 : (((rdOf ByteArray.empty t146 x8_2).size : Int) == x1_4) = true := beq_iff_eq.mpr c16
                      have c16b1 : (((rdOf ByteArray.empty t146 x8_2).size : Int) != x1_4) = false := bne_eq_false_iff_eq.mpr c16
                      clear c16
                      by_cases c17 : x7_2.size + (rdOf ByteArray.empty t146 x8_2).size ≤ 9223372036854775807
                      · rw [if_pos c17] at H
                        have c17b0 := eq_true c17
                        have c17b1 : decide (x7_2.size + (rdOf ByteArray.empty t146 x8_2).size ≤ 9223372036854775807) = true := decide_eq_true c17
                        try have c17b2 : (9223372036854775807 < x7_2.size + (rdOf ByteArray.empty t146 x8_2).size) = False := eq_false (Nat.not_lt.2 c17)
                        have H' := Aside0.mk H
                        clear H
                        obtain ⟨Ao18, co18, eo18⟩ := Kd.R_slice HO_6.out
                        subst eo18
                        have p149 : 0 ≤ (x8_2 : Int) := of_decide_eq_true (by first | (with_reducible assumption) | assumption)
                        have q149 : x8_2 < (t146.length : Int) := of_decide_eq_true (by first | (with_reducible assumption) | assumption)
                        obtain ⟨ad149, e149, hx149_0⟩ := Kd.at_string (Kd.R_reads' HO_6.out).2.2 x8_2 p149 q149
                        cases e149
                        replace p149 := eq_true p149
                        replace q149 := eq_true q149
                        have p150 : 0 ≤ (x8_2 : Int) := of_decide_eq_true (by first | (with_reducible assumption) | assumption)
                        have q150 : x8_2 < (t146.length : Int) := of_decide_eq_true (by first | (with_reducible assumption) | assumption)
                        obtain ⟨ad150, e150, hx150_0⟩ := Kd.at_string (Kd.R_reads' HO_6.out).2.2 x8_2 p150 q150
                        obtain rfl : ad149 = ad150 := (by injection e150)
                        replace p150 := eq_true p150
                        replace q150 := eq_true q150
                        have p151 : 0 ≤ (x8_2 : Int) := of_decide_eq_true (by first | (with_reducible assumption) | assumption)
                        have q151 : x8_2 < (t146.length : Int) := of_decide_eq_true (by first | (with_reducible assumption) | assumption)
                        obtain ⟨ad151, e151, hx151_0⟩ := Kd.at_string (Kd.R_reads' HO_6.out).2.2 x8_2 p151 q151
                        obtain rfl : ad149 = ad151 := (by injection e151)
                        replace p151 := eq_true p151
                        replace q151 := eq_true q151
                        have p152 : 0 ≤ (x8_2 : Int) := of_decide_eq_true (by first | (with_reducible assumption) | assumption)
                        have q152 : x8_2 < (t146.length : Int) := of_decide_eq_true (by first | (with_reducible assumption) | assumption)
                        obtain ⟨ad152, e152, hx152_0⟩ := Kd.at_string (Kd.R_reads' HO_6.out).2.2 x8_2 p152 q152
                        obtain rfl : ad149 = ad152 := (by injection e152)
                        replace p152 := eq_true p152
                        replace q152 := eq_true q152
                        go_wp2
                        go_roundg k2
                        case measure => have := HJ4.out; have := HK2.out; omega
                        case rel => exact ⟨(x7_2 ++ (rdOf ByteArray.empty t146 x8_2)), (wrap64 (x8_2 + 1)), (by first | rfl | (simp; done) | (simp [*]; done)), (by first | rfl | (simp; done) | (simp [*]; done)), H', ⟨by have := HJ4.out; have := HK2.out; omega⟩, ⟨by (with_reducible repeat (first | apply Kd.R_alloc | apply Kd.R_drewN | apply Kd.R_drew)); exact HO_6.out⟩, ⟨by repeat (first | (with_reducible first | exact HB.out | apply below_alloc | apply pw_below_drewN | apply below_drew1) | exact HB.out)⟩⟩
                      · rw [if_neg c17] at H
                        exact absurd H (by simp)
                    · rw [if_neg c16] at H
                      have c16b0 : (((rdOf ByteArray.empty t146 x8_2).size : Int) == x1_4) = false := beq_eq_false_iff_ne.mpr c16
                      have c16b1 : (((rdOf ByteArray.empty t146 x8_2).size : Int) != x1_4) = true := bne_iff_ne.mpr c16
                      exact absurd H (by decide)
                  · rw [if_neg c15] at H
                    have c15b0 : decide ((wrap64 (x8_2 + 1)) < (t146.length : Int)) = false := decide_eq_false c15
                    clear c15
                    by_cases c20 : x7_2.size + (rdOf ByteArray.empty t146 x8_2).size ≤ 9223372036854775807
                    · rw [if_pos c20] at H
                      have c20b0 := eq_true c20
                      have c20b1 : decide (x7_2.size + (rdOf ByteArray.empty t146 x8_2).size ≤ 9223372036854775807) = true := decide_eq_true c20
                      try have c20b2 : (9223372036854775807 < x7_2.size + (rdOf ByteArray.empty t146 x8_2).size) = False := eq_false (Nat.not_lt.2 c20)
                      have H' := Aside0.mk H
                      clear H
                      obtain ⟨Ao21, co21, eo21⟩ := Kd.R_slice HO_6.out
                      subst eo21
                      have p149 : 0 ≤ (x8_2 : Int) := of_decide_eq_true (by first | (with_reducible assumption) | assumption)
                      have q149 : x8_2 < (t146.length : Int) := of_decide_eq_true (by first | (with_reducible assumption) | assumption)
                      obtain ⟨ad149, e149, hx149_0⟩ := Kd.at_string (Kd.R_reads' HO_6.out).2.2 x8_2 p149 q149
                      cases e149
                      replace p149 := eq_true p149
                      replace q149 := eq_true q149
                      have p150 : 0 ≤ (x8_2 : Int) := of_decide_eq_true (by first | (with_reducible assumption) | assumption)
                      have q150 : x8_2 < (t146.length : Int) := of_decide_eq_true (by first | (with_reducible assumption) | assumption)
                      obtain ⟨ad150, e150, hx150_0⟩ := Kd.at_string (Kd.R_reads' HO_6.out).2.2 x8_2 p150 q150
                      obtain rfl : ad149 = ad150 := (by injection e150)
                      replace p150 := eq_true p150
                      replace q150 := eq_true q150
                      have p153 : 0 ≤ (x8_2 : Int) := of_decide_eq_true (by first | (with_reducible assumption) | assumption)
                      have q153 : x8_2 < (t146.length : Int) := of_decide_eq_true (by first | (with_reducible assumption) | assumption)
                      obtain ⟨ad153, e153, hx153_0⟩ := Kd.at_string (Kd.R_reads' HO_6.out).2.2 x8_2 p153 q153
                      obtain rfl : ad149 = ad153 := (by injection e153)
                      replace p153 := eq_true p153
                      replace q153 := eq_true q153
                      go_wp2
                      go_roundg k2
                      case measure => have := HJ4.out; have := HK2.out; omega
                      case rel => exact ⟨(x7_2 ++ (rdOf ByteArray.empty t146 x8_2)), (wrap64 (x8_2 + 1)), (by first | rfl | (simp; done) | (simp [*]; done)), (by first | rfl | (simp; done) | (simp [*]; done)), H', ⟨by have := HJ4.out; have := HK2.out; omega⟩, ⟨by (with_reducible repeat (first | apply Kd.R_alloc | apply Kd.R_drewN | apply Kd.R_drew)); exact HO_6.out⟩, ⟨by repeat (first | (with_reducible first | exact HB.out | apply below_alloc | apply pw_below_drewN | apply below_drew1) | exact HB.out)⟩⟩
                    · rw [if_neg c20] at H
                      exact absurd H (by simp)
            · rw [if_neg c10] at H
              exact absurd H (by simp)
          · rw [if_neg c9] at H
            have c9b0 : decide (x8_2 < (t146.length : Int)) = false := decide_eq_false c9
            clear c9
            by_cases c22 : t145 = true
            · subst c22
              have H1 : (some (x7_2.toList == a0.toList)) = some true := by rw [if_pos rfl] at H; exact H
              clear H
              have H := H1
              clear H1
              have HR_ := Aside0.mk (Option.some.inj H)
              clear H
              obtain ⟨Ao23, co23, eo23⟩ := Kd.R_slice HO_6.out
              subst eo23
              go_wp2
              go_ret
              exact ⟨by have HR0_ := HR_.out; first | exact congrArg (fun b_ => Ending.returned (Value.bool b_)) HR0_ | rfl | (simp [errW_none, errW_some] <;> rfl) | (simp [*, errW_none, errW_some] <;> rfl), by repeat (first | (with_reducible first | exact HB.out | apply below_alloc | apply pw_below_drewN | apply below_drew1) | exact HB.out)⟩
            · replace c22 := Bool.eq_false_iff.mpr c22
              subst c22
              have H1 : (some false) = some true := by rw [if_neg (show ¬ (false = true) by decide)] at H; exact H
              clear H
              have H := H1
              clear H1
              exact absurd H (by decide)


end Go.Proofs.YtmpbhbbgnmkpgaaDoor.F
