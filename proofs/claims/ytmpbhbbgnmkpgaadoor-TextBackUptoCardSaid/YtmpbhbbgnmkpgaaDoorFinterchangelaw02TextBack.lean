-- Printed by this session's program pf.py out of the kit's print.
import Derived.Test.YtmpbhbbgnmkpgaaDoorFbase
import Derived.Test.YtmpbhbbgnmkpgaaDoorFHtextlay
import Derived.Test.YtmpbhbbgnmkpgaaDoorFHtexttake
import Derived.Test.YtmpbhbbgnmkpgaaDoorFinterchangelaw02shown
namespace Go.Proofs.YtmpbhbbgnmkpgaaDoor.F
open Go.RowKit Go.Proofs.YtmpbhbbgnmkpgaaDoorW.PrintWords Go.Proofs.YtmpbhbbgnmkpgaaDoorW.PrintLast Go.Proofs.YtmpbhbbgnmkpgaaDoorW.PrintMore
attribute [local go_sem] max2_int min2_int max_two min_two max_three min_three max_four min_four
set_option linter.unusedVariables false
set_option linter.unusedSimpArgs false

/-! ### interchangelaw02_TextBack: function 9 -/
mutual
def interchangelaw02_TextBack.j0 : Nat → ByteArray → ByteArray → ByteArray → Bool → Option (Bool)
  | 0, _, _, _, _ => none
  | k + 1, x0, x1, x2, x7 => (text_Long.f k x0).bind fun bt240 => (if bt240.1.size + x1.size ≤ 9223372036854775807 then ((text_TakeLong.f k (bt240.1 ++ x1)).bind fun bt242 => (if bt242.1.toList = x0.toList then (if bt242.2.1.toList = x1.toList then (interchangelaw02_TextBack.j1 k x2 x7 (bt242.2.2 != 0)) else (interchangelaw02_TextBack.j1 k x2 x7 true)) else (interchangelaw02_TextBack.j1 k x2 x7 true))) else (none))
def interchangelaw02_TextBack.j1 : Nat → ByteArray → Bool → Bool → Option (Bool)
  | 0, _, _, _ => none
  | k + 1, x2, x7, x75 => if x75 = true then (some false) else ((text_TakeShort.f k x2).bind fun bt245 => ((text_Short.f k bt245.1).bind fun bt248 => (if x7 = true then (if bt245.2.2 = 0 then (if bt248.2 = 0 then (if bt248.1.size + bt245.2.1.size ≤ 9223372036854775807 then (some ((bt248.1 ++ bt245.2.1).toList == x2.toList)) else (none)) else (some false)) else (some true)) else (some false))))
end
def interchangelaw02_TextBack.f (k : Nat) (a0 : ByteArray) (a1 : ByteArray) (a2 : ByteArray) : Option (Bool) := (interchangelaw02_shown.f k).bind fun t234 => ((text_Short.f k a0).bind fun bt235 => (if bt235.2 = 0 then (if bt235.1.size + a1.size ≤ 9223372036854775807 then ((text_TakeShort.f k (bt235.1 ++ a1)).bind fun bt237 => (if bt237.1.toList = a0.toList then (if bt237.2.1.toList = a1.toList then (if bt237.2.2 = 0 then (interchangelaw02_TextBack.j0 k a0 a1 a2 t234) else (some false)) else (some false)) else (some false))) else (none)) else (interchangelaw02_TextBack.j0 k a0 a1 a2 t234)))
theorem interchangelaw02_TextBack.mono_l : ∀ k, (∀ y0 y1 y2 y3, LeO (interchangelaw02_TextBack.j0 k y0 y1 y2 y3) (interchangelaw02_TextBack.j0 (k + 1) y0 y1 y2 y3)) ∧ (∀ y0 y1 y2, LeO (interchangelaw02_TextBack.j1 k y0 y1 y2) (interchangelaw02_TextBack.j1 (k + 1) y0 y1 y2))
  | 0 => ⟨fun _ _ _ _ r h => by simp [interchangelaw02_TextBack.j0] at h, fun _ _ _ r h => by simp [interchangelaw02_TextBack.j1] at h⟩
  | k + 1 => by
    obtain ⟨ih0, ih1⟩ := interchangelaw02_TextBack.mono_l k
    refine ⟨?_, ?_⟩
    · intro y0 y1 y2 y3
      unfold interchangelaw02_TextBack.j0
      repeat' first
      | (with_reducible exact ih0 _ _ _ _)
      | (with_reducible exact ih1 _ _ _)
      | (with_reducible exact interchangelaw02_shown.mono _)
      | (with_reducible exact text_Long.mono _ _)
      | (with_reducible exact text_Short.mono _ _)
      | (with_reducible exact text_TakeLong.mono _ _)
      | (with_reducible exact text_TakeShort.mono _ _)
      | (with_reducible exact LeO.refl _)
      | (with_reducible exact LeO.none _)
      | (with_reducible refine LeO.ite ?_ ?_)
      | (with_reducible refine LeO.bind ?_ (fun _ => ?_))
      | exact ih0 _ _ _ _
      | exact ih1 _ _ _
      | exact interchangelaw02_shown.mono _
      | exact text_Long.mono _ _
      | exact text_Short.mono _ _
      | exact text_TakeLong.mono _ _
      | exact text_TakeShort.mono _ _
      | exact LeO.none _
      | refine LeO.ite ?_ ?_
      | refine LeO.bind ?_ (fun _ => ?_)
    · intro y0 y1 y2
      unfold interchangelaw02_TextBack.j1
      repeat' first
      | (with_reducible exact ih0 _ _ _ _)
      | (with_reducible exact ih1 _ _ _)
      | (with_reducible exact interchangelaw02_shown.mono _)
      | (with_reducible exact text_Long.mono _ _)
      | (with_reducible exact text_Short.mono _ _)
      | (with_reducible exact text_TakeLong.mono _ _)
      | (with_reducible exact text_TakeShort.mono _ _)
      | (with_reducible exact LeO.refl _)
      | (with_reducible exact LeO.none _)
      | (with_reducible refine LeO.ite ?_ ?_)
      | (with_reducible refine LeO.bind ?_ (fun _ => ?_))
      | exact ih0 _ _ _ _
      | exact ih1 _ _ _
      | exact interchangelaw02_shown.mono _
      | exact text_Long.mono _ _
      | exact text_Short.mono _ _
      | exact text_TakeLong.mono _ _
      | exact text_TakeShort.mono _ _
      | exact LeO.none _
      | refine LeO.ite ?_ ?_
      | refine LeO.bind ?_ (fun _ => ?_)
theorem interchangelaw02_TextBack.mono : ∀ a0 a1 a2 k, LeO (interchangelaw02_TextBack.f k a0 a1 a2) (interchangelaw02_TextBack.f (k + 1) a0 a1 a2) := by
  intro a0 a1 a2 k
  obtain ⟨ih0, ih1⟩ := interchangelaw02_TextBack.mono_l k
  unfold interchangelaw02_TextBack.f
  repeat' first
      | (with_reducible exact ih0 _ _ _ _)
      | (with_reducible exact ih1 _ _ _)
      | (with_reducible exact interchangelaw02_shown.mono _)
      | (with_reducible exact text_Long.mono _ _)
      | (with_reducible exact text_Short.mono _ _)
      | (with_reducible exact text_TakeLong.mono _ _)
      | (with_reducible exact text_TakeShort.mono _ _)
      | (with_reducible exact LeO.refl _)
      | (with_reducible exact LeO.none _)
      | (with_reducible refine LeO.ite ?_ ?_)
      | (with_reducible refine LeO.bind ?_ (fun _ => ?_))
      | exact ih0 _ _ _ _
      | exact ih1 _ _ _
      | exact interchangelaw02_shown.mono _
      | exact text_Long.mono _ _
      | exact text_Short.mono _ _
      | exact text_TakeLong.mono _ _
      | exact text_TakeShort.mono _ _
      | exact LeO.none _
      | refine LeO.ite ?_ ?_
      | refine LeO.bind ?_ (fun _ => ?_)
set_option maxHeartbeats 8000000 in
set_option maxRecDepth 100000 in
theorem interchangelaw02_TextBack.calls (k : Nat) (a0 : ByteArray) (a1 : ByteArray) (a2 : ByteArray) (r : Bool) (w : World) (hg : Laid w) (h : interchangelaw02_TextBack.f k a0 a1 a2 = some r) :
    Calls Tryd.prog 9 #[.string a0, .string a1, .string a2] w fun e w' => e = .returned (.bool r) ∧ Below w.heap.size w w' := by
  have HG := Aside0.mk hg
  clear hg
  have HB := Aside0.mk (Below.refl w.heap.size w)
  have H : ((interchangelaw02_shown.f k).bind fun t234 => ((text_Short.f k a0).bind fun bt235 => (if bt235.2 = 0 then (if bt235.1.size + a1.size ≤ 9223372036854775807 then ((text_TakeShort.f k (bt235.1 ++ a1)).bind fun bt237 => (if bt237.1.toList = a0.toList then (if bt237.2.1.toList = a1.toList then (if bt237.2.2 = 0 then (interchangelaw02_TextBack.j0 k a0 a1 a2 t234) else (some false)) else (some false)) else (some false))) else (none)) else (interchangelaw02_TextBack.j0 k a0 a1 a2 t234)))) = some r := h
  clear h
  replace H := Option.bind_eq_some_iff.mp H
  obtain ⟨t234, A40, H⟩ := H
  replace H : ((text_Short.f k a0).bind fun bt235 => (if bt235.2 = 0 then (if bt235.1.size + a1.size ≤ 9223372036854775807 then ((text_TakeShort.f k (bt235.1 ++ a1)).bind fun bt237 => (if bt237.1.toList = a0.toList then (if bt237.2.1.toList = a1.toList then (if bt237.2.2 = 0 then (interchangelaw02_TextBack.j0 k a0 a1 a2 t234) else (some false)) else (some false)) else (some false))) else (none)) else (interchangelaw02_TextBack.j0 k a0 a1 a2 t234))) = some r := H
  have A4 := Aside0.mk A40
  clear A40
  replace H := Option.bind_eq_some_iff.mp H
  obtain ⟨⟨t235, t236⟩, A50, H⟩ := H
  replace H : (if t236 = 0 then (if t235.size + a1.size ≤ 9223372036854775807 then ((text_TakeShort.f k (t235 ++ a1)).bind fun bt237 => (if bt237.1.toList = a0.toList then (if bt237.2.1.toList = a1.toList then (if bt237.2.2 = 0 then (interchangelaw02_TextBack.j0 k a0 a1 a2 t234) else (some false)) else (some false)) else (some false))) else (none)) else (interchangelaw02_TextBack.j0 k a0 a1 a2 t234)) = some r := H
  have A5 := Aside0.mk A50
  clear A50
  have HC6 := Aside0.mk H
  clear H
  go_enter Tryd.func9, Tryd.ntmps9
  go_upto_if 30 with (first | ((with_reducible refine gate_callee (f := 11) rfl ?_); refine goesL_ (some 23) rfl rfl Tryd.func11 (by kernel_rfl) rfl #[] rfl (by (try simp only [List.map_toArray, List.map_cons, List.map_nil]); first | done | rfl | (simp only [List.length_drop, List.length_take]; rfl)) ?_; (with_reducible refine (interchangelaw02_shown.calls k t234 _ ?lg A4.out).mono ?_); (case lg => exact (HG.out.below (by repeat (first | (with_reducible first | exact HB.out | apply below_alloc | apply pw_below_drewN | apply below_drew1) | exact HB.out)))); rintro e w7 ⟨rfl, hb⟩; refine ⟨_, rfl, ?_⟩; have n0_ := Aside0.mk (below_step (by repeat (first | (with_reducible first | exact HB.out | apply below_alloc | apply pw_below_drewN | apply below_drew1) | exact HB.out)) hb); clear HB; have HB := n0_; clear n0_; (try clear hb); (try clear hb2); (try clear hk); (try clear hi)) | ((with_reducible refine gate_callee (f := 19) rfl ?_); refine goesL_ (some 26) rfl rfl Tryd.func19 (by kernel_rfl) rfl #[.string a0] rfl (by (try simp only [List.map_toArray, List.map_cons, List.map_nil]); first | done | rfl | (simp only [List.length_drop, List.length_take]; rfl)) ?_; (with_reducible refine (text_Short.calls k a0 t235 t236 _ ?lg A5.out).mono ?_); (case lg => exact (HG.out.below (by repeat (first | (with_reducible first | exact HB.out | apply below_alloc | apply pw_below_drewN | apply below_drew1) | exact HB.out)))); rintro e w8 ⟨rfl, hb⟩; refine ⟨_, rfl, ?_⟩; have n0_ := Aside0.mk (below_step (by repeat (first | (with_reducible first | exact HB.out | apply below_alloc | apply pw_below_drewN | apply below_drew1) | exact HB.out)) hb); clear HB; have HB := n0_; clear n0_; (try clear hb); (try clear hb2); (try clear hk); (try clear hi)))
  (try simp only [Act.put, List.setIfInBounds_toArray, List.set_cons_zero, List.set_cons_succ])
  go_cut [] (fun wc => ∃ (kq : Nat), Aside0 (interchangelaw02_TextBack.j0 kq a0 a1 a2 t234 = some r) ∧ Aside0 (kq ≤ k) ∧ Aside0 (Below w.heap.size w wc))
  case first =>
    have H := HC6.out
    clear HC6
    by_cases c9 : t236 = 0
    · rw [if_pos c9] at H
      have c9b0 : (t236 == 0) = true := beq_iff_eq.mpr c9
      have c9b1 : (t236 != 0) = false := bne_eq_false_iff_eq.mpr c9
      clear c9
      (first | rw [c9b0] | (simp only [i64_w, i32_w]; rw [c9b0]) | skip)
      by_cases c10 : t235.size + a1.size ≤ 9223372036854775807
      · rw [if_pos c10] at H
        have c10b0 := eq_true c10
        have c10b1 : decide (t235.size + a1.size ≤ 9223372036854775807) = true := decide_eq_true c10
        try have c10b2 : (9223372036854775807 < t235.size + a1.size) = False := eq_false (Nat.not_lt.2 c10)
        replace H := Option.bind_eq_some_iff.mp H
        obtain ⟨⟨t237, t238, t239⟩, A110, H⟩ := H
        replace H : (if t237.toList = a0.toList then (if t238.toList = a1.toList then (if t239 = 0 then (interchangelaw02_TextBack.j0 k a0 a1 a2 t234) else (some false)) else (some false)) else (some false)) = some r := H
        have A11 := Aside0.mk A110
        clear A110
        by_cases c12 : t237.toList = a0.toList
        · rw [if_pos c12] at H
          have c12b0 : (t237.toList == a0.toList) = true := beq_iff_eq.mpr c12
          have c12b1 : (t237.toList != a0.toList) = false := bne_eq_false_iff_eq.mpr c12
          clear c12
          by_cases c13 : t238.toList = a1.toList
          · rw [if_pos c13] at H
            have c13b0 : (t238.toList == a1.toList) = true := beq_iff_eq.mpr c13
            have c13b1 : (t238.toList != a1.toList) = false := bne_eq_false_iff_eq.mpr c13
            clear c13
            by_cases c14 : t239 = 0
            · rw [if_pos c14] at H
              have c14b0 : (t239 == 0) = true := beq_iff_eq.mpr c14
              have c14b1 : (t239 != 0) = false := bne_eq_false_iff_eq.mpr c14
              clear c14
              have H' := Aside0.mk H
              clear H
              go_wp2_with (first | ((with_reducible refine gate_callee (f := 24) rfl ?_); refine goesL_ (some 35) rfl rfl Tryd.func24 (by kernel_rfl) rfl #[.string (t235 ++ a1)] rfl (by (try simp only [List.map_toArray, List.map_cons, List.map_nil]); first | done | rfl | (simp only [List.length_drop, List.length_take]; rfl)) ?_; (with_reducible refine (text_TakeShort.calls k (t235 ++ a1) t237 t238 t239 _ ?lg A11.out).mono ?_); (case lg => exact (HG.out.below (by repeat (first | (with_reducible first | exact HB.out | apply below_alloc | apply pw_below_drewN | apply below_drew1) | exact HB.out)))); rintro e w' ⟨rfl, ⟨nd, rfl⟩⟩; refine ⟨_, rfl, ?_⟩))
              go_meet
              case rel => exact ⟨_, H', ⟨by first | omega | exact Nat.le_refl _⟩, ⟨by repeat (first | (with_reducible first | exact HB.out | apply below_alloc | apply pw_below_drewN | apply below_drew1) | exact HB.out)⟩⟩
            · rw [if_neg c14] at H
              have c14b0 : (t239 == 0) = false := beq_eq_false_iff_ne.mpr c14
              have c14b1 : (t239 != 0) = true := bne_iff_ne.mpr c14
              obtain rfl := Option.some.inj H
              go_wp2_with (first | ((with_reducible refine gate_callee (f := 24) rfl ?_); refine goesL_ (some 35) rfl rfl Tryd.func24 (by kernel_rfl) rfl #[.string (t235 ++ a1)] rfl (by (try simp only [List.map_toArray, List.map_cons, List.map_nil]); first | done | rfl | (simp only [List.length_drop, List.length_take]; rfl)) ?_; (with_reducible refine (text_TakeShort.calls k (t235 ++ a1) t237 t238 t239 _ ?lg A11.out).mono ?_); (case lg => exact (HG.out.below (by repeat (first | (with_reducible first | exact HB.out | apply below_alloc | apply pw_below_drewN | apply below_drew1) | exact HB.out)))); rintro e w' ⟨rfl, ⟨nd, rfl⟩⟩; refine ⟨_, rfl, ?_⟩))
              go_ret
              exact ⟨by first | rfl | (simp [errW_none, errW_some] <;> rfl) | (simp [*, errW_none, errW_some] <;> rfl), by repeat (first | (with_reducible first | exact HB.out | apply below_alloc | apply pw_below_drewN | apply below_drew1) | exact HB.out)⟩
          · rw [if_neg c13] at H
            have c13b0 : (t238.toList == a1.toList) = false := beq_eq_false_iff_ne.mpr c13
            have c13b1 : (t238.toList != a1.toList) = true := bne_iff_ne.mpr c13
            obtain rfl := Option.some.inj H
            go_wp2_with (first | ((with_reducible refine gate_callee (f := 24) rfl ?_); refine goesL_ (some 35) rfl rfl Tryd.func24 (by kernel_rfl) rfl #[.string (t235 ++ a1)] rfl (by (try simp only [List.map_toArray, List.map_cons, List.map_nil]); first | done | rfl | (simp only [List.length_drop, List.length_take]; rfl)) ?_; (with_reducible refine (text_TakeShort.calls k (t235 ++ a1) t237 t238 t239 _ ?lg A11.out).mono ?_); (case lg => exact (HG.out.below (by repeat (first | (with_reducible first | exact HB.out | apply below_alloc | apply pw_below_drewN | apply below_drew1) | exact HB.out)))); rintro e w' ⟨rfl, ⟨nd, rfl⟩⟩; refine ⟨_, rfl, ?_⟩))
            go_ret
            exact ⟨by first | rfl | (simp [errW_none, errW_some] <;> rfl) | (simp [*, errW_none, errW_some] <;> rfl), by repeat (first | (with_reducible first | exact HB.out | apply below_alloc | apply pw_below_drewN | apply below_drew1) | exact HB.out)⟩
        · rw [if_neg c12] at H
          have c12b0 : (t237.toList == a0.toList) = false := beq_eq_false_iff_ne.mpr c12
          have c12b1 : (t237.toList != a0.toList) = true := bne_iff_ne.mpr c12
          obtain rfl := Option.some.inj H
          go_wp2_with (first | ((with_reducible refine gate_callee (f := 24) rfl ?_); refine goesL_ (some 35) rfl rfl Tryd.func24 (by kernel_rfl) rfl #[.string (t235 ++ a1)] rfl (by (try simp only [List.map_toArray, List.map_cons, List.map_nil]); first | done | rfl | (simp only [List.length_drop, List.length_take]; rfl)) ?_; (with_reducible refine (text_TakeShort.calls k (t235 ++ a1) t237 t238 t239 _ ?lg A11.out).mono ?_); (case lg => exact (HG.out.below (by repeat (first | (with_reducible first | exact HB.out | apply below_alloc | apply pw_below_drewN | apply below_drew1) | exact HB.out)))); rintro e w' ⟨rfl, ⟨nd, rfl⟩⟩; refine ⟨_, rfl, ?_⟩))
          go_ret
          exact ⟨by first | rfl | (simp [errW_none, errW_some] <;> rfl) | (simp [*, errW_none, errW_some] <;> rfl), by repeat (first | (with_reducible first | exact HB.out | apply below_alloc | apply pw_below_drewN | apply below_drew1) | exact HB.out)⟩
      · rw [if_neg c10] at H
        exact absurd H (by simp)
    · rw [if_neg c9] at H
      have c9b0 : (t236 == 0) = false := beq_eq_false_iff_ne.mpr c9
      have c9b1 : (t236 != 0) = true := bne_iff_ne.mpr c9
      (first | rw [c9b0] | (simp only [i64_w, i32_w]; rw [c9b0]) | skip)
      have H' := Aside0.mk H
      clear H
      go_wp2
      go_meet
      case rel => exact ⟨_, H', ⟨by first | omega | exact Nat.le_refl _⟩, ⟨by repeat (first | (with_reducible first | exact HB.out | apply below_alloc | apply pw_below_drewN | apply below_drew1) | exact HB.out)⟩⟩
  case rest =>
    clear HC6
    try clear c1
    try clear c2
    try clear p2
    try clear c9
    try clear c9b0
    try clear c9b1
    try clear c10
    try clear c10b0
    try clear c10b1
    try clear c10b2
    try clear c11
    try clear c12
    try clear c12b0
    try clear c12b1
    try clear c13
    try clear c13b0
    try clear c13b1
    try clear c14
    try clear c14b0
    try clear c14b1
    obtain ⟨kq, HA, HJ5, HB⟩ := hcut
    cases kq with
    | zero => exact absurd HA.out (by simp [interchangelaw02_TextBack.j0])
    | succ kj5 =>
      have H := HA.out
      clear HA
      simp only [interchangelaw02_TextBack.j0] at H
      replace H := Option.bind_eq_some_iff.mp H
      obtain ⟨⟨t240, t241⟩, A150, H⟩ := H
      replace H : (if t240.size + a1.size ≤ 9223372036854775807 then ((text_TakeLong.f kj5 (t240 ++ a1)).bind fun bt242 => (if bt242.1.toList = a0.toList then (if bt242.2.1.toList = a1.toList then (interchangelaw02_TextBack.j1 kj5 a2 t234 (bt242.2.2 != 0)) else (interchangelaw02_TextBack.j1 kj5 a2 t234 true)) else (interchangelaw02_TextBack.j1 kj5 a2 t234 true))) else (none)) = some r := H
      have A15 := Aside0.mk A150
      clear A150
      by_cases c16 : t240.size + a1.size ≤ 9223372036854775807
      · rw [if_pos c16] at H
        have c16b0 := eq_true c16
        have c16b1 : decide (t240.size + a1.size ≤ 9223372036854775807) = true := decide_eq_true c16
        try have c16b2 : (9223372036854775807 < t240.size + a1.size) = False := eq_false (Nat.not_lt.2 c16)
        replace H := Option.bind_eq_some_iff.mp H
        obtain ⟨⟨t242, t243, t244⟩, A170, H⟩ := H
        replace H : (if t242.toList = a0.toList then (if t243.toList = a1.toList then (interchangelaw02_TextBack.j1 kj5 a2 t234 (t244 != 0)) else (interchangelaw02_TextBack.j1 kj5 a2 t234 true)) else (interchangelaw02_TextBack.j1 kj5 a2 t234 true)) = some r := H
        have A17 := Aside0.mk A170
        clear A170
        have HC18 := Aside0.mk H
        clear H
        go_upto_region 9 with (first | ((with_reducible refine gate_callee (f := 20) rfl ?_); refine goesL_ (some 53) rfl rfl Tryd.func20 (by kernel_rfl) rfl #[.string a0] rfl (by (try simp only [List.map_toArray, List.map_cons, List.map_nil]); first | done | rfl | (simp only [List.length_drop, List.length_take]; rfl)) ?_; (with_reducible refine (text_Long.calls kj5 a0 t240 t241 _ ?lg A15.out).mono ?_); (case lg => exact (HG.out.below (by repeat (first | (with_reducible first | exact HB.out | apply below_alloc | apply pw_below_drewN | apply below_drew1) | exact HB.out)))); rintro e w19 ⟨rfl, hb⟩; refine ⟨_, rfl, ?_⟩; have n0_ := Aside0.mk (below_step (by repeat (first | (with_reducible first | exact HB.out | apply below_alloc | apply pw_below_drewN | apply below_drew1) | exact HB.out)) hb); clear HB; have HB := n0_; clear n0_; (try clear hb); (try clear hb2); (try clear hk); (try clear hi)) | ((with_reducible refine gate_callee (f := 21) rfl ?_); refine goesL_ (some 60) rfl rfl Tryd.func21 (by kernel_rfl) rfl #[.string (t240 ++ a1)] rfl (by (try simp only [List.map_toArray, List.map_cons, List.map_nil]); first | done | rfl | (simp only [List.length_drop, List.length_take]; rfl)) ?_; (with_reducible refine (text_TakeLong.calls kj5 (t240 ++ a1) t242 t243 t244 _ ?lg A17.out).mono ?_); (case lg => exact (HG.out.below (by repeat (first | (with_reducible first | exact HB.out | apply below_alloc | apply pw_below_drewN | apply below_drew1) | exact HB.out)))); rintro e w' ⟨rfl, ⟨nd, rfl⟩⟩; refine ⟨_, rfl, ?_⟩))
        (try simp only [Act.put, List.setIfInBounds_toArray, List.set_cons_zero, List.set_cons_succ])
        go_cut [75] (fun v75 wc => ∃ (kq : Nat) (x75_17 : Bool), v75 = .bool x75_17 ∧ Aside0 (interchangelaw02_TextBack.j1 kq a2 t234 x75_17 = some r) ∧ Aside0 (kq ≤ kj5) ∧ Aside0 (Below w.heap.size w wc))
        case first =>
          have H := HC18.out
          clear HC18
          by_cases c20 : t242.toList = a0.toList
          · rw [if_pos c20] at H
            have c20b0 : (t242.toList == a0.toList) = true := beq_iff_eq.mpr c20
            have c20b1 : (t242.toList != a0.toList) = false := bne_eq_false_iff_eq.mpr c20
            clear c20
            (first | rw [c20b0] | (simp only [i64_w, i32_w]; rw [c20b0]) | skip)
            by_cases c21 : t243.toList = a1.toList
            · rw [if_pos c21] at H
              have c21b0 : (t243.toList == a1.toList) = true := beq_iff_eq.mpr c21
              have c21b1 : (t243.toList != a1.toList) = false := bne_eq_false_iff_eq.mpr c21
              clear c21
              have H' := Aside0.mk H
              clear H
              go_wp2
              go_meet
              case rel => exact ⟨_, ((t244 != 0)), (by first | rfl | (simp; done) | (simp [*]; done)), H', ⟨by have := HJ5.out; first | omega | exact Nat.le_refl _⟩, ⟨by repeat (first | (with_reducible first | exact HB.out | apply below_alloc | apply pw_below_drewN | apply below_drew1) | exact HB.out)⟩⟩
            · rw [if_neg c21] at H
              have c21b0 : (t243.toList == a1.toList) = false := beq_eq_false_iff_ne.mpr c21
              have c21b1 : (t243.toList != a1.toList) = true := bne_iff_ne.mpr c21
              have H' := Aside0.mk H
              clear H
              go_wp2
              go_meet
              case rel => exact ⟨_, (true), (by first | rfl | (simp; done) | (simp [*]; done)), H', ⟨by have := HJ5.out; first | omega | exact Nat.le_refl _⟩, ⟨by repeat (first | (with_reducible first | exact HB.out | apply below_alloc | apply pw_below_drewN | apply below_drew1) | exact HB.out)⟩⟩
          · rw [if_neg c20] at H
            have c20b0 : (t242.toList == a0.toList) = false := beq_eq_false_iff_ne.mpr c20
            have c20b1 : (t242.toList != a0.toList) = true := bne_iff_ne.mpr c20
            (first | rw [c20b0] | (simp only [i64_w, i32_w]; rw [c20b0]) | skip)
            have H' := Aside0.mk H
            clear H
            go_wp2
            go_meet
            case rel => exact ⟨_, (true), (by first | rfl | (simp; done) | (simp [*]; done)), H', ⟨by have := HJ5.out; first | omega | exact Nat.le_refl _⟩, ⟨by repeat (first | (with_reducible first | exact HB.out | apply below_alloc | apply pw_below_drewN | apply below_drew1) | exact HB.out)⟩⟩
        case rest =>
          clear HC18
          try clear c1
          try clear c2
          try clear p2
          try clear c9
          try clear c9b0
          try clear c9b1
          try clear c10
          try clear c10b0
          try clear c10b1
          try clear c10b2
          try clear c11
          try clear c12
          try clear c12b0
          try clear c12b1
          try clear c13
          try clear c13b0
          try clear c13b1
          try clear c14
          try clear c14b0
          try clear c14b1
          try clear c16
          try clear c16b0
          try clear c16b1
          try clear c16b2
          try clear c19
          try clear c20
          try clear c20b0
          try clear c20b1
          try clear c21
          try clear c21b0
          try clear c21b1
          try clear p2
          obtain ⟨kq, x75_17, rfl, HA, HJ17, HB⟩ := hcut
          cases kq with
          | zero => exact absurd HA.out (by simp [interchangelaw02_TextBack.j1])
          | succ kj17 =>
            have H := HA.out
            clear HA
            simp only [interchangelaw02_TextBack.j1] at H
            by_cases c22 : x75_17 = true
            · subst c22
              have H1 : (some false) = some r := by rw [if_pos rfl] at H; exact H
              clear H
              have H := H1
              clear H1
              obtain rfl := Option.some.inj H
              go_wp2
              go_ret
              exact ⟨by first | rfl | (simp [errW_none, errW_some] <;> rfl) | (simp [*, errW_none, errW_some] <;> rfl), by repeat (first | (with_reducible first | exact HB.out | apply below_alloc | apply pw_below_drewN | apply below_drew1) | exact HB.out)⟩
            · replace c22 := Bool.eq_false_iff.mpr c22
              subst c22
              have H1 : ((text_TakeShort.f kj17 a2).bind fun bt245 => ((text_Short.f kj17 bt245.1).bind fun bt248 => (if t234 = true then (if bt245.2.2 = 0 then (if bt248.2 = 0 then (if bt248.1.size + bt245.2.1.size ≤ 9223372036854775807 then (some ((bt248.1 ++ bt245.2.1).toList == a2.toList)) else (none)) else (some false)) else (some true)) else (some false)))) = some r := by rw [if_neg (show ¬ (false = true) by decide)] at H; exact H
              clear H
              have H := H1
              clear H1
              replace H := Option.bind_eq_some_iff.mp H
              obtain ⟨⟨t245, t246, t247⟩, A230, H⟩ := H
              replace H : ((text_Short.f kj17 t245).bind fun bt248 => (if t234 = true then (if t247 = 0 then (if bt248.2 = 0 then (if bt248.1.size + t246.size ≤ 9223372036854775807 then (some ((bt248.1 ++ t246).toList == a2.toList)) else (none)) else (some false)) else (some true)) else (some false))) = some r := H
              have A23 := Aside0.mk A230
              clear A230
              replace H := Option.bind_eq_some_iff.mp H
              obtain ⟨⟨t248, t249⟩, A240, H⟩ := H
              replace H : (if t234 = true then (if t247 = 0 then (if t249 = 0 then (if t248.size + t246.size ≤ 9223372036854775807 then (some ((t248 ++ t246).toList == a2.toList)) else (none)) else (some false)) else (some true)) else (some false)) = some r := H
              have A24 := Aside0.mk A240
              clear A240
              by_cases c25 : t234 = true
              · subst c25
                have H1 : (if t247 = 0 then (if t249 = 0 then (if t248.size + t246.size ≤ 9223372036854775807 then (some ((t248 ++ t246).toList == a2.toList)) else (none)) else (some false)) else (some true)) = some r := by rw [if_pos rfl] at H; exact H
                clear H
                have H := H1
                clear H1
                by_cases c26 : t247 = 0
                · rw [if_pos c26] at H
                  have c26b0 : (t247 == 0) = true := beq_iff_eq.mpr c26
                  have c26b1 : (t247 != 0) = false := bne_eq_false_iff_eq.mpr c26
                  clear c26
                  by_cases c27 : t249 = 0
                  · rw [if_pos c27] at H
                    have c27b0 : (t249 == 0) = true := beq_iff_eq.mpr c27
                    have c27b1 : (t249 != 0) = false := bne_eq_false_iff_eq.mpr c27
                    clear c27
                    by_cases c28 : t248.size + t246.size ≤ 9223372036854775807
                    · rw [if_pos c28] at H
                      have c28b0 := eq_true c28
                      have c28b1 : decide (t248.size + t246.size ≤ 9223372036854775807) = true := decide_eq_true c28
                      try have c28b2 : (9223372036854775807 < t248.size + t246.size) = False := eq_false (Nat.not_lt.2 c28)
                      obtain rfl := Option.some.inj H
                      go_wp2_with (first | ((with_reducible refine gate_callee (f := 24) rfl ?_); refine goesL_ (some 78) rfl rfl Tryd.func24 (by kernel_rfl) rfl #[.string a2] rfl (by (try simp only [List.map_toArray, List.map_cons, List.map_nil]); first | done | rfl | (simp only [List.length_drop, List.length_take]; rfl)) ?_; (with_reducible refine (text_TakeShort.calls kj17 a2 t245 t246 t247 _ ?lg A23.out).mono ?_); (case lg => exact (HG.out.below (by repeat (first | (with_reducible first | exact HB.out | apply below_alloc | apply pw_below_drewN | apply below_drew1) | exact HB.out)))); rintro e w' ⟨rfl, ⟨nd, rfl⟩⟩; refine ⟨_, rfl, ?_⟩) | ((with_reducible refine gate_callee (f := 19) rfl ?_); refine goesL_ (some 84) rfl rfl Tryd.func19 (by kernel_rfl) rfl #[.string t245] rfl (by (try simp only [List.map_toArray, List.map_cons, List.map_nil]); first | done | rfl | (simp only [List.length_drop, List.length_take]; rfl)) ?_; (with_reducible refine (text_Short.calls kj17 t245 t248 t249 _ ?lg A24.out).mono ?_); (case lg => exact (HG.out.below (by repeat (first | (with_reducible first | exact HB.out | apply below_alloc | apply pw_below_drewN | apply below_drew1) | exact HB.out)))); rintro e w29 ⟨rfl, hb⟩; refine ⟨_, rfl, ?_⟩; have n0_ := Aside0.mk (below_step (by repeat (first | (with_reducible first | exact HB.out | apply below_alloc | apply pw_below_drewN | apply below_drew1) | exact HB.out)) hb); clear HB; have HB := n0_; clear n0_; (try clear hb); (try clear hb2); (try clear hk); (try clear hi)))
                      go_ret
                      exact ⟨by first | rfl | (simp [errW_none, errW_some] <;> rfl) | (simp [*, errW_none, errW_some] <;> rfl), by repeat (first | (with_reducible first | exact HB.out | apply below_alloc | apply pw_below_drewN | apply below_drew1) | exact HB.out)⟩
                    · rw [if_neg c28] at H
                      exact absurd H (by simp)
                  · rw [if_neg c27] at H
                    have c27b0 : (t249 == 0) = false := beq_eq_false_iff_ne.mpr c27
                    have c27b1 : (t249 != 0) = true := bne_iff_ne.mpr c27
                    obtain rfl := Option.some.inj H
                    go_wp2_with (first | ((with_reducible refine gate_callee (f := 24) rfl ?_); refine goesL_ (some 78) rfl rfl Tryd.func24 (by kernel_rfl) rfl #[.string a2] rfl (by (try simp only [List.map_toArray, List.map_cons, List.map_nil]); first | done | rfl | (simp only [List.length_drop, List.length_take]; rfl)) ?_; (with_reducible refine (text_TakeShort.calls kj17 a2 t245 t246 t247 _ ?lg A23.out).mono ?_); (case lg => exact (HG.out.below (by repeat (first | (with_reducible first | exact HB.out | apply below_alloc | apply pw_below_drewN | apply below_drew1) | exact HB.out)))); rintro e w' ⟨rfl, ⟨nd, rfl⟩⟩; refine ⟨_, rfl, ?_⟩) | ((with_reducible refine gate_callee (f := 19) rfl ?_); refine goesL_ (some 84) rfl rfl Tryd.func19 (by kernel_rfl) rfl #[.string t245] rfl (by (try simp only [List.map_toArray, List.map_cons, List.map_nil]); first | done | rfl | (simp only [List.length_drop, List.length_take]; rfl)) ?_; (with_reducible refine (text_Short.calls kj17 t245 t248 t249 _ ?lg A24.out).mono ?_); (case lg => exact (HG.out.below (by repeat (first | (with_reducible first | exact HB.out | apply below_alloc | apply pw_below_drewN | apply below_drew1) | exact HB.out)))); rintro e w30 ⟨rfl, hb⟩; refine ⟨_, rfl, ?_⟩; have n0_ := Aside0.mk (below_step (by repeat (first | (with_reducible first | exact HB.out | apply below_alloc | apply pw_below_drewN | apply below_drew1) | exact HB.out)) hb); clear HB; have HB := n0_; clear n0_; (try clear hb); (try clear hb2); (try clear hk); (try clear hi)))
                    go_ret
                    exact ⟨by first | rfl | (simp [errW_none, errW_some] <;> rfl) | (simp [*, errW_none, errW_some] <;> rfl), by repeat (first | (with_reducible first | exact HB.out | apply below_alloc | apply pw_below_drewN | apply below_drew1) | exact HB.out)⟩
                · rw [if_neg c26] at H
                  have c26b0 : (t247 == 0) = false := beq_eq_false_iff_ne.mpr c26
                  have c26b1 : (t247 != 0) = true := bne_iff_ne.mpr c26
                  obtain rfl := Option.some.inj H
                  go_wp2_with (first | ((with_reducible refine gate_callee (f := 24) rfl ?_); refine goesL_ (some 78) rfl rfl Tryd.func24 (by kernel_rfl) rfl #[.string a2] rfl (by (try simp only [List.map_toArray, List.map_cons, List.map_nil]); first | done | rfl | (simp only [List.length_drop, List.length_take]; rfl)) ?_; (with_reducible refine (text_TakeShort.calls kj17 a2 t245 t246 t247 _ ?lg A23.out).mono ?_); (case lg => exact (HG.out.below (by repeat (first | (with_reducible first | exact HB.out | apply below_alloc | apply pw_below_drewN | apply below_drew1) | exact HB.out)))); rintro e w' ⟨rfl, ⟨nd, rfl⟩⟩; refine ⟨_, rfl, ?_⟩) | ((with_reducible refine gate_callee (f := 19) rfl ?_); refine goesL_ (some 84) rfl rfl Tryd.func19 (by kernel_rfl) rfl #[.string t245] rfl (by (try simp only [List.map_toArray, List.map_cons, List.map_nil]); first | done | rfl | (simp only [List.length_drop, List.length_take]; rfl)) ?_; (with_reducible refine (text_Short.calls kj17 t245 t248 t249 _ ?lg A24.out).mono ?_); (case lg => exact (HG.out.below (by repeat (first | (with_reducible first | exact HB.out | apply below_alloc | apply pw_below_drewN | apply below_drew1) | exact HB.out)))); rintro e w31 ⟨rfl, hb⟩; refine ⟨_, rfl, ?_⟩; have n0_ := Aside0.mk (below_step (by repeat (first | (with_reducible first | exact HB.out | apply below_alloc | apply pw_below_drewN | apply below_drew1) | exact HB.out)) hb); clear HB; have HB := n0_; clear n0_; (try clear hb); (try clear hb2); (try clear hk); (try clear hi)))
                  go_ret
                  exact ⟨by first | rfl | (simp [errW_none, errW_some] <;> rfl) | (simp [*, errW_none, errW_some] <;> rfl), by repeat (first | (with_reducible first | exact HB.out | apply below_alloc | apply pw_below_drewN | apply below_drew1) | exact HB.out)⟩
              · replace c25 := Bool.eq_false_iff.mpr c25
                subst c25
                have H1 : (some false) = some r := by rw [if_neg (show ¬ (false = true) by decide)] at H; exact H
                clear H
                have H := H1
                clear H1
                obtain rfl := Option.some.inj H
                go_wp2_with (first | ((with_reducible refine gate_callee (f := 24) rfl ?_); refine goesL_ (some 78) rfl rfl Tryd.func24 (by kernel_rfl) rfl #[.string a2] rfl (by (try simp only [List.map_toArray, List.map_cons, List.map_nil]); first | done | rfl | (simp only [List.length_drop, List.length_take]; rfl)) ?_; (with_reducible refine (text_TakeShort.calls kj17 a2 t245 t246 t247 _ ?lg A23.out).mono ?_); (case lg => exact (HG.out.below (by repeat (first | (with_reducible first | exact HB.out | apply below_alloc | apply pw_below_drewN | apply below_drew1) | exact HB.out)))); rintro e w' ⟨rfl, ⟨nd, rfl⟩⟩; refine ⟨_, rfl, ?_⟩) | ((with_reducible refine gate_callee (f := 19) rfl ?_); refine goesL_ (some 84) rfl rfl Tryd.func19 (by kernel_rfl) rfl #[.string t245] rfl (by (try simp only [List.map_toArray, List.map_cons, List.map_nil]); first | done | rfl | (simp only [List.length_drop, List.length_take]; rfl)) ?_; (with_reducible refine (text_Short.calls kj17 t245 t248 t249 _ ?lg A24.out).mono ?_); (case lg => exact (HG.out.below (by repeat (first | (with_reducible first | exact HB.out | apply below_alloc | apply pw_below_drewN | apply below_drew1) | exact HB.out)))); rintro e w32 ⟨rfl, hb⟩; refine ⟨_, rfl, ?_⟩; have n0_ := Aside0.mk (below_step (by repeat (first | (with_reducible first | exact HB.out | apply below_alloc | apply pw_below_drewN | apply below_drew1) | exact HB.out)) hb); clear HB; have HB := n0_; clear n0_; (try clear hb); (try clear hb2); (try clear hk); (try clear hi)))
                go_ret
                exact ⟨by first | rfl | (simp [errW_none, errW_some] <;> rfl) | (simp [*, errW_none, errW_some] <;> rfl), by repeat (first | (with_reducible first | exact HB.out | apply below_alloc | apply pw_below_drewN | apply below_drew1) | exact HB.out)⟩
      · rw [if_neg c16] at H
        exact absurd H (by simp)


end Go.Proofs.YtmpbhbbgnmkpgaaDoor.F
