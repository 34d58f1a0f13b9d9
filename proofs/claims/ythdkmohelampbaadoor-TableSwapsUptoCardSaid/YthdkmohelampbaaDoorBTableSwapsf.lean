/- Texts of this session for the law TableSwaps, one behind the other: interchangelaw03TableCut, PTableCut, Pmake, Pref03, interchangeref03Take, interchangeref03Value, interchangeref03both, interchangeref03Find, interchangeref03Keys, interchangeref02Strings, PrefTab. -/
import Derived.Test.YthdkmohelampbaaDoorBTableSwapsa
import Derived.Test.YthdkmohelampbaaDoorBTableSwapsb
import Derived.Test.YthdkmohelampbaaDoorBTableSwapsc
import Derived.Test.YthdkmohelampbaaDoorBTableSwapsd
import Derived.Test.YthdkmohelampbaaDoorBTableSwapse
namespace Go.Proofs.YthdkmohelampbaaDoor.F
open Go.RowKit Go.Proofs.YthdkmohelampbaaDoorW.PrintWords Go.Proofs.YthdkmohelampbaaDoorW.PrintLast Go.Proofs.YthdkmohelampbaaDoorW.PrintMore
attribute [local go_sem] max2_int min2_int max_two min_two max_three min_three max_four min_four
set_option linter.unusedVariables false
set_option linter.unusedSimpArgs false

/-! ### interchangelaw03_TableCut: function 3 -/
def interchangelaw03_TableCut.j0 : Nat → Int → Bool → ByteArray → Bool → Option (Bool)
  | 0, _, _, _, _ => none
  | k + 1, x1, x5, x6, x39 => if x39 = true then (some false) else (if x1 < 0 then (some x5) else (if x1 ≥ (x6.size : Int) then (some x5) else (if 0 ≤ x1 then (if x1 ≤ (x6.size : Int) then ((table_Take.f (x6.extract 0 (x1 : Int).toNat)).bind fun bt132 => (if x5 = true then (some (bt132.2.2 == 2)) else (some false))) else (none)) else (none))))
def interchangelaw03_TableCut.f (k : Nat) (a0 : ByteArray) (a1 : Int) : Option (Bool) := (interchangelaw03_shown.f).bind fun t128 => ((table_Take.f a0).bind fun bt129 => (if bt129.2.2 = 0 then (if bt129.1.size + bt129.2.1.size ≤ 9223372036854775807 then (if (bt129.1 ++ bt129.2.1).toList = a0.toList then (interchangelaw03_TableCut.j0 k a1 t128 bt129.1 (decide ((bt129.1.size : Int) < 4))) else (interchangelaw03_TableCut.j0 k a1 t128 bt129.1 true)) else (none)) else (if t128 = true then (if bt129.1.toList = ([] : List UInt8) then (some (bt129.2.1.toList == ([] : List UInt8))) else (some false)) else (some false))))
theorem interchangelaw03_TableCut.mono_l : ∀ k, (∀ y0 y1 y2 y3, LeO (interchangelaw03_TableCut.j0 k y0 y1 y2 y3) (interchangelaw03_TableCut.j0 (k + 1) y0 y1 y2 y3))
  | 0 => fun _ _ _ _ r h => by simp [interchangelaw03_TableCut.j0] at h
  | k + 1 => by
    have ih0 := interchangelaw03_TableCut.mono_l k
    · intro y0 y1 y2 y3
      unfold interchangelaw03_TableCut.j0
      repeat' first
      | (with_reducible exact ih0 _ _ _ _)
      | (with_reducible exact LeO.refl _)
      | (with_reducible exact LeO.none _)
      | (with_reducible refine LeO.ite ?_ ?_)
      | (with_reducible refine LeO.bind ?_ (fun _ => ?_))
      | exact ih0 _ _ _ _
      | exact LeO.none _
      | refine LeO.ite ?_ ?_
      | refine LeO.bind ?_ (fun _ => ?_)
theorem interchangelaw03_TableCut.mono : ∀ a0 a1 k, LeO (interchangelaw03_TableCut.f k a0 a1) (interchangelaw03_TableCut.f (k + 1) a0 a1) := by
  intro a0 a1 k
  have ih0 := interchangelaw03_TableCut.mono_l k
  unfold interchangelaw03_TableCut.f
  repeat' first
      | (with_reducible exact ih0 _ _ _ _)
      | (with_reducible exact LeO.refl _)
      | (with_reducible exact LeO.none _)
      | (with_reducible refine LeO.ite ?_ ?_)
      | (with_reducible refine LeO.bind ?_ (fun _ => ?_))
      | exact ih0 _ _ _ _
      | exact LeO.none _
      | refine LeO.ite ?_ ?_
      | refine LeO.bind ?_ (fun _ => ?_)
set_option maxHeartbeats 8000000 in
set_option maxRecDepth 100000 in
theorem interchangelaw03_TableCut.calls (k : Nat) (a0 : ByteArray) (a1 : Int) (r : Bool) (w : World) (hg : Laid w) (h : interchangelaw03_TableCut.f k a0 a1 = some r) :
    Calls Tryd.prog 3 #[.string a0, .int .i64 a1] w fun e w' => e = .returned (.bool r) ∧ Below w.heap.size w w' := by
  have HG := Aside0.mk hg
  clear hg
  have HB := Aside0.mk (Below.refl w.heap.size w)
  have H : ((interchangelaw03_shown.f).bind fun t128 => ((table_Take.f a0).bind fun bt129 => (if bt129.2.2 = 0 then (if bt129.1.size + bt129.2.1.size ≤ 9223372036854775807 then (if (bt129.1 ++ bt129.2.1).toList = a0.toList then (interchangelaw03_TableCut.j0 k a1 t128 bt129.1 (decide ((bt129.1.size : Int) < 4))) else (interchangelaw03_TableCut.j0 k a1 t128 bt129.1 true)) else (none)) else (if t128 = true then (if bt129.1.toList = ([] : List UInt8) then (some (bt129.2.1.toList == ([] : List UInt8))) else (some false)) else (some false))))) = some r := h
  clear h
  replace H := Option.bind_eq_some_iff.mp H
  obtain ⟨t128, A30, H⟩ := H
  replace H : ((table_Take.f a0).bind fun bt129 => (if bt129.2.2 = 0 then (if bt129.1.size + bt129.2.1.size ≤ 9223372036854775807 then (if (bt129.1 ++ bt129.2.1).toList = a0.toList then (interchangelaw03_TableCut.j0 k a1 t128 bt129.1 (decide ((bt129.1.size : Int) < 4))) else (interchangelaw03_TableCut.j0 k a1 t128 bt129.1 true)) else (none)) else (if t128 = true then (if bt129.1.toList = ([] : List UInt8) then (some (bt129.2.1.toList == ([] : List UInt8))) else (some false)) else (some false)))) = some r := H
  have A3 := Aside0.mk A30
  clear A30
  replace H := Option.bind_eq_some_iff.mp H
  obtain ⟨⟨t129, t130, t131⟩, A40, H⟩ := H
  replace H : (if t131 = 0 then (if t129.size + t130.size ≤ 9223372036854775807 then (if (t129 ++ t130).toList = a0.toList then (interchangelaw03_TableCut.j0 k a1 t128 t129 (decide ((t129.size : Int) < 4))) else (interchangelaw03_TableCut.j0 k a1 t128 t129 true)) else (none)) else (if t128 = true then (if t129.toList = ([] : List UInt8) then (some (t130.toList == ([] : List UInt8))) else (some false)) else (some false))) = some r := H
  have A4 := Aside0.mk A40
  clear A40
  by_cases c5 : t131 = 0
  · rw [if_pos c5] at H
    have c5b0 : (t131 == 0) = true := beq_iff_eq.mpr c5
    have c5b1 : (t131 != 0) = false := bne_eq_false_iff_eq.mpr c5
    clear c5
    have HC6 := Aside0.mk H
    clear H
    go_enter Tryd.func3, Tryd.ntmps3
    go_upto_region 5 with (first | ((with_reducible refine gate_callee (f := 10) rfl ?_); refine goesL_ (some 12) rfl rfl Tryd.func10 (by kernel_rfl) rfl #[] rfl (by (try simp only [List.map_toArray, List.map_cons, List.map_nil]); first | done | rfl | (simp only [List.length_drop, List.length_take]; rfl)) ?_; (with_reducible refine (interchangelaw03_shown.calls t128 _ ?lg A3.out).mono ?_); (case lg => exact (HG.out.below (by repeat (first | (with_reducible first | exact HB.out | apply below_alloc | apply pw_below_drewN | apply below_drew1) | exact HB.out)))); rintro e w7 ⟨rfl, hb⟩; refine ⟨_, rfl, ?_⟩; have n0_ := Aside0.mk (below_step (by repeat (first | (with_reducible first | exact HB.out | apply below_alloc | apply pw_below_drewN | apply below_drew1) | exact HB.out)) hb); clear HB; have HB := n0_; clear n0_; (try clear hb); (try clear hb2); (try clear hk); (try clear hi)) | ((with_reducible refine gate_callee (f := 11) rfl ?_); refine goesL_ (some 15) rfl rfl Tryd.func11 (by kernel_rfl) rfl #[.string a0] rfl (by (try simp only [List.map_toArray, List.map_cons, List.map_nil]); first | done | rfl | (simp only [List.length_drop, List.length_take]; rfl)) ?_; (with_reducible refine (table_Take.calls a0 t129 t130 t131 _ ?lg A4.out).mono ?_); (case lg => exact (HG.out.below (by repeat (first | (with_reducible first | exact HB.out | apply below_alloc | apply pw_below_drewN | apply below_drew1) | exact HB.out)))); rintro e w8 ⟨rfl, hb⟩; refine ⟨_, rfl, ?_⟩; have n0_ := Aside0.mk (below_step (by repeat (first | (with_reducible first | exact HB.out | apply below_alloc | apply pw_below_drewN | apply below_drew1) | exact HB.out)) hb); clear HB; have HB := n0_; clear n0_; (try clear hb); (try clear hb2); (try clear hk); (try clear hi)))
    (try simp only [Act.put, List.setIfInBounds_toArray, List.set_cons_zero, List.set_cons_succ])
    go_cut [39] (fun v39 wc => ∃ (kq : Nat) (x39_5 : Bool), v39 = .bool x39_5 ∧ Aside0 (interchangelaw03_TableCut.j0 kq a1 t128 t129 x39_5 = some r) ∧ Aside0 (kq ≤ k) ∧ Aside0 (Below w.heap.size w wc))
    case first =>
      have H := HC6.out
      clear HC6
      by_cases c9 : t129.size + t130.size ≤ 9223372036854775807
      · rw [if_pos c9] at H
        have c9b0 := eq_true c9
        have c9b1 : decide (t129.size + t130.size ≤ 9223372036854775807) = true := decide_eq_true c9
        try have c9b2 : (9223372036854775807 < t129.size + t130.size) = False := eq_false (Nat.not_lt.2 c9)
        by_cases c10 : (t129 ++ t130).toList = a0.toList
        · rw [if_pos c10] at H
          have c10b0 : ((t129 ++ t130).toList == a0.toList) = true := beq_iff_eq.mpr c10
          have c10b1 : ((t129 ++ t130).toList != a0.toList) = false := bne_eq_false_iff_eq.mpr c10
          clear c10
          (first | rw [c10b0] | (simp only [i64_w, i32_w]; rw [c10b0]) | skip)
          have H' := Aside0.mk H
          clear H
          go_wp2
          go_meet
          case rel => exact ⟨_, (decide ((t129.size : Int) < 4)), (by first | rfl | (simp; done) | (simp [*]; done)), H', ⟨by first | omega | exact Nat.le_refl _⟩, ⟨by repeat (first | (with_reducible first | exact HB.out | apply below_alloc | apply pw_below_drewN | apply below_drew1) | exact HB.out)⟩⟩
        · rw [if_neg c10] at H
          have c10b0 : ((t129 ++ t130).toList == a0.toList) = false := beq_eq_false_iff_ne.mpr c10
          have c10b1 : ((t129 ++ t130).toList != a0.toList) = true := bne_iff_ne.mpr c10
          (first | rw [c10b0] | (simp only [i64_w, i32_w]; rw [c10b0]) | skip)
          have H' := Aside0.mk H
          clear H
          go_wp2
          go_meet
          case rel => exact ⟨_, (true), (by first | rfl | (simp; done) | (simp [*]; done)), H', ⟨by first | omega | exact Nat.le_refl _⟩, ⟨by repeat (first | (with_reducible first | exact HB.out | apply below_alloc | apply pw_below_drewN | apply below_drew1) | exact HB.out)⟩⟩
      · rw [if_neg c9] at H
        exact absurd H (by simp)
    case rest =>
      clear HC6
      try clear c1
      try clear p2
      try clear c3
      try clear c5
      try clear c5b0
      try clear c5b1
      try clear c9
      try clear c9b0
      try clear c9b1
      try clear c9b2
      try clear c10
      try clear c10b0
      try clear c10b1
      obtain ⟨kq, x39_5, rfl, HA, HJ5, HB⟩ := hcut
      cases kq with
      | zero => exact absurd HA.out (by simp [interchangelaw03_TableCut.j0])
      | succ kj5 =>
        have H := HA.out
        clear HA
        simp only [interchangelaw03_TableCut.j0] at H
        by_cases c11 : x39_5 = true
        · subst c11
          have H1 : (some false) = some r := by rw [if_pos rfl] at H; exact H
          clear H
          have H := H1
          clear H1
          obtain rfl := Option.some.inj H
          go_wp2
          go_ret
          exact ⟨by first | rfl | (simp [errW_none, errW_some] <;> rfl) | (simp [*, errW_none, errW_some] <;> rfl), by repeat (first | (with_reducible first | exact HB.out | apply below_alloc | apply pw_below_drewN | apply below_drew1) | exact HB.out)⟩
        · replace c11 := Bool.eq_false_iff.mpr c11
          subst c11
          have H1 : (if a1 < 0 then (some t128) else (if a1 ≥ (t129.size : Int) then (some t128) else (if 0 ≤ a1 then (if a1 ≤ (t129.size : Int) then ((table_Take.f (t129.extract 0 (a1 : Int).toNat)).bind fun bt132 => (if t128 = true then (some (bt132.2.2 == 2)) else (some false))) else (none)) else (none)))) = some r := by rw [if_neg (show ¬ (false = true) by decide)] at H; exact H
          clear H
          have H := H1
          clear H1
          by_cases c12 : a1 < 0
          · rw [if_pos c12] at H
            have c12b0 : decide (a1 < 0) = true := decide_eq_true c12
            clear c12
            obtain rfl := Option.some.inj H
            go_wp2
            go_ret
            exact ⟨by first | rfl | (simp [errW_none, errW_some] <;> rfl) | (simp [*, errW_none, errW_some] <;> rfl), by repeat (first | (with_reducible first | exact HB.out | apply below_alloc | apply pw_below_drewN | apply below_drew1) | exact HB.out)⟩
          · rw [if_neg c12] at H
            have c12b0 : decide (a1 < 0) = false := decide_eq_false c12
            clear c12
            by_cases c13 : a1 ≥ (t129.size : Int)
            · rw [if_pos c13] at H
              have c13b0 : decide ((t129.size : Int) ≤ a1) = true := decide_eq_true c13
              clear c13
              obtain rfl := Option.some.inj H
              go_wp2
              go_ret
              exact ⟨by first | rfl | (simp [errW_none, errW_some] <;> rfl) | (simp [*, errW_none, errW_some] <;> rfl), by repeat (first | (with_reducible first | exact HB.out | apply below_alloc | apply pw_below_drewN | apply below_drew1) | exact HB.out)⟩
            · rw [if_neg c13] at H
              have c13b0 : decide ((t129.size : Int) ≤ a1) = false := decide_eq_false c13
              clear c13
              by_cases c14 : 0 ≤ a1
              · rw [if_pos c14] at H
                have c14b0 := eq_true c14
                have c14b1 : decide (0 ≤ a1) = true := decide_eq_true c14
                clear c14
                by_cases c15 : a1 ≤ (t129.size : Int)
                · rw [if_pos c15] at H
                  have c15b0 := eq_true c15
                  have c15b1 : decide (a1 ≤ (t129.size : Int)) = true := decide_eq_true c15
                  clear c15
                  replace H := Option.bind_eq_some_iff.mp H
                  obtain ⟨⟨t132, t133, t134⟩, A160, H⟩ := H
                  replace H : (if t128 = true then (some (t134 == 2)) else (some false)) = some r := H
                  have A16 := Aside0.mk A160
                  clear A160
                  by_cases c17 : t128 = true
                  · subst c17
                    have H1 : (some (t134 == 2)) = some r := by rw [if_pos rfl] at H; exact H
                    clear H
                    have H := H1
                    clear H1
                    obtain rfl := Option.some.inj H
                    go_wp2_with (first | ((with_reducible refine gate_callee (f := 11) rfl ?_); refine goesL_ (some 53) rfl rfl Tryd.func11 (by kernel_rfl) rfl #[.string (t129.extract 0 (a1 : Int).toNat)] rfl (by (try simp only [List.map_toArray, List.map_cons, List.map_nil]); first | done | rfl | (simp only [List.length_drop, List.length_take]; rfl)) ?_; (with_reducible refine (table_Take.calls (t129.extract 0 (a1 : Int).toNat) t132 t133 t134 _ ?lg A16.out).mono ?_); (case lg => exact (HG.out.below (by repeat (first | (with_reducible first | exact HB.out | apply below_alloc | apply pw_below_drewN | apply below_drew1) | exact HB.out)))); rintro e w18 ⟨rfl, hb⟩; refine ⟨_, rfl, ?_⟩; have n0_ := Aside0.mk (below_step (by repeat (first | (with_reducible first | exact HB.out | apply below_alloc | apply pw_below_drewN | apply below_drew1) | exact HB.out)) hb); clear HB; have HB := n0_; clear n0_; (try clear hb); (try clear hb2); (try clear hk); (try clear hi)))
                    go_ret
                    exact ⟨by first | rfl | (simp [errW_none, errW_some] <;> rfl) | (simp [*, errW_none, errW_some] <;> rfl), by repeat (first | (with_reducible first | exact HB.out | apply below_alloc | apply pw_below_drewN | apply below_drew1) | exact HB.out)⟩
                  · replace c17 := Bool.eq_false_iff.mpr c17
                    subst c17
                    have H1 : (some false) = some r := by rw [if_neg (show ¬ (false = true) by decide)] at H; exact H
                    clear H
                    have H := H1
                    clear H1
                    obtain rfl := Option.some.inj H
                    go_wp2_with (first | ((with_reducible refine gate_callee (f := 11) rfl ?_); refine goesL_ (some 53) rfl rfl Tryd.func11 (by kernel_rfl) rfl #[.string (t129.extract 0 (a1 : Int).toNat)] rfl (by (try simp only [List.map_toArray, List.map_cons, List.map_nil]); first | done | rfl | (simp only [List.length_drop, List.length_take]; rfl)) ?_; (with_reducible refine (table_Take.calls (t129.extract 0 (a1 : Int).toNat) t132 t133 t134 _ ?lg A16.out).mono ?_); (case lg => exact (HG.out.below (by repeat (first | (with_reducible first | exact HB.out | apply below_alloc | apply pw_below_drewN | apply below_drew1) | exact HB.out)))); rintro e w19 ⟨rfl, hb⟩; refine ⟨_, rfl, ?_⟩; have n0_ := Aside0.mk (below_step (by repeat (first | (with_reducible first | exact HB.out | apply below_alloc | apply pw_below_drewN | apply below_drew1) | exact HB.out)) hb); clear HB; have HB := n0_; clear n0_; (try clear hb); (try clear hb2); (try clear hk); (try clear hi)))
                    go_ret
                    exact ⟨by first | rfl | (simp [errW_none, errW_some] <;> rfl) | (simp [*, errW_none, errW_some] <;> rfl), by repeat (first | (with_reducible first | exact HB.out | apply below_alloc | apply pw_below_drewN | apply below_drew1) | exact HB.out)⟩
                · rw [if_neg c15] at H
                  exact absurd H (by simp)
              · rw [if_neg c14] at H
                exact absurd H (by simp)
  · rw [if_neg c5] at H
    have c5b0 : (t131 == 0) = false := beq_eq_false_iff_ne.mpr c5
    have c5b1 : (t131 != 0) = true := bne_iff_ne.mpr c5
    by_cases c20 : t128 = true
    · subst c20
      have H1 : (if t129.toList = ([] : List UInt8) then (some (t130.toList == ([] : List UInt8))) else (some false)) = some r := by rw [if_pos rfl] at H; exact H
      clear H
      have H := H1
      clear H1
      by_cases c21 : t129.toList = ([] : List UInt8)
      · rw [if_pos c21] at H
        have c21b0 : (t129.toList == ([] : List UInt8)) = true := beq_iff_eq.mpr c21
        have c21b1 : (t129.toList != ([] : List UInt8)) = false := bne_eq_false_iff_eq.mpr c21
        clear c21
        obtain rfl := Option.some.inj H
        go_enter Tryd.func3, Tryd.ntmps3
        go_wp2_with (first | ((with_reducible refine gate_callee (f := 10) rfl ?_); refine goesL_ (some 12) rfl rfl Tryd.func10 (by kernel_rfl) rfl #[] rfl (by (try simp only [List.map_toArray, List.map_cons, List.map_nil]); first | done | rfl | (simp only [List.length_drop, List.length_take]; rfl)) ?_; (with_reducible refine (interchangelaw03_shown.calls true _ ?lg A3.out).mono ?_); (case lg => exact (HG.out.below (by repeat (first | (with_reducible first | exact HB.out | apply below_alloc | apply pw_below_drewN | apply below_drew1) | exact HB.out)))); rintro e w22 ⟨rfl, hb⟩; refine ⟨_, rfl, ?_⟩; have n0_ := Aside0.mk (below_step (by repeat (first | (with_reducible first | exact HB.out | apply below_alloc | apply pw_below_drewN | apply below_drew1) | exact HB.out)) hb); clear HB; have HB := n0_; clear n0_; (try clear hb); (try clear hb2); (try clear hk); (try clear hi)) | ((with_reducible refine gate_callee (f := 11) rfl ?_); refine goesL_ (some 15) rfl rfl Tryd.func11 (by kernel_rfl) rfl #[.string a0] rfl (by (try simp only [List.map_toArray, List.map_cons, List.map_nil]); first | done | rfl | (simp only [List.length_drop, List.length_take]; rfl)) ?_; (with_reducible refine (table_Take.calls a0 t129 t130 t131 _ ?lg A4.out).mono ?_); (case lg => exact (HG.out.below (by repeat (first | (with_reducible first | exact HB.out | apply below_alloc | apply pw_below_drewN | apply below_drew1) | exact HB.out)))); rintro e w23 ⟨rfl, hb⟩; refine ⟨_, rfl, ?_⟩; have n0_ := Aside0.mk (below_step (by repeat (first | (with_reducible first | exact HB.out | apply below_alloc | apply pw_below_drewN | apply below_drew1) | exact HB.out)) hb); clear HB; have HB := n0_; clear n0_; (try clear hb); (try clear hb2); (try clear hk); (try clear hi)))
        go_ret
        exact ⟨by first | rfl | (simp [errW_none, errW_some] <;> rfl) | (simp [*, errW_none, errW_some] <;> rfl), by repeat (first | (with_reducible first | exact HB.out | apply below_alloc | apply pw_below_drewN | apply below_drew1) | exact HB.out)⟩
      · rw [if_neg c21] at H
        have c21b0 : (t129.toList == ([] : List UInt8)) = false := beq_eq_false_iff_ne.mpr c21
        have c21b1 : (t129.toList != ([] : List UInt8)) = true := bne_iff_ne.mpr c21
        obtain rfl := Option.some.inj H
        go_enter Tryd.func3, Tryd.ntmps3
        go_wp2_with (first | ((with_reducible refine gate_callee (f := 10) rfl ?_); refine goesL_ (some 12) rfl rfl Tryd.func10 (by kernel_rfl) rfl #[] rfl (by (try simp only [List.map_toArray, List.map_cons, List.map_nil]); first | done | rfl | (simp only [List.length_drop, List.length_take]; rfl)) ?_; (with_reducible refine (interchangelaw03_shown.calls true _ ?lg A3.out).mono ?_); (case lg => exact (HG.out.below (by repeat (first | (with_reducible first | exact HB.out | apply below_alloc | apply pw_below_drewN | apply below_drew1) | exact HB.out)))); rintro e w24 ⟨rfl, hb⟩; refine ⟨_, rfl, ?_⟩; have n0_ := Aside0.mk (below_step (by repeat (first | (with_reducible first | exact HB.out | apply below_alloc | apply pw_below_drewN | apply below_drew1) | exact HB.out)) hb); clear HB; have HB := n0_; clear n0_; (try clear hb); (try clear hb2); (try clear hk); (try clear hi)) | ((with_reducible refine gate_callee (f := 11) rfl ?_); refine goesL_ (some 15) rfl rfl Tryd.func11 (by kernel_rfl) rfl #[.string a0] rfl (by (try simp only [List.map_toArray, List.map_cons, List.map_nil]); first | done | rfl | (simp only [List.length_drop, List.length_take]; rfl)) ?_; (with_reducible refine (table_Take.calls a0 t129 t130 t131 _ ?lg A4.out).mono ?_); (case lg => exact (HG.out.below (by repeat (first | (with_reducible first | exact HB.out | apply below_alloc | apply pw_below_drewN | apply below_drew1) | exact HB.out)))); rintro e w25 ⟨rfl, hb⟩; refine ⟨_, rfl, ?_⟩; have n0_ := Aside0.mk (below_step (by repeat (first | (with_reducible first | exact HB.out | apply below_alloc | apply pw_below_drewN | apply below_drew1) | exact HB.out)) hb); clear HB; have HB := n0_; clear n0_; (try clear hb); (try clear hb2); (try clear hk); (try clear hi)))
        go_ret
        exact ⟨by first | rfl | (simp [errW_none, errW_some] <;> rfl) | (simp [*, errW_none, errW_some] <;> rfl), by repeat (first | (with_reducible first | exact HB.out | apply below_alloc | apply pw_below_drewN | apply below_drew1) | exact HB.out)⟩
    · replace c20 := Bool.eq_false_iff.mpr c20
      subst c20
      have H1 : (some false) = some r := by rw [if_neg (show ¬ (false = true) by decide)] at H; exact H
      clear H
      have H := H1
      clear H1
      obtain rfl := Option.some.inj H
      go_enter Tryd.func3, Tryd.ntmps3
      go_wp2_with (first | ((with_reducible refine gate_callee (f := 10) rfl ?_); refine goesL_ (some 12) rfl rfl Tryd.func10 (by kernel_rfl) rfl #[] rfl (by (try simp only [List.map_toArray, List.map_cons, List.map_nil]); first | done | rfl | (simp only [List.length_drop, List.length_take]; rfl)) ?_; (with_reducible refine (interchangelaw03_shown.calls false _ ?lg A3.out).mono ?_); (case lg => exact (HG.out.below (by repeat (first | (with_reducible first | exact HB.out | apply below_alloc | apply pw_below_drewN | apply below_drew1) | exact HB.out)))); rintro e w26 ⟨rfl, hb⟩; refine ⟨_, rfl, ?_⟩; have n0_ := Aside0.mk (below_step (by repeat (first | (with_reducible first | exact HB.out | apply below_alloc | apply pw_below_drewN | apply below_drew1) | exact HB.out)) hb); clear HB; have HB := n0_; clear n0_; (try clear hb); (try clear hb2); (try clear hk); (try clear hi)) | ((with_reducible refine gate_callee (f := 11) rfl ?_); refine goesL_ (some 15) rfl rfl Tryd.func11 (by kernel_rfl) rfl #[.string a0] rfl (by (try simp only [List.map_toArray, List.map_cons, List.map_nil]); first | done | rfl | (simp only [List.length_drop, List.length_take]; rfl)) ?_; (with_reducible refine (table_Take.calls a0 t129 t130 t131 _ ?lg A4.out).mono ?_); (case lg => exact (HG.out.below (by repeat (first | (with_reducible first | exact HB.out | apply below_alloc | apply pw_below_drewN | apply below_drew1) | exact HB.out)))); rintro e w27 ⟨rfl, hb⟩; refine ⟨_, rfl, ?_⟩; have n0_ := Aside0.mk (below_step (by repeat (first | (with_reducible first | exact HB.out | apply below_alloc | apply pw_below_drewN | apply below_drew1) | exact HB.out)) hb); clear HB; have HB := n0_; clear n0_; (try clear hb); (try clear hb2); (try clear hk); (try clear hi)))
      go_ret
      exact ⟨by first | rfl | (simp [errW_none, errW_some] <;> rfl) | (simp [*, errW_none, errW_some] <;> rfl), by repeat (first | (with_reducible first | exact HB.out | apply below_alloc | apply pw_below_drewN | apply below_drew1) | exact HB.out)⟩


end Go.Proofs.YthdkmohelampbaaDoor.F
namespace Go.Proofs.YthdkmohelampbaaDoor.F
open Go.RowKit Go.Proofs.YthdkmohelampbaaDoorW.PrintWords Go.Proofs.YthdkmohelampbaaDoorW.PrintLast Go.Proofs.YthdkmohelampbaaDoorW.PrintMore
set_option linter.unusedVariables false
set_option linter.unusedSimpArgs false
theorem tab_pre {s : ByteArray} (h : (tabR s).2.1 = 0) : ∃ a, s = a ++ (tabR s).1 ∧ 4 ≤ a.size ∧ (∀ more, tabR (a ++ more) = (more, 0, (tabR s).2.2)) ∧ ∀ n, n < a.size → (tabR (a.extract 0 n)).2.1 = 2 := by
  simp only [tabR_eq] at h ⊢
  unfold withinR at h ⊢
  by_cases e : (ltakeR 4 s).2.2 = 0
  · rw [if_pos e] at h ⊢
    obtain ⟨h1, h2⟩ := take_lay e
    generalize (ltakeR 4 s).1 = x at h h1 h2 ⊢
    generalize (ltakeR 4 s).2.1 = r at h h2 ⊢
    have hx : x.size ≤ 4294967295 := by
      by_cases hx : x.size ≤ 4294967295
      · exact hx
      · rw [long_bad hx] at h1; exact absurd h1 (show ¬ (4 : Int) = 0 by decide)
    have hsz := long_size hx
    rw [if_pos (show (1 : Int) ≤ 32 by decide)] at h ⊢
    refine ⟨(layR 4 x).1, h2.symm, by omega, fun more => ?_, fun n hn => ?_⟩
    · rw [lay_take more h1]
      simp only at h ⊢
      rw [if_pos trivial, if_pos (show (1 : Int) ≤ 32 by decide), h]
    · have hj := extract_join (layR 4 x).1 n (by omega)
      have hq := extract_size' (layR 4 x).1 n
      generalize (layR 4 x).1.extract 0 n = p at hj ⊢
      generalize (layR 4 x).1.extract n (layR 4 x).1.size = q at hj hq
      by_cases ep : (ltakeR 4 p).2.2 = 0
      · exfalso
        obtain ⟨p1, p2⟩ := take_lay ep
        have l1 := lay_take ((ltakeR 4 p).2.1 ++ q) p1
        rw [← app_assoc, p2, hj] at l1
        have l2 := lay_take ⟨#[]⟩ h1
        rw [app_empty, l1] at l2
        have := congrArg (fun t : ByteArray × ByteArray × Int => t.2.1.size) l2
        simp only [size_append] at this
        have h0 : (⟨#[]⟩ : ByteArray).size = 0 := rfl
        omega
      · rw [if_neg ep, ltake_fail ep isW4]
  · rw [if_neg e] at h
    exact absurd h e
theorem taken_pre {s : ByteArray} {t : Tk} {a : ByteArray} (e : t.2.1 = 0) (h : s = a ++ t.1) : takenR s t = (a, t.1, 0) := by
  unfold takenR
  rw [if_pos e]
  have hs : s.size - t.1.size = a.size := by rw [h, size_append]; omega
  rw [hs, h, extract_app_left]
theorem tableCut_pure (b0 : ByteArray) (b1 : Int) (g0 : b0.size ≤ maxLen) (g1 : (Lit.int .i64 b1).wf = true) (hb : (fun a => a.size + 1) b0 + (fun _ => 1) b1 ≤ 1048576) : ∃ k, interchangelaw03_TableCut.f k b0 b1 = some true := by
  have hz : b0.size + 1 + 1 ≤ 1048576 := hb
  obtain ⟨k, hk⟩ : ∃ k : Nat, 100 ≤ k := ⟨100, Nat.le_refl _⟩
  obtain ⟨k, rfl⟩ : ∃ j, k = j + 1 := ⟨k - 1, by omega⟩
  refine ⟨k + 1, ?_⟩
  unfold interchangelaw03_TableCut.f
  have h1 : table_Take.f b0 = some (takenR b0 (tabR b0)) := by unfold table_Take.f; rw [if_pos (by omega)]
  rw [shown_t, Option.bind_some, h1, Option.bind_some]
  by_cases e : (tabR b0).2.1 = 0
  · obtain ⟨a, ha, h4, _, hp⟩ := tab_pre e
    rw [taken_pre e ha]
    generalize (tabR b0).1 = r at ha
    subst ha
    rw [size_append] at hz
    simp only
    rw [if_pos trivial, if_pos (by omega), if_pos trivial, interchangelaw03_TableCut.j0, if_neg (by rw [decide_eq_true_iff]; omega)]
    by_cases c1 : b1 < 0
    · rw [if_pos c1]
    rw [if_neg c1]
    by_cases c2 : b1 ≥ (a.size : Int)
    · rw [if_pos c2]
    rw [if_neg c2, if_pos (by omega), if_pos (by omega)]
    have h2 := hp b1.toNat (by omega)
    have hs := extract_size a b1.toNat (by omega)
    generalize a.extract 0 b1.toNat = p at h2 hs ⊢
    have h3 : table_Take.f p = some (takenR p (tabR p)) := by unfold table_Take.f; rw [if_pos (by omega)]
    rw [h3, Option.bind_some, if_pos rfl]
    unfold takenR
    rw [if_neg (by rw [h2]; decide), h2]
    rfl
  · unfold takenR
    rw [if_neg e]
    simp only
    rw [if_neg e, if_pos trivial, if_pos (by rw [toList_data])]
    rw [toList_data]
    rfl
end Go.Proofs.YthdkmohelampbaaDoor.F
namespace Go.Proofs.YthdkmohelampbaaDoor.F
open Go.RowKit Go.Proofs.YthdkmohelampbaaDoorW.PrintWords Go.Proofs.YthdkmohelampbaaDoorW.PrintLast Go.Proofs.YthdkmohelampbaaDoorW.PrintMore
set_option linter.unusedVariables false
set_option linter.unusedSimpArgs false
/-- the fields, as they are laid -/
def flatF : List ByteArray → List ByteArray → ByteArray
  | k :: ks, v :: vs => ((layR 1 k).1 ++ v) ++ flatF ks vs
  | _, _ => ⟨#[]⟩
theorem flatF_cons (k v : ByteArray) (ks vs : List ByteArray) : flatF (k :: ks) (v :: vs) = ((layR 1 k).1 ++ v) ++ flatF ks vs := rfl
theorem empty_app (a : ByteArray) : (⟨#[]⟩ : ByteArray) ++ a = a := eq_of_list (by rw [append_data]; simp)
theorem flatF_app : ∀ (k1 v1 k2 v2 : List ByteArray), k1.length = v1.length → flatF (k1 ++ k2) (v1 ++ v2) = flatF k1 v1 ++ flatF k2 v2
  | [], [], _, _, _ => (empty_app _).symm
  | k :: ks, v :: vs, k2, v2, h => by
    simp only [List.length_cons, Nat.add_right_cancel_iff] at h
    rw [List.cons_append, List.cons_append, flatF_cons, flatF_cons, flatF_app ks vs k2 v2 h, app_assoc _ (flatF ks vs)]
/-- may they be laid? -/
def okF (ks vs : List ByteArray) : Prop := (∀ k ∈ ks, k.size ≤ 255) ∧ ∀ v ∈ vs, IsVal v
theorem isVal_iff (v : ByteArray) : IsVal v ↔ (takenR v (tvalR v)).2.2 = 0 ∧ (takenR v (tvalR v)).2.1.size = 0 := by
  constructor
  · intro h
    rw [val_whole h]
    exact ⟨rfl, rfl⟩
  · rintro ⟨h1, h2⟩
    have h3 : (tvalR v).2.1 = 0 := by
      unfold takenR at h1
      by_cases e : (tvalR v).2.1 = 0
      · exact e
      · rw [if_neg e] at h1; exact h1
    obtain ⟨a, r, h4, h5, _⟩ := val_cut h3
    rw [h4] at h2
    have hr := ba_empty h2
    rw [show (a, r, (0 : Int)).2.1 = r from rfl] at hr
    subst hr
    rw [tval_eq] at h3
    obtain ⟨a', h6, h7⟩ := val_pre h3
    have h8 : (valT v 0 0).1 = ⟨#[]⟩ := by
      have := congrArg (fun t : ByteArray × ByteArray × Int => t.2.1) h4
      unfold takenR at this
      rw [if_pos (show (tvalR v).2.1 = 0 from h3)] at this
      exact this
    refine ⟨(valT v 0 0).2.2, ?_⟩
    rw [tval_eq]
    have : valT v 0 0 = ((valT v 0 0).1, (valT v 0 0).2.1, (valT v 0 0).2.2) := rfl
    rw [this, h8, h3]
theorem mkGo_ok : ∀ (ks vs : List ByteArray) (acc : ByteArray), ks.length = vs.length → ((mkGo ks vs acc).2 = 0 ↔ okF ks vs) ∧ ((mkGo ks vs acc).2 = 0 → (mkGo ks vs acc).1 = acc ++ flatF ks vs) ∧ (¬ (mkGo ks vs acc).2 = 0 → (mkGo ks vs acc).1 = ⟨#[]⟩)
  | [], [], acc, _ => ⟨⟨fun _ => ⟨fun _ h => absurd h List.not_mem_nil, fun _ h => absurd h List.not_mem_nil⟩, fun _ => rfl⟩, fun _ => (app_empty acc).symm, fun h => absurd rfl h⟩
  | k :: ks, v :: vs, acc, h => by
    simp only [List.length_cons, Nat.add_right_cancel_iff] at h
    rw [mkGo_cons]
    by_cases e1 : (layR 1 k).2 = 0
    · rw [if_pos e1]
      have e1' := (short_iff k).1 e1
      by_cases e2 : (takenR v (tvalR v)).2.2 = 0
      · rw [if_pos e2]
        by_cases e3 : (takenR v (tvalR v)).2.1.size = 0
        · rw [if_pos e3]
          have hv := (isVal_iff v).2 ⟨e2, e3⟩
          obtain ⟨h1, h2, h3⟩ := mkGo_ok ks vs (acc ++ ((layR 1 k).1 ++ v)) h
          refine ⟨⟨fun hh => ?_, fun hh => h1.2 ⟨fun q hq => hh.1 q (List.mem_cons_of_mem _ hq), fun q hq => hh.2 q (List.mem_cons_of_mem _ hq)⟩⟩, fun hh => ?_, h3⟩
          · obtain ⟨a, b⟩ := h1.1 hh
            exact ⟨fun q hq => (List.mem_cons.1 hq).elim (fun e => e ▸ e1') (a q), fun q hq => (List.mem_cons.1 hq).elim (fun e => e ▸ hv) (b q)⟩
          · rw [h2 hh, flatF_cons, app_assoc]
        · rw [if_neg e3]
          exact ⟨⟨fun hh => absurd hh (show ¬ (3 : Int) = 0 by decide), fun hh => absurd ((isVal_iff v).1 (hh.2 v (List.mem_cons_self ..))).2 e3⟩, fun hh => absurd hh (show ¬ (3 : Int) = 0 by decide), fun _ => rfl⟩
      · rw [if_neg e2]
        exact ⟨⟨fun hh => absurd hh e2, fun hh => absurd ((isVal_iff v).1 (hh.2 v (List.mem_cons_self ..))).1 e2⟩, fun hh => absurd hh e2, fun _ => rfl⟩
    · rw [if_neg e1]
      dsimp only
      exact ⟨⟨fun hh => absurd hh e1, fun hh => absurd ((short_iff k).2 (hh.1 k (List.mem_cons_self ..))) e1⟩, fun hh => absurd hh e1, fun _ => rfl⟩
/-- what is made: its text, or why not -/
theorem make_iff (ks vs : List ByteArray) (hz : (flatF ks vs).size ≤ 4294967295) :
    ((makeR ks vs).2 = 0 ↔ ks.length = vs.length ∧ okF ks vs ∧ wholeR (layR 4 (flatF ks vs)).1 = 0) ∧ ((makeR ks vs).2 = 0 → (makeR ks vs).1 = (layR 4 (flatF ks vs)).1) ∧ (¬ (makeR ks vs).2 = 0 → (makeR ks vs).1 = ⟨#[]⟩) := by
  unfold makeR
  by_cases e : ks.length = vs.length
  · rw [if_pos e]
    obtain ⟨h1, h2, h3⟩ := mkGo_ok ks vs ⟨#[]⟩ e
    have hl := long_zero hz
    rw [empty_app] at h2
    generalize mkGo ks vs ⟨#[]⟩ = g at h1 h2 h3 ⊢
    obtain ⟨g1, g2⟩ := g
    simp only at h1 h2 h3 ⊢
    by_cases e1 : g2 = 0
    · have h4 := h2 e1
      subst h4
      rw [if_pos e1]
      generalize layR 4 (flatF ks vs) = L at hl ⊢
      obtain ⟨l1, l2⟩ := L
      simp only at hl ⊢
      subst hl
      unfold closeR
      rw [if_pos rfl]
      dsimp only
      generalize wholeR l1 = q
      by_cases e2 : q = 0
      · rw [if_pos e2]
        exact ⟨⟨fun _ => ⟨e, h1.1 e1, e2⟩, fun _ => rfl⟩, fun _ => rfl, fun h => absurd rfl h⟩
      · rw [if_neg e2]
        exact ⟨⟨fun h => absurd h e2, fun h => absurd h.2.2 e2⟩, fun h => absurd h e2, fun _ => rfl⟩
    · rw [if_neg e1]
      exact ⟨⟨fun h => absurd h e1, fun h => absurd (h1.2 h.2.1) e1⟩, fun h => absurd h e1, fun _ => rfl⟩
  · rw [if_neg e]
    exact ⟨⟨fun h => absurd h (show ¬ (1 : Int) = 0 by decide), fun h => absurd h.1 e⟩, fun h => absurd h (show ¬ (1 : Int) = 0 by decide), fun _ => rfl⟩
/-- a value with something behind it -/
theorem val_more {v : ByteArray} (h : IsVal v) (more : ByteArray) : takenR (v ++ more) (tvalR (v ++ more)) = (v, more, 0) := by
  obtain ⟨d, h⟩ := h
  rw [tval_eq] at h ⊢
  obtain ⟨a, ha, hm⟩ := val_pre (s := v) (dep := 0) (d := 0) (by rw [h])
  rw [h] at ha hm
  rw [show ((⟨#[]⟩ : ByteArray), (0 : Int), d).1 = ⟨#[]⟩ from rfl, app_empty] at ha
  subst ha
  exact taken_pre (by rw [hm]) (by rw [hm]) |>.trans (by rw [hm])
/-- the fields are told again -/
theorem fld_flat : ∀ (ks vs : List ByteArray), ks.length = vs.length → okF ks vs → fldR (flatF ks vs) = ks.zip vs
  | [], [], _, _ => by rw [fldR_eq, if_pos (show (flatF [] []).size = 0 from rfl)]; rfl
  | k :: ks, v :: vs, h, ho => by
    simp only [List.length_cons, Nat.add_right_cancel_iff] at h
    have hk := (short_iff k).2 (ho.1 k (List.mem_cons_self ..))
    have hs := short_size (ho.1 k (List.mem_cons_self ..))
    have ih := fld_flat ks vs h ⟨fun q hq => ho.1 q (List.mem_cons_of_mem _ hq), fun q hq => ho.2 q (List.mem_cons_of_mem _ hq)⟩
    have hv := ho.2 v (List.mem_cons_self ..)
    rw [flatF_cons, app_assoc, fldR_eq, if_neg (by rw [size_append]; omega), List.zip_cons_cons]
    have ht : ltakeR 1 ((layR 1 k).1 ++ (v ++ flatF ks vs)) = (k, v ++ flatF ks vs, 0) := lay_take _ hk
    unfold keyAt valAt leftAt taken1
    rw [ht]
    simp only
    rw [val_more hv, ih]
/-- a value with something behind it, in a table -/
def Shallow (v : ByteArray) : Prop := (valT v 1 1).2.1 = 0
theorem app_cancel {a b c : ByteArray} (h : a ++ c = b ++ c) : a = b := by
  have h1 := congrArg (fun t : ByteArray => t.data.toList) h
  simp only [append_data] at h1
  exact eq_of_list (List.append_cancel_right h1)
theorem val_one {v : ByteArray} (h : IsVal v) (more : ByteArray) (d : Int) : ((valT (v ++ more) 1 d).2.1 = 0 ↔ Shallow v) ∧ ((valT (v ++ more) 1 d).2.1 = 0 → (valT (v ++ more) 1 d).1 = more) := by
  obtain ⟨q, h⟩ := h
  rw [tval_eq] at h
  obtain ⟨a, ha, hm⟩ := val_pre (s := v) (dep := 0) (d := 0) (by rw [h])
  rw [h] at ha hm
  rw [show ((⟨#[]⟩ : ByteArray), (0 : Int), q).1 = ⟨#[]⟩ from rfl, app_empty] at ha
  subst ha
  have key : ∀ (m m' : ByteArray) (d d' : Int), (valT (v ++ m) 1 d).2.1 = 0 → (valT (v ++ m) 1 d).1 = m ∧ (valT (v ++ m') 1 d').2.1 = 0 := by
    intro m m' d d' h1
    obtain ⟨h2, h3⟩ := val_shal _ _ 1 0 d 0 (Nat.lt_succ_self _) (by decide) h1
    rw [hm m] at h3
    have h4 : (valT (v ++ m) 1 d).1 = m := h3.symm
    refine ⟨h4, ?_⟩
    obtain ⟨a, ha, hm2⟩ := val_pre h1
    rw [h4] at ha
    have := app_cancel ha
    subst this
    have h5 := hm2 m'
    have h6 : (valT (v ++ m') 1 d).2.1 = 0 := by rw [h5]
    exact (val_shal _ _ 1 1 d d' (Nat.lt_succ_self _) (Int.le_refl _) h6).1
  refine ⟨⟨fun h1 => ?_, fun h1 => ?_⟩, fun h1 => (key more more d d h1).1⟩
  · have := (key more ⟨#[]⟩ d 1 h1).2
    rw [app_empty] at this
    exact this
  · unfold Shallow at h1
    rw [← app_empty v] at h1
    exact (key ⟨#[]⟩ more 1 d h1).2
theorem items_nil (k : Nat) (d : Int) : (itemsR (fieldR valT) k ⟨#[]⟩ 1 d).1 = 0 := by
  cases k with
  | zero => rfl
  | succ k => rw [itemsR, if_pos (show (⟨#[]⟩ : ByteArray).size = 0 from rfl)]
theorem items_flat (ks : List ByteArray) : ∀ (vs : List ByteArray) (k : Nat) (d : Int), ks.length = vs.length → okF ks vs → (flatF ks vs).size ≤ k → ((itemsR (fieldR valT) k (flatF ks vs) 1 d).1 = 0 ↔ ∀ v ∈ vs, Shallow v) := by
  induction ks with
  | nil =>
    intro vs k d h _ _
    cases vs with
    | cons v vs => simp at h
    | nil => exact ⟨fun _ _ h => absurd h List.not_mem_nil, fun _ => items_nil k d⟩
  | cons k1 ks ih0 =>
    intro vs k d h ho hz
    obtain ⟨v, vs, rfl⟩ : ∃ v vs', vs = v :: vs' := by cases vs with
      | nil => simp at h
      | cons v vs => exact ⟨v, vs, rfl⟩
    simp only [List.length_cons, Nat.add_right_cancel_iff] at h
    have hk := (short_iff k1).2 (ho.1 k1 (List.mem_cons_self ..))
    have hs := short_size (ho.1 k1 (List.mem_cons_self ..))
    have hv := ho.2 v (List.mem_cons_self ..)
    have ho' : okF ks vs := ⟨fun q hq => ho.1 q (List.mem_cons_of_mem _ hq), fun q hq => ho.2 q (List.mem_cons_of_mem _ hq)⟩
    rw [flatF_cons] at hz ⊢
    have hsz := hz
    rw [size_append, size_append] at hsz
    obtain ⟨k, rfl⟩ : ∃ j, k = j + 1 := ⟨k - 1, by omega⟩
    have ht : ltakeR 1 ((layR 1 k1).1 ++ (v ++ flatF ks vs)) = (k1, v ++ flatF ks vs, 0) := lay_take _ hk
    have hf : fieldR valT ((layR 1 k1).1 ++ (v ++ flatF ks vs)) 1 d = valT (v ++ flatF ks vs) 1 d := by
      unfold fieldR
      rw [ht]
      rfl
    obtain ⟨p1, p2⟩ := val_one hv (flatF ks vs) d
    rw [app_assoc, itemsR, if_neg (by rw [size_append]; omega), hf]
    by_cases e : (valT (v ++ flatF ks vs) 1 d).2.1 = 0
    · have p3 := p2 e
      have ih := ih0 vs k (valT (v ++ flatF ks vs) 1 d).2.2 h ho' (by omega)
      rw [e, if_pos (show (if (0 : Int) = 2 then (3 : Int) else 0) = 0 by decide), p3, ih]
      exact ⟨fun hh q hq => (List.mem_cons.1 hq).elim (fun e' => e' ▸ p1.1 e) (hh q), fun hh q hq => hh q (List.mem_cons_of_mem _ hq)⟩
    · have hne : ¬ (if (valT (v ++ flatF ks vs) 1 d).2.1 = 2 then 3 else (valT (v ++ flatF ks vs) 1 d).2.1) = 0 := by
        by_cases e2 : (valT (v ++ flatF ks vs) 1 d).2.1 = 2
        · rw [if_pos e2]; decide
        · rw [if_neg e2]; exact e
      rw [if_neg hne]
      exact ⟨fun hh => absurd hh hne, fun hh => absurd (p1.2 (hh v (List.mem_cons_self ..))) e⟩
theorem whole_flat (ks vs : List ByteArray) (h : ks.length = vs.length) (ho : okF ks vs) (hz : (flatF ks vs).size ≤ 4294967295) : wholeR (layR 4 (flatF ks vs)).1 = 0 ↔ ∀ v ∈ vs, Shallow v := by
  have hl := long_zero hz
  have ht := lay_take (n := 4) ⟨#[]⟩ hl
  rw [app_empty] at ht
  have hi := items_flat ks vs (flatF ks vs).size 1 h ho (Nat.le_refl _)
  rw [← hi]
  unfold wholeR
  rw [tabR_eq]
  unfold withinR
  rw [ht]
  simp only
  rw [if_pos trivial, if_pos (show (1 : Int) ≤ 32 by decide), if_pos (show (0 : Int) < 1 by decide)]
  simp only
  by_cases e : (itemsR (fieldR valT) (flatF ks vs).size (flatF ks vs) 1 1).1 = 0
  · rw [if_pos e]
    exact ⟨fun _ => e, fun _ => rfl⟩
  · rw [if_neg e]
theorem sumB_app (a b : List ByteArray) : sumB (a ++ b) = sumB a + sumB b := by unfold sumB; rw [List.map_append, List.sum_append]
theorem flat_size : ∀ (ks vs : List ByteArray), (flatF ks vs).size ≤ sumB ks + sumB vs + 8 * ks.length
  | [], [] => by decide
  | [], v :: vs => by simp [flatF]; exact Nat.zero_le _
  | k :: ks, [] => Nat.zero_le _
  | k :: ks, v :: vs => by
    have := flat_size ks vs
    have hl := lay_size 1 k
    rw [flatF_cons, size_append, size_append, sumB_cons, sumB_cons, List.length_cons]
    omega
end Go.Proofs.YthdkmohelampbaaDoor.F
namespace Go.Proofs.YthdkmohelampbaaDoor.F
open Go.RowKit Go.Proofs.YthdkmohelampbaaDoorW.PrintWords Go.Proofs.YthdkmohelampbaaDoorW.PrintLast Go.Proofs.YthdkmohelampbaaDoorW.PrintMore
set_option linter.unusedVariables false
set_option linter.unusedSimpArgs false
/-- alike: the same error; where there is none, the same rest, and how deep -/
def Alike (d : Int) (t : Tk) (r : Rk) : Prop := t.2.1 = r.2.2 ∧ (t.2.1 = 0 → t.1 = r.1 ∧ t.2.2 = max d r.2.1)
def rOne (val : ByteArray → Int → Rk) (fields : Bool) (s : ByteArray) (depth : Int) : Rk := if fields = true ∧ ¬ (ltakeR 1 s).2.2 = 0 then (⟨#[]⟩, 0, 2) else val (if fields = true then (ltakeR 1 s).2.1 else s) depth
theorem rItems_succ (val : ByteArray → Int → Rk) (fields : Bool) (depth : Int) (k : Nat) (s : ByteArray) (dp : Int) : rItems val fields depth (k + 1) s dp = if s.size = 0 then (dp, 0) else
    if (if (rOne val fields s depth).2.2 = 2 then 3 else (rOne val fields s depth).2.2) = 0 then rItems val fields depth k (rOne val fields s depth).1 (if dp < (rOne val fields s depth).2.1 then (rOne val fields s depth).2.1 else dp)
    else (0, if (rOne val fields s depth).2.2 = 2 then 3 else (rOne val fields s depth).2.2) := by
  rw [rItems]
  unfold rOne
  by_cases e : s.size = 0
  · rw [if_pos e, if_pos e]
  · rw [if_neg e, if_neg e]
    by_cases c : fields = true ∧ ¬ (ltakeR 1 s).2.2 = 0
    · simp only [if_pos c]
      rfl
    · simp only [if_neg c]
theorem items_alike {one : ByteArray → Int → Int → Tk} {val : ByteArray → Int → Rk} {fields : Bool} (hl : Less one) {dep : Int} : ∀ (k : Nat) (s : ByteArray) (d dp : Int), dp ≤ d → dep ≤ dp → (∀ i d, i.size ≤ s.size → dep ≤ d → Alike d (one i dep d) (rOne val fields i dep)) →
    (itemsR one k s dep d).1 = (rItems val fields dep k s dp).2 ∧ ((itemsR one k s dep d).1 = 0 → dp ≤ (rItems val fields dep k s dp).1 ∧ (itemsR one k s dep d).2 = max d (rItems val fields dep k s dp).1)
  | 0, s, d, dp, h, _, _ => ⟨rfl, fun _ => ⟨Int.le_refl _, by show d = max d dp; omega⟩⟩
  | k + 1, s, d, dp, h, h1, H => by
    rw [itemsR, rItems_succ]
    by_cases e : s.size = 0
    · rw [if_pos e, if_pos e]
      exact ⟨rfl, fun _ => ⟨Int.le_refl _, by show d = max d dp; omega⟩⟩
    · rw [if_neg e, if_neg e]
      obtain ⟨a1, a2⟩ := H s d (Nat.le_refl _) (by omega)
      have hls := hl s dep d
      generalize rOne val fields s dep = r at a1 a2 ⊢
      generalize one s dep d = t at a1 a2 hls ⊢
      obtain ⟨t1, t2, t3⟩ := t
      obtain ⟨r1, r2, r3⟩ := r
      simp only at a1 a2 hls ⊢
      subst a1
      by_cases e0 : t2 = 0
      · subst e0
        obtain ⟨rfl, rfl⟩ := a2 rfl
        replace hls := hls rfl
        rw [if_pos (show (if (0 : Int) = 2 then (3 : Int) else 0) = 0 by decide), if_pos (show (if (0 : Int) = 2 then (3 : Int) else 0) = 0 by decide)]
        obtain ⟨m, hm⟩ : ∃ m : Int, m = if dp < r2 then r2 else dp := ⟨_, rfl⟩
        have hm1 : dp ≤ m ∧ r2 ≤ m ∧ m ≤ max d r2 := by rw [hm]; split <;> omega
        rw [← hm]
        obtain ⟨b1, b2⟩ := items_alike hl k t1 (max d r2) m (by omega) (by omega) (fun i d hi hd => H i d (by omega) hd)
        refine ⟨b1, fun h0 => ?_⟩
        obtain ⟨c1, c2⟩ := b2 h0
        exact ⟨by omega, by omega⟩
      · by_cases e2 : t2 = 2
        · subst e2
          exact ⟨rfl, fun h => absurd h (show ¬ (3 : Int) = 0 by decide)⟩
        · rw [if_neg e2, if_neg e0, if_neg e0]
          exact ⟨rfl, fun h => absurd h e0⟩
theorem within_alike {one : ByteArray → Int → Int → Tk} {val : ByteArray → Int → Rk} {fields : Bool} (hl : Less one) {s : ByteArray} {dep d : Int} (hd : dep ≤ d)
    (H : ∀ i d', i.size ≤ (ltakeR 4 s).1.size → dep + 1 ≤ d' → Alike d' (one i (dep + 1) d') (rOne val fields i (dep + 1))) :
    Alike d (withinR one s (dep + 1) d) (if (ltakeR 4 s).2.2 = 0 then (if 32 ≤ dep then (⟨#[]⟩, 0, 5) else ((ltakeR 4 s).2.1, (rRow val (ltakeR 4 s).1 (dep + 1) fields).1, (rRow val (ltakeR 4 s).1 (dep + 1) fields).2)) else (⟨#[]⟩, 0, 2)) := by
  unfold withinR rRow Alike
  by_cases e : (ltakeR 4 s).2.2 = 0
  · have hs := ltake_less e (by decide) isW4
    rw [if_pos e, if_pos e]
    by_cases c : 32 ≤ dep
    · rw [if_pos c, if_neg (show ¬ dep + 1 ≤ 32 by omega)]
      exact ⟨rfl, fun h => absurd h (show ¬ (5 : Int) = 0 by decide)⟩
    · rw [if_neg c, if_pos (show dep + 1 ≤ 32 by omega)]
      obtain ⟨m, hm⟩ : ∃ m : Int, m = if d < dep + 1 then dep + 1 else d := ⟨_, rfl⟩
      have hm1 : dep + 1 ≤ m ∧ m = max d (dep + 1) := by rw [hm]; split <;> omega
      rw [← hm]
      obtain ⟨b1, b2⟩ := items_alike (val := val) (fields := fields) hl (ltakeR 4 s).1.size (ltakeR 4 s).1 m (dep + 1) hm1.1 (Int.le_refl _) (fun i d' hi hd' => H i d' hi hd')
      refine ⟨b1, fun h => ⟨rfl, ?_⟩⟩
      obtain ⟨c1, c2⟩ := b2 h
      show (itemsR one (ltakeR 4 s).1.size (ltakeR 4 s).1 (dep + 1) m).2 = max d (rItems val fields (dep + 1) (ltakeR 4 s).1.size (ltakeR 4 s).1 (dep + 1)).1
      omega
  · rw [if_neg e, if_neg e, ltake_fail e isW4]
    exact ⟨rfl, fun h => absurd h (show ¬ (2 : Int) = 0 by decide)⟩
theorem one_alike {val : ByteArray → Int → Rk} {s : ByteArray} {dep d : Int} (H : ∀ i, i.size ≤ s.size → Alike d (valT i dep d) (val i dep)) : Alike d (fieldR valT s dep d) (rOne val true s dep) := by
  unfold fieldR rOne
  by_cases e : (ltakeR 1 s).2.2 = 0
  · rw [if_pos e, if_neg (fun h => h.2 e), if_pos rfl]
    exact H _ (ltake_size 1 s).2
  · rw [if_neg e, if_pos ⟨rfl, e⟩, ltake_fail e isW1]
    exact ⟨rfl, fun h => absurd h (show ¬ (2 : Int) = 0 by decide)⟩
theorem one_alike' {val : ByteArray → Int → Rk} {s : ByteArray} {dep d : Int} (H : Alike d (valT s dep d) (val s dep)) : Alike d (valT s dep d) (rOne val false s dep) := by
  unfold rOne
  rw [if_neg (fun h => Bool.noConfusion h.1), if_neg (by decide)]
  exact H
theorem val_alike : ∀ (n k : Nat) (s : ByteArray) (dep d : Int), s.size < n → s.size < k → dep ≤ d → Alike d (valT s dep d) (rVal k s dep) := by
  intro n
  induction n with
  | zero => intro k s dep d h; omega
  | succ n ih =>
    intro k s dep d hn hk hd
    obtain ⟨k, rfl⟩ : ∃ j, k = j + 1 := ⟨k - 1, by omega⟩
    rw [valT_eq, rVal]
    by_cases e : s.size = 0
    · rw [if_pos e, if_pos e]
      exact ⟨rfl, fun h => absurd h (show ¬ (2 : Int) = 0 by decide)⟩
    have ht := tail_size e
    have hl4 := (ltake_size 4 (tailOf s)).1
    rw [if_neg e, if_neg e]
    cases hs : sizeU (kindOf s) with
    | some m =>
      simp only
      unfold skipR
      by_cases c : s.size < 1 + m
      · rw [if_pos c, if_neg (by omega)]
        exact ⟨rfl, fun h => absurd h (show ¬ (2 : Int) = 0 by decide)⟩
      · rw [if_neg c, if_pos (by omega)]
        refine ⟨rfl, fun _ => ⟨?_, by show d = max d dep; omega⟩⟩
        show (tailOf s).extract m (tailOf s).size = s.extract (1 + m) s.size
        unfold tailOf
        exact eq_of_list (by rw [extract_drop, toBA_list, extract_drop, toBA_list, extract_drop, toBA_list, List.drop_drop])
    | none =>
      simp only
      by_cases c1 : kindOf s = 83 ∨ kindOf s = 120
      · rw [if_pos c1, if_pos c1]
        by_cases el : (ltakeR 4 (tailOf s)).2.2 = 0
        · rw [if_pos el]
          exact ⟨el, fun _ => ⟨rfl, by show d = max d dep; omega⟩⟩
        · rw [if_neg el, ltake_fail el isW4]
          exact ⟨rfl, fun h => absurd h (show ¬ (2 : Int) = 0 by decide)⟩
      · rw [if_neg c1, if_neg c1]
        by_cases c2 : kindOf s = 65
        · rw [if_pos c2, if_pos c2]
          exact within_alike valT_less hd (fun i d' hi hd' => one_alike' (ih k i _ d' (by omega) (by omega) hd'))
        · rw [if_neg c2, if_neg c2]
          by_cases c3 : kindOf s = 70
          · rw [if_pos c3, if_pos c3]
            exact within_alike (field_less valT_less) hd (fun i d' hi hd' => one_alike (fun i2 hi2 => ih k i2 _ d' (by omega) (by omega) hd'))
          · rw [if_neg c3, if_neg c3]
            exact ⟨rfl, fun h => absurd h (show ¬ (3 : Int) = 0 by decide)⟩
end Go.Proofs.YthdkmohelampbaaDoor.F
namespace Go.Proofs.YthdkmohelampbaaDoor.F
open Go.RowKit Go.Proofs.YthdkmohelampbaaDoorW.PrintWords Go.Proofs.YthdkmohelampbaaDoorW.PrintLast Go.Proofs.YthdkmohelampbaaDoorW.PrintMore
attribute [local go_sem] max2_int min2_int max_two min_two max_three min_three max_four min_four
set_option linter.unusedVariables false
set_option linter.unusedSimpArgs false

/-! ### interchangeref03_Take: function 19 -/
def interchangeref03_Take.f (k : Nat) (a0 : ByteArray) : Option (ByteArray × ByteArray × Int) := (interchangeref03_table.f k a0).bind fun bt224 => (if bt224.2.2 = 0 then (if 0 ≤ (wrap64 ((a0.size : Int) - (bt224.1.size : Int))) then (if (wrap64 ((a0.size : Int) - (bt224.1.size : Int))) ≤ (a0.size : Int) then (some (a0.extract 0 ((wrap64 ((a0.size : Int) - (bt224.1.size : Int))) : Int).toNat, bt224.1, 0)) else (none)) else (none)) else (some ((⟨#[]⟩ : ByteArray), (⟨#[]⟩ : ByteArray), bt224.2.2)))
theorem interchangeref03_Take.mono : ∀ a0 k, LeO (interchangeref03_Take.f k a0) (interchangeref03_Take.f (k + 1) a0) := by
  intro a0 k
  unfold interchangeref03_Take.f
  repeat' first
      | (with_reducible exact interchangeref03_table.mono _ _)
      | (with_reducible exact LeO.refl _)
      | (with_reducible exact LeO.none _)
      | (with_reducible refine LeO.ite ?_ ?_)
      | (with_reducible refine LeO.bind ?_ (fun _ => ?_))
      | exact interchangeref03_table.mono _ _
      | exact LeO.none _
      | refine LeO.ite ?_ ?_
      | refine LeO.bind ?_ (fun _ => ?_)
set_option maxHeartbeats 8000000 in
set_option maxRecDepth 100000 in
theorem interchangeref03_Take.calls (k : Nat) (a0 : ByteArray) (r1 : ByteArray) (r2 : ByteArray) (r3 : Int) (w : World) (h : interchangeref03_Take.f k a0 = some (r1, r2, r3)) :
    Calls Tryd.prog 19 #[.string a0] w fun e w' => e = .returned (.tuple #[.string r1, .string r2, .int .i64 r3]) ∧ Drawn0 w w' := by
  have H : ((interchangeref03_table.f k a0).bind fun bt224 => (if bt224.2.2 = 0 then (if 0 ≤ (wrap64 ((a0.size : Int) - (bt224.1.size : Int))) then (if (wrap64 ((a0.size : Int) - (bt224.1.size : Int))) ≤ (a0.size : Int) then (some (a0.extract 0 ((wrap64 ((a0.size : Int) - (bt224.1.size : Int))) : Int).toNat, bt224.1, 0)) else (none)) else (none)) else (some ((⟨#[]⟩ : ByteArray), (⟨#[]⟩ : ByteArray), bt224.2.2)))) = some (r1, r2, r3) := h
  clear h
  replace H := Option.bind_eq_some_iff.mp H
  obtain ⟨⟨t224, t225, t226⟩, A20, H⟩ := H
  replace H : (if t226 = 0 then (if 0 ≤ (wrap64 ((a0.size : Int) - (t224.size : Int))) then (if (wrap64 ((a0.size : Int) - (t224.size : Int))) ≤ (a0.size : Int) then (some (a0.extract 0 ((wrap64 ((a0.size : Int) - (t224.size : Int))) : Int).toNat, t224, 0)) else (none)) else (none)) else (some ((⟨#[]⟩ : ByteArray), (⟨#[]⟩ : ByteArray), t226))) = some (r1, r2, r3) := H
  have A2 := Aside0.mk A20
  clear A20
  by_cases c3 : t226 = 0
  · rw [if_pos c3] at H
    have c3b0 : (t226 == 0) = true := beq_iff_eq.mpr c3
    have c3b1 : (t226 != 0) = false := bne_eq_false_iff_eq.mpr c3
    clear c3
    obtain ⟨ji4, hji4⟩ : ∃ j_ : Int, (wrap64 ((a0.size : Int) - (t224.size : Int))) = j_ := ⟨_, rfl⟩
    replace H : (if 0 ≤ (ji4) then (if (ji4) ≤ (a0.size : Int) then (some (a0.extract 0 ((ji4) : Int).toNat, t224, 0)) else (none)) else (none)) = some (r1, r2, r3) := by first | (rw [hji4] at H; exact H) | (simp only [hji4] at H ⊢; exact H)
    (try rw [hji4] at A2)
    have hji4w : (IntKind.i64.wrap ((a0.size : Int) - (t224.size : Int))) = ji4 := (i64_w _).trans hji4
    by_cases c5 : 0 ≤ (ji4)
    · rw [if_pos c5] at H
      have c5b0 := eq_true c5
      have c5b1 : decide (0 ≤ (ji4)) = true := decide_eq_true c5
      clear c5
      by_cases c6 : (ji4) ≤ (a0.size : Int)
      · rw [if_pos c6] at H
        have c6b0 := eq_true c6
        have c6b1 : decide ((ji4) ≤ (a0.size : Int)) = true := decide_eq_true c6
        clear c6
        simp only [Option.some.injEq, Prod.mk.injEq] at H
        obtain ⟨rfl, rfl, rfl⟩ := H
        go_enter Tryd.func19, Tryd.ntmps19
        go_wp2_with (first | ((with_reducible refine gate_callee (f := 32) rfl ?_); refine goesL_ (some 10) rfl rfl Tryd.func32 (by kernel_rfl) rfl #[.string a0] rfl (by (try simp only [List.map_toArray, List.map_cons, List.map_nil]); first | done | rfl | (simp only [List.length_drop, List.length_take]; rfl)) ?_; (with_reducible refine (interchangeref03_table.calls k a0 t224 t225 t226 _ A2.out).mono ?_); rintro e w' ⟨rfl, ⟨nd, rfl⟩⟩; refine ⟨_, rfl, ?_⟩))
        go_ret3
        exact ⟨by first | rfl | (simp; done) | (simp only [← hji4] <;> (first | rfl | simp)) | (simp [*]; done), by repeat (first | exact Drawn0.refl _ | apply Drawn0.step)⟩
      · rw [if_neg c6] at H
        exact absurd H (by simp)
    · rw [if_neg c5] at H
      exact absurd H (by simp)
  · rw [if_neg c3] at H
    have c3b0 : (t226 == 0) = false := beq_eq_false_iff_ne.mpr c3
    have c3b1 : (t226 != 0) = true := bne_iff_ne.mpr c3
    simp only [Option.some.injEq, Prod.mk.injEq] at H
    obtain ⟨rfl, rfl, rfl⟩ := H
    go_enter Tryd.func19, Tryd.ntmps19
    go_wp2_with (first | ((with_reducible refine gate_callee (f := 32) rfl ?_); refine goesL_ (some 10) rfl rfl Tryd.func32 (by kernel_rfl) rfl #[.string a0] rfl (by (try simp only [List.map_toArray, List.map_cons, List.map_nil]); first | done | rfl | (simp only [List.length_drop, List.length_take]; rfl)) ?_; (with_reducible refine (interchangeref03_table.calls k a0 t224 t225 t226 _ A2.out).mono ?_); rintro e w' ⟨rfl, ⟨nd, rfl⟩⟩; refine ⟨_, rfl, ?_⟩))
    go_ret3
    exact ⟨by first | rfl | (simp; done) | (simp [*]; done), by repeat (first | exact Drawn0.refl _ | apply Drawn0.step)⟩


end Go.Proofs.YthdkmohelampbaaDoor.F
namespace Go.Proofs.YthdkmohelampbaaDoor.F
open Go.RowKit Go.Proofs.YthdkmohelampbaaDoorW.PrintWords Go.Proofs.YthdkmohelampbaaDoorW.PrintLast Go.Proofs.YthdkmohelampbaaDoorW.PrintMore
attribute [local go_sem] max2_int min2_int max_two min_two max_three min_three max_four min_four
set_option linter.unusedVariables false
set_option linter.unusedSimpArgs false

/-! ### interchangeref03_Value: function 20 -/
def interchangeref03_Value.f (a0 : ByteArray) : Option (ByteArray × ByteArray × Int) := (interchangeref03_value.f a0 0).bind fun bt227 => (if bt227.2.2 = 0 then (if 0 ≤ (wrap64 ((a0.size : Int) - (bt227.1.size : Int))) then (if (wrap64 ((a0.size : Int) - (bt227.1.size : Int))) ≤ (a0.size : Int) then (some (a0.extract 0 ((wrap64 ((a0.size : Int) - (bt227.1.size : Int))) : Int).toNat, bt227.1, 0)) else (none)) else (none)) else (some ((⟨#[]⟩ : ByteArray), (⟨#[]⟩ : ByteArray), bt227.2.2)))
set_option maxHeartbeats 8000000 in
set_option maxRecDepth 100000 in
theorem interchangeref03_Value.calls (a0 : ByteArray) (r1 : ByteArray) (r2 : ByteArray) (r3 : Int) (w : World) (h : interchangeref03_Value.f a0 = some (r1, r2, r3)) :
    Calls Tryd.prog 20 #[.string a0] w fun e w' => e = .returned (.tuple #[.string r1, .string r2, .int .i64 r3]) ∧ Drawn0 w w' := by
  have H : ((interchangeref03_value.f a0 0).bind fun bt227 => (if bt227.2.2 = 0 then (if 0 ≤ (wrap64 ((a0.size : Int) - (bt227.1.size : Int))) then (if (wrap64 ((a0.size : Int) - (bt227.1.size : Int))) ≤ (a0.size : Int) then (some (a0.extract 0 ((wrap64 ((a0.size : Int) - (bt227.1.size : Int))) : Int).toNat, bt227.1, 0)) else (none)) else (none)) else (some ((⟨#[]⟩ : ByteArray), (⟨#[]⟩ : ByteArray), bt227.2.2)))) = some (r1, r2, r3) := h
  clear h
  replace H := Option.bind_eq_some_iff.mp H
  obtain ⟨⟨t227, t228, t229⟩, A20, H⟩ := H
  replace H : (if t229 = 0 then (if 0 ≤ (wrap64 ((a0.size : Int) - (t227.size : Int))) then (if (wrap64 ((a0.size : Int) - (t227.size : Int))) ≤ (a0.size : Int) then (some (a0.extract 0 ((wrap64 ((a0.size : Int) - (t227.size : Int))) : Int).toNat, t227, 0)) else (none)) else (none)) else (some ((⟨#[]⟩ : ByteArray), (⟨#[]⟩ : ByteArray), t229))) = some (r1, r2, r3) := H
  have A2 := Aside0.mk A20
  clear A20
  by_cases c3 : t229 = 0
  · rw [if_pos c3] at H
    have c3b0 : (t229 == 0) = true := beq_iff_eq.mpr c3
    have c3b1 : (t229 != 0) = false := bne_eq_false_iff_eq.mpr c3
    clear c3
    obtain ⟨ji4, hji4⟩ : ∃ j_ : Int, (wrap64 ((a0.size : Int) - (t227.size : Int))) = j_ := ⟨_, rfl⟩
    replace H : (if 0 ≤ (ji4) then (if (ji4) ≤ (a0.size : Int) then (some (a0.extract 0 ((ji4) : Int).toNat, t227, 0)) else (none)) else (none)) = some (r1, r2, r3) := by first | (rw [hji4] at H; exact H) | (simp only [hji4] at H ⊢; exact H)
    (try rw [hji4] at A2)
    have hji4w : (IntKind.i64.wrap ((a0.size : Int) - (t227.size : Int))) = ji4 := (i64_w _).trans hji4
    by_cases c5 : 0 ≤ (ji4)
    · rw [if_pos c5] at H
      have c5b0 := eq_true c5
      have c5b1 : decide (0 ≤ (ji4)) = true := decide_eq_true c5
      clear c5
      by_cases c6 : (ji4) ≤ (a0.size : Int)
      · rw [if_pos c6] at H
        have c6b0 := eq_true c6
        have c6b1 : decide ((ji4) ≤ (a0.size : Int)) = true := decide_eq_true c6
        clear c6
        simp only [Option.some.injEq, Prod.mk.injEq] at H
        obtain ⟨rfl, rfl, rfl⟩ := H
        go_enter Tryd.func20, Tryd.ntmps20
        go_wp2_with (first | ((with_reducible refine gate_callee (f := 35) rfl ?_); refine goesL_ (some 10) rfl rfl Tryd.func35 (by kernel_rfl) rfl #[.string a0, .int .i64 0] rfl (by (try simp only [List.map_toArray, List.map_cons, List.map_nil]); first | done | rfl | (simp only [List.length_drop, List.length_take]; rfl)) ?_; (with_reducible refine (interchangeref03_value.calls a0 0 t227 t228 t229 _ A2.out).mono ?_); rintro e w' ⟨rfl, ⟨nd, rfl⟩⟩; refine ⟨_, rfl, ?_⟩))
        go_ret3
        exact ⟨by first | rfl | (simp; done) | (simp only [← hji4] <;> (first | rfl | simp)) | (simp [*]; done), by repeat (first | exact Drawn0.refl _ | apply Drawn0.step)⟩
      · rw [if_neg c6] at H
        exact absurd H (by simp)
    · rw [if_neg c5] at H
      exact absurd H (by simp)
  · rw [if_neg c3] at H
    have c3b0 : (t229 == 0) = false := beq_eq_false_iff_ne.mpr c3
    have c3b1 : (t229 != 0) = true := bne_iff_ne.mpr c3
    simp only [Option.some.injEq, Prod.mk.injEq] at H
    obtain ⟨rfl, rfl, rfl⟩ := H
    go_enter Tryd.func20, Tryd.ntmps20
    go_wp2_with (first | ((with_reducible refine gate_callee (f := 35) rfl ?_); refine goesL_ (some 10) rfl rfl Tryd.func35 (by kernel_rfl) rfl #[.string a0, .int .i64 0] rfl (by (try simp only [List.map_toArray, List.map_cons, List.map_nil]); first | done | rfl | (simp only [List.length_drop, List.length_take]; rfl)) ?_; (with_reducible refine (interchangeref03_value.calls a0 0 t227 t228 t229 _ A2.out).mono ?_); rintro e w' ⟨rfl, ⟨nd, rfl⟩⟩; refine ⟨_, rfl, ?_⟩))
    go_ret3
    exact ⟨by first | rfl | (simp; done) | (simp [*]; done), by repeat (first | exact Drawn0.refl _ | apply Drawn0.step)⟩


end Go.Proofs.YthdkmohelampbaaDoor.F
namespace Go.Proofs.YthdkmohelampbaaDoor.F
open Go.RowKit Go.Proofs.YthdkmohelampbaaDoorW.PrintWords Go.Proofs.YthdkmohelampbaaDoorW.PrintLast Go.Proofs.YthdkmohelampbaaDoorW.PrintMore
attribute [local go_sem] max2_int min2_int max_two min_two max_three min_three max_four min_four
set_option linter.unusedVariables false
set_option linter.unusedSimpArgs false

/-! ### interchangeref03_both: function 36 -/
def interchangeref03_both.l0 : Nat → ByteArray → List ByteArray → List ByteArray → Option (List ByteArray × List ByteArray)
  | 0, _, _, _ => none
  | k + 1, x4, x5, x6 => if (x4.size : Int) > 0 then ((interchangeref02_TakeShort.f x4).bind fun bt230 => ((interchangeref03_Value.f bt230.2.1).bind fun bt233 => (if x5.length < 8796093022208 then (if x6.length < 8796093022208 then (interchangeref03_both.l0 k bt233.2.1 (x5 ++ [bt230.1]) (x6 ++ [bt233.1])) else (none)) else (none)))) else (some (x5, x6))
def interchangeref03_both.f (k : Nat) (a0 : ByteArray) : Option (List ByteArray × List ByteArray) := if 4 ≤ (a0.size : Int) then (interchangeref03_both.l0 k (a0.extract 4 a0.size) ([] : List ByteArray) ([] : List ByteArray)) else (none)
theorem interchangeref03_both.mono_l : ∀ k, (∀ y0 y1 y2, LeO (interchangeref03_both.l0 k y0 y1 y2) (interchangeref03_both.l0 (k + 1) y0 y1 y2))
  | 0 => fun _ _ _ r h => by simp [interchangeref03_both.l0] at h
  | k + 1 => by
    have ih0 := interchangeref03_both.mono_l k
    · intro y0 y1 y2
      unfold interchangeref03_both.l0
      repeat' first
      | (with_reducible exact ih0 _ _ _)
      | (with_reducible exact LeO.refl _)
      | (with_reducible exact LeO.none _)
      | (with_reducible refine LeO.ite ?_ ?_)
      | (with_reducible refine LeO.bind ?_ (fun _ => ?_))
      | exact ih0 _ _ _
      | exact LeO.none _
      | refine LeO.ite ?_ ?_
      | refine LeO.bind ?_ (fun _ => ?_)
theorem interchangeref03_both.mono : ∀ a0 k, LeO (interchangeref03_both.f k a0) (interchangeref03_both.f (k + 1) a0) := by
  intro a0 k
  have ih0 := interchangeref03_both.mono_l k
  unfold interchangeref03_both.f
  repeat' first
      | (with_reducible exact ih0 _ _ _)
      | (with_reducible exact LeO.refl _)
      | (with_reducible exact LeO.none _)
      | (with_reducible refine LeO.ite ?_ ?_)
      | (with_reducible refine LeO.bind ?_ (fun _ => ?_))
      | exact ih0 _ _ _
      | exact LeO.none _
      | refine LeO.ite ?_ ?_
      | refine LeO.bind ?_ (fun _ => ?_)
set_option maxHeartbeats 8000000 in
set_option maxRecDepth 100000 in
theorem interchangeref03_both.calls (k : Nat) (a0 : ByteArray) (r1 : List ByteArray) (r2 : List ByteArray) (w : World) (h : interchangeref03_both.f k a0 = some (r1, r2)) :
    Calls Tryd.prog 36 #[.string a0] w fun e w' => ∃ v0_ v1_ : Value, e = .returned (.tuple #[v0_, v1_]) ∧ Kd.R Kd.string 9 w' w.heap.size (fun k_ => some k_ ≠ (v1_ : Value).ownBlock) v0_ r1 ∧ Kd.R Kd.string 9 w' w.heap.size (fun k_ => some k_ ≠ (v0_ : Value).ownBlock) v1_ r2 ∧ Below w.heap.size w w' := by
  have HB := Aside0.mk (Below.refl w.heap.size w)
  have H : (if 4 ≤ (a0.size : Int) then (interchangeref03_both.l0 k (a0.extract 4 a0.size) ([] : List ByteArray) ([] : List ByteArray)) else (none)) = some (r1, r2) := h
  clear h
  by_cases c2 : 4 ≤ (a0.size : Int)
  · rw [if_pos c2] at H
    have c2b0 := eq_true c2
    have c2b1 : decide (4 ≤ (a0.size : Int)) = true := decide_eq_true c2
    clear c2
    have H' := Aside0.mk H
    clear H
    go_enter Tryd.func36, Tryd.ntmps36
    go_wp2
    go_loopg [4, 5, 6] k (fun kq v4 v5 v6 w' => ∃ (x4_1 : ByteArray) (x5_1 : List ByteArray) (x6_1 : List ByteArray), v4 = .string x4_1 ∧ Aside0 (interchangeref03_both.l0 kq x4_1 x5_1 x6_1 = some (r1, r2)) ∧ Aside0 (kq ≤ k) ∧ Aside0 (Kd.R Kd.string 9 w' w.heap.size (fun k_ => some k_ ≠ (v6 : Value).ownBlock) v5 x5_1) ∧ Aside0 (Kd.R Kd.string 9 w' w.heap.size (fun k_ => some k_ ≠ (v5 : Value).ownBlock) v6 x6_1) ∧ Aside0 (Below w.heap.size w w'))
    case atStart => exact ⟨(a0.extract 4 a0.size), (([] : List ByteArray)), (([] : List ByteArray)), (by first | rfl | (simp; done) | (simp [*]; done)), H', ⟨Nat.le_refl _⟩, ⟨by first | exact Kd.R_nil _ _ _ _ _ | exact Kd.N_nil _ _ _ _ _ | exact Kd.V_nil _ _ _ _ _ | exact Kd.Q_nil _ _ _ _ _ | exact Kd.S_nil _ _ _ _ _⟩, ⟨by first | exact Kd.R_nil _ _ _ _ _ | exact Kd.N_nil _ _ _ _ _ | exact Kd.V_nil _ _ _ _ _ | exact Kd.Q_nil _ _ _ _ _ | exact Kd.S_nil _ _ _ _ _⟩, ⟨by repeat (first | (with_reducible first | exact HB.out | apply below_alloc | apply pw_below_drewN | apply below_drew1) | exact HB.out)⟩⟩
    case round =>
      clear H'
      try clear c2
      try clear c2b0
      try clear c2b1
      try clear p2
      obtain ⟨x4_1, x5_1, x6_1, rfl, HA, HK1, HO_5, HO_6, HB⟩ := hrel
      cases gk with
      | zero => exact absurd HA.out (by simp [interchangeref03_both.l0])
      | succ k1 =>
        have H := HA.out
        clear HA
        simp only [interchangeref03_both.l0] at H
        by_cases c3 : (x4_1.size : Int) > 0
        · rw [if_pos c3] at H
          have c3b0 : decide (0 < (x4_1.size : Int)) = true := decide_eq_true c3
          have c3b1 : decide (0 < x4_1.size) = true := decide_eq_true (by omega)
          clear c3
          replace H := Option.bind_eq_some_iff.mp H
          obtain ⟨⟨t230, t231, t232⟩, A40, H⟩ := H
          replace H : ((interchangeref03_Value.f t231).bind fun bt233 => (if x5_1.length < 8796093022208 then (if x6_1.length < 8796093022208 then (interchangeref03_both.l0 k1 bt233.2.1 (x5_1 ++ [t230]) (x6_1 ++ [bt233.1])) else (none)) else (none))) = some (r1, r2) := H
          have A4 := Aside0.mk A40
          clear A40
          replace H := Option.bind_eq_some_iff.mp H
          obtain ⟨⟨t233, t234, t235⟩, A50, H⟩ := H
          replace H : (if x5_1.length < 8796093022208 then (if x6_1.length < 8796093022208 then (interchangeref03_both.l0 k1 t234 (x5_1 ++ [t230]) (x6_1 ++ [t233])) else (none)) else (none)) = some (r1, r2) := H
          have A5 := Aside0.mk A50
          clear A50
          by_cases c6 : x5_1.length < 8796093022208
          · rw [if_pos c6] at H
            have LMc6 := Aside0.mk c6
            clear c6
            obtain ⟨y236, hy236⟩ : ∃ y_ : List ByteArray, y_ = (x5_1 ++ [t230]) := ⟨_, rfl⟩
            replace H : (if x6_1.length < 8796093022208 then (interchangeref03_both.l0 k1 t234 y236 (x6_1 ++ [t233])) else (none)) = some (r1, r2) := by first | (rw [hy236]; with_reducible exact H) | (have H2_ := (Option.bind_some _ _).symm.trans H; rw [hy236]; with_reducible exact H2_) | (have H2_ := (Option.bind_some _ _).symm.trans H; with_reducible exact H2_) | with_reducible exact H | (rw [hy236]; exact H) | exact H
            have Ny236 := Aside0.mk hy236
            clear hy236
            by_cases c7 : x6_1.length < 8796093022208
            · rw [if_pos c7] at H
              have LMc7 := Aside0.mk c7
              clear c7
              obtain ⟨y239, hy239⟩ : ∃ y_ : List ByteArray, y_ = (x6_1 ++ [t233]) := ⟨_, rfl⟩
              replace H : (interchangeref03_both.l0 k1 t234 y236 y239) = some (r1, r2) := by first | (rw [hy239]; with_reducible exact H) | (have H2_ := (Option.bind_some _ _).symm.trans H; rw [hy239]; with_reducible exact H2_) | (have H2_ := (Option.bind_some _ _).symm.trans H; with_reducible exact H2_) | with_reducible exact H | (rw [hy239]; exact H) | exact H
              have Ny239 := Aside0.mk hy239
              clear hy239
              have H' := Aside0.mk H
              clear H
              go_wp2_with (first | ((with_reducible refine gate_callee (f := 47) rfl ?_); refine goesL_ (some 20) rfl rfl Tryd.func47 (by kernel_rfl) rfl #[.string x4_1] rfl (by (try simp only [List.map_toArray, List.map_cons, List.map_nil]); first | done | rfl | (simp only [List.length_drop, List.length_take]; rfl)) ?_; (with_reducible refine (interchangeref02_TakeShort.calls x4_1 t230 t231 t232 _ A4.out).mono ?_); rintro e w' ⟨rfl, ⟨nd, rfl⟩⟩; refine ⟨_, rfl, ?_⟩) | ((with_reducible refine gate_callee (f := 20) rfl ?_); refine goesL_ (some 26) rfl rfl Tryd.func20 (by kernel_rfl) rfl #[.string t231] rfl (by (try simp only [List.map_toArray, List.map_cons, List.map_nil]); first | done | rfl | (simp only [List.length_drop, List.length_take]; rfl)) ?_; (with_reducible refine (interchangeref03_Value.calls t231 t233 t234 t235 _ A5.out).mono ?_); rintro e w' ⟨rfl, ⟨nd, rfl⟩⟩; refine ⟨_, rfl, ?_⟩) | ((with_reducible refine gate_builtin (b := .append) (xs := #[.tmp 30, .tmp 32]) rfl ?_); at_builtin; refine Kd.R_append Kd.string (w0 := w) w.heap.size rfl (.tmp 30) (.tmp 32) 27 9 (.string ⟨#[]⟩) 16 rfl Tryd.underlying27 info9 rfl (by decide) (by omega) u5 x5_1 t230 [.string t230] (fun k_ => some k_ ≠ (u6 : Value).ownBlock) (fun _ => False) rfl rfl ?aP (fun _ hk => hk.elim) ?aF ?aO ?aB ?aS ?aL ?_; (case aP => exact rfl); (case aB => exact (by repeat (first | (with_reducible first | exact HB.out | apply below_alloc | apply pw_below_drewN | apply below_drew1) | exact HB.out))); (case aF => exact (fun k_ hk => Kd.fresh' (Kd.R_lt (by (with_reducible repeat (first | apply Kd.R_alloc | apply Kd.R_drewN | apply Kd.R_drew)); exact HO_6.out)) k_ hk)); (case aO => exact (by (with_reducible repeat (first | apply Kd.R_alloc | apply Kd.R_drewN | apply Kd.R_drew)); exact HO_5.out)); (case aS => exact (below_size (by repeat (first | (with_reducible first | exact HB.out | apply below_alloc | apply pw_below_drewN | apply below_drew1) | exact HB.out)))); (case aL => have := LMc6.out; omega); intro v237 w8 ho hb hg hat; rw [← Ny236.out] at ho; have n0_ := Aside0.mk (Kd.R_after (ok := (fun _ => True)) (by (with_reducible repeat (first | apply Kd.R_alloc | apply Kd.R_drewN | apply Kd.R_drew)); exact Kd.R_mono HO_6.out (fun _ hk => ⟨trivial, hk⟩)) hg hat); have n1_ := Aside0.mk (hb); have n2_ := Aside0.mk (ho); clear HO_6; clear HB; clear HO_5; have HO_6 := n0_; have HB := n1_; have HO238 := n2_; clear n0_ n1_ n2_; clear ho hb hg hat) | ((with_reducible refine gate_builtin (b := .append) (xs := #[.tmp 34, .tmp 36]) rfl ?_); at_builtin; refine Kd.R_append Kd.string (w0 := w) w.heap.size rfl (.tmp 34) (.tmp 36) 27 9 (.string ⟨#[]⟩) 16 rfl Tryd.underlying27 info9 rfl (by decide) (by omega) u6 x6_1 t233 [.string t233] (fun k_ => some k_ ≠ (v237 : Value).ownBlock) (fun _ => False) rfl rfl ?aP (fun _ hk => hk.elim) ?aF ?aO ?aB ?aS ?aL ?_; (case aP => exact rfl); (case aB => exact (by repeat (first | (with_reducible first | exact HB.out | apply below_alloc | apply pw_below_drewN | apply below_drew1) | exact HB.out))); (case aF => exact (fun k_ hk => Kd.fresh' (Kd.R_lt (by (with_reducible repeat (first | apply Kd.R_alloc | apply Kd.R_drewN | apply Kd.R_drew)); exact HO238.out)) k_ hk)); (case aO => exact (by (with_reducible repeat (first | apply Kd.R_alloc | apply Kd.R_drewN | apply Kd.R_drew)); exact Kd.R_mono HO_6.out (fun _ hk => hk.2))); (case aS => exact (below_size (by repeat (first | (with_reducible first | exact HB.out | apply below_alloc | apply pw_below_drewN | apply below_drew1) | exact HB.out)))); (case aL => have := LMc7.out; omega); intro v240 w9 ho hb hg hat; rw [← Ny239.out] at ho; have n0_ := Aside0.mk (Kd.R_after (ok := (fun _ => True)) (by (with_reducible repeat (first | apply Kd.R_alloc | apply Kd.R_drewN | apply Kd.R_drew)); exact Kd.R_mono HO238.out (fun _ hk => ⟨trivial, hk⟩)) hg hat); have n1_ := Aside0.mk (hb); have n2_ := Aside0.mk (ho); clear HO238; clear HB; clear HO_6; have HO238 := n0_; have HB := n1_; have HO241 := n2_; clear n0_ n1_ n2_; clear ho hb hg hat))
              go_roundg k1
              case measure => have := HK1.out; omega
              case rel => exact ⟨(t234), (y236), (y239), (by first | rfl | (simp; done) | (simp [*]; done)), H', ⟨by have := HK1.out; omega⟩, ⟨by (with_reducible repeat (first | apply Kd.R_alloc | apply Kd.R_drewN | apply Kd.R_drew)); exact Kd.R_mono HO238.out (fun _ hk => hk.2)⟩, ⟨by (with_reducible repeat (first | apply Kd.R_alloc | apply Kd.R_drewN | apply Kd.R_drew)); exact HO241.out⟩, ⟨by repeat (first | (with_reducible first | exact HB.out | apply below_alloc | apply pw_below_drewN | apply below_drew1) | exact HB.out)⟩⟩
            · rw [if_neg c7] at H
              exact absurd H (by simp)
          · rw [if_neg c6] at H
            exact absurd H (by simp)
        · rw [if_neg c3] at H
          have c3b0 : decide (0 < (x4_1.size : Int)) = false := decide_eq_false c3
          have c3b1 : decide (0 < x4_1.size) = false := decide_eq_false (by omega)
          clear c3
          simp only [Option.some.injEq, Prod.mk.injEq] at H
          obtain ⟨rfl, rfl⟩ := H
          go_wp2
          go_ret2
          exact ⟨_, _, by first | rfl | (simp [errW_none, errW_some] <;> rfl) | (simp [*, errW_none, errW_some] <;> rfl), by (with_reducible repeat (first | apply Kd.R_alloc | apply Kd.R_drewN | apply Kd.R_drew)); exact HO_5.out, by (with_reducible repeat (first | apply Kd.R_alloc | apply Kd.R_drewN | apply Kd.R_drew)); exact HO_6.out, by repeat (first | (with_reducible first | exact HB.out | apply below_alloc | apply pw_below_drewN | apply below_drew1) | exact HB.out)⟩
  · rw [if_neg c2] at H
    exact absurd H (by simp)


end Go.Proofs.YthdkmohelampbaaDoor.F
namespace Go.Proofs.YthdkmohelampbaaDoor.F
open Go.RowKit Go.Proofs.YthdkmohelampbaaDoorW.PrintWords Go.Proofs.YthdkmohelampbaaDoorW.PrintLast Go.Proofs.YthdkmohelampbaaDoorW.PrintMore
attribute [local go_sem] max2_int min2_int max_two min_two max_three min_three max_four min_four
set_option linter.unusedVariables false
set_option linter.unusedSimpArgs false

/-! ### interchangeref03_Find: function 22 -/
def interchangeref03_Find.l0 : Nat → ByteArray → List ByteArray → List ByteArray → Int → Option (ByteArray × Bool)
  | 0, _, _, _, _ => none
  | k + 1, x1, x8, x9, x10 => if x10 < (x8.length : Int) then (if 0 ≤ x10 then (if (rdOf ByteArray.empty x8 x10).toList = x1.toList then (if x10 < (x9.length : Int) then (some (rdOf ByteArray.empty x9 x10, true)) else (none)) else (interchangeref03_Find.l0 k x1 x8 x9 (wrap64 (x10 + 1)))) else (none)) else (some ((⟨#[]⟩ : ByteArray), false))
def interchangeref03_Find.f (k : Nat) (a0 : ByteArray) (a1 : ByteArray) : Option (ByteArray × Bool) := (interchangeref03_Deep.f k a0).bind fun bt250 => (if bt250.2 = 0 then ((interchangeref03_both.f k a0).bind fun bt252 => (interchangeref03_Find.l0 k a1 bt252.1 bt252.2 0)) else (some ((⟨#[]⟩ : ByteArray), false)))
theorem interchangeref03_Find.mono_l : ∀ k, (∀ y0 y1 y2 y3, LeO (interchangeref03_Find.l0 k y0 y1 y2 y3) (interchangeref03_Find.l0 (k + 1) y0 y1 y2 y3))
  | 0 => fun _ _ _ _ r h => by simp [interchangeref03_Find.l0] at h
  | k + 1 => by
    have ih0 := interchangeref03_Find.mono_l k
    · intro y0 y1 y2 y3
      unfold interchangeref03_Find.l0
      repeat' first
      | (with_reducible exact ih0 _ _ _ _)
      | (with_reducible exact interchangeref03_Deep.mono _ _)
      | (with_reducible exact interchangeref03_both.mono _ _)
      | (with_reducible exact LeO.refl _)
      | (with_reducible exact LeO.none _)
      | (with_reducible refine LeO.ite ?_ ?_)
      | (with_reducible refine LeO.bind ?_ (fun _ => ?_))
      | exact ih0 _ _ _ _
      | exact interchangeref03_Deep.mono _ _
      | exact interchangeref03_both.mono _ _
      | exact LeO.none _
      | refine LeO.ite ?_ ?_
      | refine LeO.bind ?_ (fun _ => ?_)
theorem interchangeref03_Find.mono : ∀ a0 a1 k, LeO (interchangeref03_Find.f k a0 a1) (interchangeref03_Find.f (k + 1) a0 a1) := by
  intro a0 a1 k
  have ih0 := interchangeref03_Find.mono_l k
  unfold interchangeref03_Find.f
  repeat' first
      | (with_reducible exact ih0 _ _ _ _)
      | (with_reducible exact interchangeref03_Deep.mono _ _)
      | (with_reducible exact interchangeref03_both.mono _ _)
      | (with_reducible exact LeO.refl _)
      | (with_reducible exact LeO.none _)
      | (with_reducible refine LeO.ite ?_ ?_)
      | (with_reducible refine LeO.bind ?_ (fun _ => ?_))
      | exact ih0 _ _ _ _
      | exact interchangeref03_Deep.mono _ _
      | exact interchangeref03_both.mono _ _
      | exact LeO.none _
      | refine LeO.ite ?_ ?_
      | refine LeO.bind ?_ (fun _ => ?_)
set_option maxHeartbeats 8000000 in
set_option maxRecDepth 100000 in
theorem interchangeref03_Find.calls (k : Nat) (a0 : ByteArray) (a1 : ByteArray) (r1 : ByteArray) (r2 : Bool) (w : World) (h : interchangeref03_Find.f k a0 a1 = some (r1, r2)) :
    Calls Tryd.prog 22 #[.string a0, .string a1] w fun e w' => e = .returned (.tuple #[.string r1, .bool r2]) ∧ Below w.heap.size w w' := by
  have HB := Aside0.mk (Below.refl w.heap.size w)
  have H : ((interchangeref03_Deep.f k a0).bind fun bt250 => (if bt250.2 = 0 then ((interchangeref03_both.f k a0).bind fun bt252 => (interchangeref03_Find.l0 k a1 bt252.1 bt252.2 0)) else (some ((⟨#[]⟩ : ByteArray), false)))) = some (r1, r2) := h
  clear h
  replace H := Option.bind_eq_some_iff.mp H
  obtain ⟨⟨t250, t251⟩, A30, H⟩ := H
  replace H : (if t251 = 0 then ((interchangeref03_both.f k a0).bind fun bt252 => (interchangeref03_Find.l0 k a1 bt252.1 bt252.2 0)) else (some ((⟨#[]⟩ : ByteArray), false))) = some (r1, r2) := H
  have A3 := Aside0.mk A30
  clear A30
  by_cases c4 : t251 = 0
  · rw [if_pos c4] at H
    have c4b0 : (t251 == 0) = true := beq_iff_eq.mpr c4
    have c4b1 : (t251 != 0) = false := bne_eq_false_iff_eq.mpr c4
    clear c4
    replace H := Option.bind_eq_some_iff.mp H
    obtain ⟨⟨t252, t253⟩, A50, H⟩ := H
    replace H : (interchangeref03_Find.l0 k a1 t252 t253 0) = some (r1, r2) := H
    have A5 := Aside0.mk A50
    clear A50
    have H' := Aside0.mk H
    clear H
    go_enter Tryd.func22, Tryd.ntmps22
    go_wp2_with (first | ((with_reducible refine gate_callee (f := 13) rfl ?_); refine goesL_ (some 13) rfl rfl Tryd.func13 (by kernel_rfl) rfl #[.string a0] rfl (by (try simp only [List.map_toArray, List.map_cons, List.map_nil]); first | done | rfl | (simp only [List.length_drop, List.length_take]; rfl)) ?_; (with_reducible refine (interchangeref03_Deep.calls k a0 t250 t251 _ A3.out).mono ?_); rintro e w' ⟨rfl, ⟨nd, rfl⟩⟩; refine ⟨_, rfl, ?_⟩) | ((with_reducible refine gate_callee (f := 36) rfl ?_); refine goesL_ (some 20) rfl rfl Tryd.func36 (by kernel_rfl) rfl #[.string a0] rfl (by (try simp only [List.map_toArray, List.map_cons, List.map_nil]); first | done | rfl | (simp only [List.length_drop, List.length_take]; rfl)) ?_; (with_reducible refine (interchangeref03_both.calls k a0 t252 t253 _ A5.out).mono ?_); rintro e w6 ⟨v254, v256, rfl, ho0, ho1, hb⟩; refine ⟨_, rfl, ?_⟩; have n0_ := Aside0.mk (Kd.R_lower ho0 (below_size (by repeat (first | (with_reducible first | exact HB.out | apply below_alloc | apply pw_below_drewN | apply below_drew1) | exact HB.out)))); have n1_ := Aside0.mk (Kd.R_lower ho1 (below_size (by repeat (first | (with_reducible first | exact HB.out | apply below_alloc | apply pw_below_drewN | apply below_drew1) | exact HB.out)))); have n2_ := Aside0.mk (below_step (by repeat (first | (with_reducible first | exact HB.out | apply below_alloc | apply pw_below_drewN | apply below_drew1) | exact HB.out)) hb); clear HB; have HO255 := n0_; have HO257 := n1_; have HB := n2_; clear n0_ n1_ n2_; (try clear hb); (try clear hb2); (try clear hk); (try clear hi); (try clear ho0); (try clear ho1)))
    go_loopg [10] k (fun kq v10 w' => ∃ (x10_1 : Int), v10 = .int .i64 x10_1 ∧ Aside0 (interchangeref03_Find.l0 kq a1 t252 t253 x10_1 = some (r1, r2)) ∧ Aside0 (kq ≤ k) ∧ Aside0 (Kd.R Kd.string 9 w' w.heap.size (fun k_ => some k_ ≠ (v256 : Value).ownBlock) v254 t252) ∧ Aside0 (Kd.R Kd.string 9 w' w.heap.size (fun k_ => some k_ ≠ (v254 : Value).ownBlock) v256 t253) ∧ Aside0 (Below w.heap.size w w'))
    case atStart => exact ⟨(0), (by first | rfl | (simp; done) | (simp [*]; done)), H', ⟨Nat.le_refl _⟩, ⟨by (with_reducible repeat (first | apply Kd.R_alloc | apply Kd.R_drewN | apply Kd.R_drew)); exact HO255.out⟩, ⟨by (with_reducible repeat (first | apply Kd.R_alloc | apply Kd.R_drewN | apply Kd.R_drew)); exact HO257.out⟩, ⟨by repeat (first | (with_reducible first | exact HB.out | apply below_alloc | apply pw_below_drewN | apply below_drew1) | exact HB.out)⟩⟩
    case round =>
      clear H'
      try clear c1
      try clear c2
      try clear p2
      try clear c3
      try clear c4
      try clear c4b0
      try clear c4b1
      obtain ⟨x10_1, rfl, HA, HK1, HO_8, HO_9, HB⟩ := hrel
      cases gk with
      | zero => exact absurd HA.out (by simp [interchangeref03_Find.l0])
      | succ k1 =>
        have H := HA.out
        clear HA
        simp only [interchangeref03_Find.l0] at H
        by_cases c7 : x10_1 < (t252.length : Int)
        · rw [if_pos c7] at H
          have c7b0 : decide (x10_1 < (t252.length : Int)) = true := decide_eq_true c7
          clear c7
          by_cases c8 : 0 ≤ x10_1
          · rw [if_pos c8] at H
            have c8b0 : decide (0 ≤ x10_1) = true := decide_eq_true c8
            clear c8
            by_cases c9 : (rdOf ByteArray.empty t252 x10_1).toList = a1.toList
            · rw [if_pos c9] at H
              have c9b0 : ((rdOf ByteArray.empty t252 x10_1).toList == a1.toList) = true := beq_iff_eq.mpr c9
              have c9b1 : ((rdOf ByteArray.empty t252 x10_1).toList != a1.toList) = false := bne_eq_false_iff_eq.mpr c9
              clear c9
              by_cases c10 : x10_1 < (t253.length : Int)
              · rw [if_pos c10] at H
                have c10b0 : decide (x10_1 < (t253.length : Int)) = true := decide_eq_true c10
                clear c10
                simp only [Option.some.injEq, Prod.mk.injEq] at H
                obtain ⟨rfl, rfl⟩ := H
                obtain ⟨Ao11, co11, eo11⟩ := Kd.R_slice HO_8.out
                subst eo11
                have p258 : 0 ≤ (x10_1 : Int) := of_decide_eq_true (by first | (with_reducible assumption) | assumption)
                have q258 : x10_1 < (t252.length : Int) := of_decide_eq_true (by first | (with_reducible assumption) | assumption)
                obtain ⟨ad258, e258, hx258_0⟩ := Kd.at_string (Kd.R_reads' HO_8.out).2.2 x10_1 p258 q258
                cases e258
                replace p258 := eq_true p258
                replace q258 := eq_true q258
                obtain ⟨Ao12, co12, eo12⟩ := Kd.R_slice HO_9.out
                subst eo12
                have p259 : 0 ≤ (x10_1 : Int) := of_decide_eq_true (by first | (with_reducible assumption) | assumption)
                have q259 : x10_1 < (t253.length : Int) := of_decide_eq_true (by first | (with_reducible assumption) | assumption)
                obtain ⟨ad259, e259, hx259_0⟩ := Kd.at_string (Kd.R_reads' HO_9.out).2.2 x10_1 p259 q259
                cases e259
                replace p259 := eq_true p259
                replace q259 := eq_true q259
                go_wp2
                go_ret2
                exact ⟨by first | rfl | (simp [errW_none, errW_some] <;> rfl) | (simp [*, errW_none, errW_some] <;> rfl), by repeat (first | (with_reducible first | exact HB.out | apply below_alloc | apply pw_below_drewN | apply below_drew1) | exact HB.out)⟩
              · rw [if_neg c10] at H
                exact absurd H (by simp)
            · rw [if_neg c9] at H
              have c9b0 : ((rdOf ByteArray.empty t252 x10_1).toList == a1.toList) = false := beq_eq_false_iff_ne.mpr c9
              have c9b1 : ((rdOf ByteArray.empty t252 x10_1).toList != a1.toList) = true := bne_iff_ne.mpr c9
              have H' := Aside0.mk H
              clear H
              obtain ⟨Ao13, co13, eo13⟩ := Kd.R_slice HO_8.out
              subst eo13
              have p258 : 0 ≤ (x10_1 : Int) := of_decide_eq_true (by first | (with_reducible assumption) | assumption)
              have q258 : x10_1 < (t252.length : Int) := of_decide_eq_true (by first | (with_reducible assumption) | assumption)
              obtain ⟨ad258, e258, hx258_0⟩ := Kd.at_string (Kd.R_reads' HO_8.out).2.2 x10_1 p258 q258
              cases e258
              replace p258 := eq_true p258
              replace q258 := eq_true q258
              go_wp2
              go_roundg k1
              case measure => have := HK1.out; omega
              case rel => exact ⟨(wrap64 (x10_1 + 1)), (by first | rfl | (simp; done) | (simp [*]; done)), H', ⟨by have := HK1.out; omega⟩, ⟨by (with_reducible repeat (first | apply Kd.R_alloc | apply Kd.R_drewN | apply Kd.R_drew)); exact HO_8.out⟩, ⟨by (with_reducible repeat (first | apply Kd.R_alloc | apply Kd.R_drewN | apply Kd.R_drew)); exact HO_9.out⟩, ⟨by repeat (first | (with_reducible first | exact HB.out | apply below_alloc | apply pw_below_drewN | apply below_drew1) | exact HB.out)⟩⟩
          · rw [if_neg c8] at H
            exact absurd H (by simp)
        · rw [if_neg c7] at H
          have c7b0 : decide (x10_1 < (t252.length : Int)) = false := decide_eq_false c7
          clear c7
          simp only [Option.some.injEq, Prod.mk.injEq] at H
          obtain ⟨rfl, rfl⟩ := H
          obtain ⟨Ao14, co14, eo14⟩ := Kd.R_slice HO_8.out
          subst eo14
          go_wp2
          go_ret2
          exact ⟨by first | rfl | (simp [errW_none, errW_some] <;> rfl) | (simp [*, errW_none, errW_some] <;> rfl), by repeat (first | (with_reducible first | exact HB.out | apply below_alloc | apply pw_below_drewN | apply below_drew1) | exact HB.out)⟩
  · rw [if_neg c4] at H
    have c4b0 : (t251 == 0) = false := beq_eq_false_iff_ne.mpr c4
    have c4b1 : (t251 != 0) = true := bne_iff_ne.mpr c4
    simp only [Option.some.injEq, Prod.mk.injEq] at H
    obtain ⟨rfl, rfl⟩ := H
    go_enter Tryd.func22, Tryd.ntmps22
    go_wp2_with (first | ((with_reducible refine gate_callee (f := 13) rfl ?_); refine goesL_ (some 13) rfl rfl Tryd.func13 (by kernel_rfl) rfl #[.string a0] rfl (by (try simp only [List.map_toArray, List.map_cons, List.map_nil]); first | done | rfl | (simp only [List.length_drop, List.length_take]; rfl)) ?_; (with_reducible refine (interchangeref03_Deep.calls k a0 t250 t251 _ A3.out).mono ?_); rintro e w' ⟨rfl, ⟨nd, rfl⟩⟩; refine ⟨_, rfl, ?_⟩))
    go_ret2
    exact ⟨by first | rfl | (simp [errW_none, errW_some] <;> rfl) | (simp [*, errW_none, errW_some] <;> rfl), by repeat (first | (with_reducible first | exact HB.out | apply below_alloc | apply pw_below_drewN | apply below_drew1) | exact HB.out)⟩


end Go.Proofs.YthdkmohelampbaaDoor.F
namespace Go.Proofs.YthdkmohelampbaaDoor.F
open Go.RowKit Go.Proofs.YthdkmohelampbaaDoorW.PrintWords Go.Proofs.YthdkmohelampbaaDoorW.PrintLast Go.Proofs.YthdkmohelampbaaDoorW.PrintMore
attribute [local go_sem] max2_int min2_int max_two min_two max_three min_three max_four min_four
set_option linter.unusedVariables false
set_option linter.unusedSimpArgs false

/-! ### interchangeref03_Keys: function 21 -/
def interchangeref03_Keys.f (k : Nat) (a0 : ByteArray) : Option (List ByteArray × Int) := (interchangeref03_Deep.f k a0).bind fun bt242 => (if bt242.2 = 0 then ((interchangeref03_both.f k a0).bind fun bt244 => (some (bt244.1, 0))) else (some (([] : List ByteArray), bt242.2)))
theorem interchangeref03_Keys.mono : ∀ a0 k, LeO (interchangeref03_Keys.f k a0) (interchangeref03_Keys.f (k + 1) a0) := by
  intro a0 k
  unfold interchangeref03_Keys.f
  repeat' first
      | (with_reducible exact interchangeref03_Deep.mono _ _)
      | (with_reducible exact interchangeref03_both.mono _ _)
      | (with_reducible exact LeO.refl _)
      | (with_reducible exact LeO.none _)
      | (with_reducible refine LeO.ite ?_ ?_)
      | (with_reducible refine LeO.bind ?_ (fun _ => ?_))
      | exact interchangeref03_Deep.mono _ _
      | exact interchangeref03_both.mono _ _
      | exact LeO.none _
      | refine LeO.ite ?_ ?_
      | refine LeO.bind ?_ (fun _ => ?_)
set_option maxHeartbeats 8000000 in
set_option maxRecDepth 100000 in
theorem interchangeref03_Keys.calls (k : Nat) (a0 : ByteArray) (r1 : List ByteArray) (r2 : Int) (w : World) (h : interchangeref03_Keys.f k a0 = some (r1, r2)) :
    Calls Tryd.prog 21 #[.string a0] w fun e w' => ∃ v0_ : Value, e = .returned (.tuple #[v0_, .int .i64 r2]) ∧ Kd.R Kd.string 9 w' w.heap.size (fun _ => True) v0_ r1 ∧ Below w.heap.size w w' := by
  have HB := Aside0.mk (Below.refl w.heap.size w)
  have H : ((interchangeref03_Deep.f k a0).bind fun bt242 => (if bt242.2 = 0 then ((interchangeref03_both.f k a0).bind fun bt244 => (some (bt244.1, 0))) else (some (([] : List ByteArray), bt242.2)))) = some (r1, r2) := h
  clear h
  replace H := Option.bind_eq_some_iff.mp H
  obtain ⟨⟨t242, t243⟩, A20, H⟩ := H
  replace H : (if t243 = 0 then ((interchangeref03_both.f k a0).bind fun bt244 => (some (bt244.1, 0))) else (some (([] : List ByteArray), t243))) = some (r1, r2) := H
  have A2 := Aside0.mk A20
  clear A20
  by_cases c3 : t243 = 0
  · rw [if_pos c3] at H
    have c3b0 : (t243 == 0) = true := beq_iff_eq.mpr c3
    have c3b1 : (t243 != 0) = false := bne_eq_false_iff_eq.mpr c3
    clear c3
    replace H := Option.bind_eq_some_iff.mp H
    obtain ⟨⟨t244, t245⟩, A40, H⟩ := H
    replace H : (some (t244, 0)) = some (r1, r2) := H
    have A4 := Aside0.mk A40
    clear A40
    simp only [Option.some.injEq, Prod.mk.injEq] at H
    obtain ⟨rfl, rfl⟩ := H
    go_enter Tryd.func21, Tryd.ntmps21
    go_wp2_with (first | ((with_reducible refine gate_callee (f := 13) rfl ?_); refine goesL_ (some 10) rfl rfl Tryd.func13 (by kernel_rfl) rfl #[.string a0] rfl (by (try simp only [List.map_toArray, List.map_cons, List.map_nil]); first | done | rfl | (simp only [List.length_drop, List.length_take]; rfl)) ?_; (with_reducible refine (interchangeref03_Deep.calls k a0 t242 t243 _ A2.out).mono ?_); rintro e w' ⟨rfl, ⟨nd, rfl⟩⟩; refine ⟨_, rfl, ?_⟩) | ((with_reducible refine gate_callee (f := 36) rfl ?_); refine goesL_ (some 18) rfl rfl Tryd.func36 (by kernel_rfl) rfl #[.string a0] rfl (by (try simp only [List.map_toArray, List.map_cons, List.map_nil]); first | done | rfl | (simp only [List.length_drop, List.length_take]; rfl)) ?_; (with_reducible refine (interchangeref03_both.calls k a0 t244 t245 _ A4.out).mono ?_); rintro e w5 ⟨v246, v248, rfl, ho0, ho1, hb⟩; refine ⟨_, rfl, ?_⟩; have n0_ := Aside0.mk (Kd.R_lower ho0 (below_size (by repeat (first | (with_reducible first | exact HB.out | apply below_alloc | apply pw_below_drewN | apply below_drew1) | exact HB.out)))); have n1_ := Aside0.mk (Kd.R_lower ho1 (below_size (by repeat (first | (with_reducible first | exact HB.out | apply below_alloc | apply pw_below_drewN | apply below_drew1) | exact HB.out)))); have n2_ := Aside0.mk (below_step (by repeat (first | (with_reducible first | exact HB.out | apply below_alloc | apply pw_below_drewN | apply below_drew1) | exact HB.out)) hb); clear HB; have HO247 := n0_; have HO249 := n1_; have HB := n2_; clear n0_ n1_ n2_; (try clear hb); (try clear hb2); (try clear hk); (try clear hi); (try clear ho0); (try clear ho1)))
    go_ret2
    exact ⟨_, by first | rfl | (simp [errW_none, errW_some] <;> rfl) | (simp [*, errW_none, errW_some] <;> rfl), by (with_reducible repeat (first | apply Kd.R_alloc | apply Kd.R_drewN | apply Kd.R_drew)); exact Kd.R_mono HO247.out (fun _ hk => trivial), by repeat (first | (with_reducible first | exact HB.out | apply below_alloc | apply pw_below_drewN | apply below_drew1) | exact HB.out)⟩
  · rw [if_neg c3] at H
    have c3b0 : (t243 == 0) = false := beq_eq_false_iff_ne.mpr c3
    have c3b1 : (t243 != 0) = true := bne_iff_ne.mpr c3
    simp only [Option.some.injEq, Prod.mk.injEq] at H
    obtain ⟨rfl, rfl⟩ := H
    go_enter Tryd.func21, Tryd.ntmps21
    go_wp2_with (first | ((with_reducible refine gate_callee (f := 13) rfl ?_); refine goesL_ (some 10) rfl rfl Tryd.func13 (by kernel_rfl) rfl #[.string a0] rfl (by (try simp only [List.map_toArray, List.map_cons, List.map_nil]); first | done | rfl | (simp only [List.length_drop, List.length_take]; rfl)) ?_; (with_reducible refine (interchangeref03_Deep.calls k a0 t242 t243 _ A2.out).mono ?_); rintro e w' ⟨rfl, ⟨nd, rfl⟩⟩; refine ⟨_, rfl, ?_⟩))
    go_ret2
    exact ⟨_, by first | rfl | (simp [errW_none, errW_some] <;> rfl) | (simp [*, errW_none, errW_some] <;> rfl), by first | exact Kd.R_nil _ _ _ _ _ | exact Kd.N_nil _ _ _ _ _ | exact Kd.V_nil _ _ _ _ _ | exact Kd.Q_nil _ _ _ _ _ | exact Kd.S_nil _ _ _ _ _, by repeat (first | (with_reducible first | exact HB.out | apply below_alloc | apply pw_below_drewN | apply below_drew1) | exact HB.out)⟩


end Go.Proofs.YthdkmohelampbaaDoor.F
namespace Go.Proofs.YthdkmohelampbaaDoor.F
open Go.RowKit Go.Proofs.YthdkmohelampbaaDoorW.PrintWords Go.Proofs.YthdkmohelampbaaDoorW.PrintLast Go.Proofs.YthdkmohelampbaaDoorW.PrintMore
attribute [local go_sem] max2_int min2_int max_two min_two max_three min_three max_four min_four
set_option linter.unusedVariables false
set_option linter.unusedSimpArgs false

/-! ### interchangeref02_Strings: function 18 -/
def interchangeref02_Strings.l0 : Nat → List ByteArray → List ByteArray → Int → Option (Bool)
  | 0, _, _, _ => none
  | k + 1, x0, x1, x5 => if x5 < (x0.length : Int) then (if 0 ≤ x5 then (if x5 < (x1.length : Int) then (if (rdOf ByteArray.empty x0 x5).toList = (rdOf ByteArray.empty x1 x5).toList then (interchangeref02_Strings.l0 k x0 x1 (wrap64 (x5 + 1))) else (some false)) else (none)) else (none)) else (some true)
def interchangeref02_Strings.f (k : Nat) (l0 : List ByteArray) (l1 : List ByteArray) : Option (Bool) := if (l0.length : Int) = (l1.length : Int) then (interchangeref02_Strings.l0 k l0 l1 0) else (some false)
theorem interchangeref02_Strings.mono_l : ∀ k, (∀ y0 y1 y2, LeO (interchangeref02_Strings.l0 k y0 y1 y2) (interchangeref02_Strings.l0 (k + 1) y0 y1 y2))
  | 0 => fun _ _ _ r h => by simp [interchangeref02_Strings.l0] at h
  | k + 1 => by
    have ih0 := interchangeref02_Strings.mono_l k
    · intro y0 y1 y2
      unfold interchangeref02_Strings.l0
      repeat' first
      | (with_reducible exact ih0 _ _ _)
      | (with_reducible exact LeO.refl _)
      | (with_reducible exact LeO.none _)
      | (with_reducible refine LeO.ite ?_ ?_)
      | (with_reducible refine LeO.bind ?_ (fun _ => ?_))
      | exact ih0 _ _ _
      | exact LeO.none _
      | refine LeO.ite ?_ ?_
      | refine LeO.bind ?_ (fun _ => ?_)
theorem interchangeref02_Strings.mono : ∀ a0 a1 k, LeO (interchangeref02_Strings.f k a0 a1) (interchangeref02_Strings.f (k + 1) a0 a1) := by
  intro a0 a1 k
  have ih0 := interchangeref02_Strings.mono_l k
  unfold interchangeref02_Strings.f
  repeat' first
      | (with_reducible exact ih0 _ _ _)
      | (with_reducible exact LeO.refl _)
      | (with_reducible exact LeO.none _)
      | (with_reducible refine LeO.ite ?_ ?_)
      | (with_reducible refine LeO.bind ?_ (fun _ => ?_))
      | exact ih0 _ _ _
      | exact LeO.none _
      | refine LeO.ite ?_ ?_
      | refine LeO.bind ?_ (fun _ => ?_)
set_option maxHeartbeats 8000000 in
set_option maxRecDepth 100000 in
theorem interchangeref02_Strings.calls (k : Nat) (A0 : Option Addr) (c0 : Nat) (l0 : List ByteArray) (A1 : Option Addr) (c1 : Nat) (l1 : List ByteArray) (r : Bool) (w : World) (hr0 : Kd.C Kd.string w A0 l0.length l0) (hc0 : l0.length ≤ c0) (hr1 : Kd.C Kd.string w A1 l1.length l1) (hc1 : l1.length ≤ c1) (h : interchangeref02_Strings.f k l0 l1 = some r) :
    Calls Tryd.prog 18 #[.slice A0 l0.length c0, .slice A1 l1.length c1] w fun e w' => e = .returned (.bool r) ∧ Drawn0 w w' := by
  have HR0 := Aside0.mk hr0
  have HC0 := Aside0.mk hc0
  clear hr0 hc0
  have HR1 := Aside0.mk hr1
  have HC1 := Aside0.mk hc1
  clear hr1 hc1
  have H : (if (l0.length : Int) = (l1.length : Int) then (interchangeref02_Strings.l0 k l0 l1 0) else (some false)) = some r := h
  clear h
  by_cases c3 : (l0.length : Int) = (l1.length : Int)
  · rw [if_pos c3] at H
    have c3b0 : ((l0.length : Int) == (l1.length : Int)) = true := beq_iff_eq.mpr c3
    have c3b1 : ((l0.length : Int) != (l1.length : Int)) = false := bne_eq_false_iff_eq.mpr c3
    have c3b2 : (l0.length == l1.length) = true := by first | simpa using c3 | (simp at c3 ⊢; omega)
    clear c3
    have H' := Aside0.mk H
    clear H
    go_enter Tryd.func18, Tryd.ntmps18
    go_wp2
    repeat (go_quiet (fail); try go_wp2)
    go_loopg [5] k (fun kq v5 w' => ∃ (x5_1 : Int), v5 = .int .i64 x5_1 ∧ Aside0 (interchangeref02_Strings.l0 kq l0 l1 x5_1 = some r) ∧ Aside0 (kq ≤ k) ∧ Drawn0 w w')
    case atStart => exact ⟨(0), (by first | rfl | (simp; done) | (simp [*]; done)), H', ⟨Nat.le_refl _⟩, by repeat (first | exact Drawn0.refl _ | apply Drawn0.step)⟩
    case round =>
      clear H'
      try clear c1
      try clear p2
      try clear c3
      try clear c3b0
      try clear c3b1
      try clear c3b2
      obtain ⟨x5_1, rfl, HA, HK1, ⟨m1, rfl⟩⟩ := hrel
      cases gk with
      | zero => exact absurd HA.out (by simp [interchangeref02_Strings.l0])
      | succ k1 =>
        have H := HA.out
        clear HA
        simp only [interchangeref02_Strings.l0] at H
        by_cases c4 : x5_1 < (l0.length : Int)
        · rw [if_pos c4] at H
          have c4b0 : decide (x5_1 < (l0.length : Int)) = true := decide_eq_true c4
          clear c4
          by_cases c5 : 0 ≤ x5_1
          · rw [if_pos c5] at H
            have c5b0 : decide (0 ≤ x5_1) = true := decide_eq_true c5
            clear c5
            by_cases c6 : x5_1 < (l1.length : Int)
            · rw [if_pos c6] at H
              have c6b0 : decide (x5_1 < (l1.length : Int)) = true := decide_eq_true c6
              clear c6
              by_cases c7 : (rdOf ByteArray.empty l0 x5_1).toList = (rdOf ByteArray.empty l1 x5_1).toList
              · rw [if_pos c7] at H
                have c7b0 : ((rdOf ByteArray.empty l0 x5_1).toList == (rdOf ByteArray.empty l1 x5_1).toList) = true := beq_iff_eq.mpr c7
                have c7b1 : ((rdOf ByteArray.empty l0 x5_1).toList != (rdOf ByteArray.empty l1 x5_1).toList) = false := bne_eq_false_iff_eq.mpr c7
                clear c7
                have H' := Aside0.mk H
                clear H
                have p204 : 0 ≤ (x5_1 : Int) := of_decide_eq_true (by first | (with_reducible assumption) | assumption)
                have q204 : x5_1 < (l0.length : Int) := of_decide_eq_true (by first | (with_reducible assumption) | assumption)
                obtain ⟨ad204, e204, hx204_0⟩ := Kd.at_string HR0.out x5_1 p204 q204
                cases e204
                replace p204 := eq_true p204
                replace q204 := eq_true q204
                have p205 : 0 ≤ (x5_1 : Int) := of_decide_eq_true (by first | (with_reducible assumption) | assumption)
                have q205 : x5_1 < (l1.length : Int) := of_decide_eq_true (by first | (with_reducible assumption) | assumption)
                obtain ⟨ad205, e205, hx205_0⟩ := Kd.at_string HR1.out x5_1 p205 q205
                cases e205
                replace p205 := eq_true p205
                replace q205 := eq_true q205
                go_wp2
                repeat (go_quiet (fail); try go_wp2)
                go_roundg k1
                case measure => have := HK1.out; omega
                case rel => exact ⟨(wrap64 (x5_1 + 1)), (by first | rfl | (simp; done) | (simp [*]; done)), H', ⟨by have := HK1.out; omega⟩, by repeat (first | exact Drawn0.refl _ | apply Drawn0.step)⟩
              · rw [if_neg c7] at H
                have c7b0 : ((rdOf ByteArray.empty l0 x5_1).toList == (rdOf ByteArray.empty l1 x5_1).toList) = false := beq_eq_false_iff_ne.mpr c7
                have c7b1 : ((rdOf ByteArray.empty l0 x5_1).toList != (rdOf ByteArray.empty l1 x5_1).toList) = true := bne_iff_ne.mpr c7
                obtain rfl := Option.some.inj H
                have p204 : 0 ≤ (x5_1 : Int) := of_decide_eq_true (by first | (with_reducible assumption) | assumption)
                have q204 : x5_1 < (l0.length : Int) := of_decide_eq_true (by first | (with_reducible assumption) | assumption)
                obtain ⟨ad204, e204, hx204_0⟩ := Kd.at_string HR0.out x5_1 p204 q204
                cases e204
                replace p204 := eq_true p204
                replace q204 := eq_true q204
                have p205 : 0 ≤ (x5_1 : Int) := of_decide_eq_true (by first | (with_reducible assumption) | assumption)
                have q205 : x5_1 < (l1.length : Int) := of_decide_eq_true (by first | (with_reducible assumption) | assumption)
                obtain ⟨ad205, e205, hx205_0⟩ := Kd.at_string HR1.out x5_1 p205 q205
                cases e205
                replace p205 := eq_true p205
                replace q205 := eq_true q205
                go_wp2
                repeat (go_quiet (fail); try go_wp2)
                go_ret
                exact ⟨by first | rfl | (simp; done) | (simp [*]; done), by repeat (first | exact Drawn0.refl _ | apply Drawn0.step)⟩
            · rw [if_neg c6] at H
              exact absurd H (by simp)
          · rw [if_neg c5] at H
            exact absurd H (by simp)
        · rw [if_neg c4] at H
          have c4b0 : decide (x5_1 < (l0.length : Int)) = false := decide_eq_false c4
          clear c4
          obtain rfl := Option.some.inj H
          go_wp2
          repeat (go_quiet (fail); try go_wp2)
          go_ret
          exact ⟨by first | rfl | (simp; done) | (simp [*]; done), by repeat (first | exact Drawn0.refl _ | apply Drawn0.step)⟩
  · rw [if_neg c3] at H
    have c3b0 : ((l0.length : Int) == (l1.length : Int)) = false := beq_eq_false_iff_ne.mpr c3
    have c3b1 : ((l0.length : Int) != (l1.length : Int)) = true := bne_iff_ne.mpr c3
    have c3b2 : (l0.length == l1.length) = false := by first | simpa using c3 | (simp at c3 ⊢; omega)
    obtain rfl := Option.some.inj H
    go_enter Tryd.func18, Tryd.ntmps18
    go_wp2
    repeat (go_quiet (fail); try go_wp2)
    go_ret
    exact ⟨by first | rfl | (simp; done) | (simp [*]; done), by repeat (first | exact Drawn0.refl _ | apply Drawn0.step)⟩


end Go.Proofs.YthdkmohelampbaaDoor.F
namespace Go.Proofs.YthdkmohelampbaaDoor.F
open Go.RowKit Go.Proofs.YthdkmohelampbaaDoorW.PrintWords Go.Proofs.YthdkmohelampbaaDoorW.PrintLast Go.Proofs.YthdkmohelampbaaDoorW.PrintMore
set_option linter.unusedVariables false
set_option linter.unusedSimpArgs false
/-- a table, by the reference -/
def rTab (s : ByteArray) : Rk := if (ltakeR 4 s).2.2 = 0 then ((ltakeR 4 s).2.1, (rRow (rVal ((ltakeR 4 s).1.size + 1)) (ltakeR 4 s).1 1 true).1, (rRow (rVal ((ltakeR 4 s).1.size + 1)) (ltakeR 4 s).1 1 true).2) else (⟨#[]⟩, 0, 2)
theorem rtab_k {k : Nat} (hk : 12 ≤ k) (s : ByteArray) (hz : s.size ≤ 4611686018427387904) : interchangeref03_table.f k s = some (rTab s) := by
  unfold interchangeref03_table.f rTab
  rw [rinside_k hk s hz, Option.bind_some]
  by_cases e : (ltakeR 4 s).2.2 = 0
  · have := (ltake_size 4 s).1
    rw [if_pos e, if_pos e]
    have hr : interchangeref03_row.f (ltakeR 4 s).1 1 true = some (rRow (rVal ((ltakeR 4 s).1.size + 1)) (ltakeR 4 s).1 1 true) := by
      unfold interchangeref03_row.f
      rw [if_pos ⟨by omega, by decide, by decide⟩]
    rw [hr, Option.bind_some]
  · rw [if_neg e, if_neg e, ltake_fail e isW4]
theorem tab_alike (s : ByteArray) : Alike 0 (tabR s) (rTab s) := by
  rw [tabR_eq]
  have h := within_alike (one := fieldR valT) (val := rVal ((ltakeR 4 s).1.size + 1)) (fields := true) (field_less valT_less) (s := s) (dep := 0) (d := 0) (Int.le_refl _)
    (fun i d' hi hd' => one_alike (fun i2 hi2 => val_alike _ _ i2 _ d' (Nat.lt_succ_self _) (by omega) hd'))
  unfold rTab
  rw [if_neg (show ¬ (32 : Int) ≤ 0 by decide), Int.zero_add] at h
  exact h
theorem rcut {s : ByteArray} {t : Tk} {r : Rk} {d : Int} (ha : Alike d t r) (hl : t.2.1 = 0 → t.1.size ≤ s.size) (hz : s.size ≤ 4611686018427387904) :
    (if r.2.2 = 0 then (if 0 ≤ (wrap64 ((s.size : Int) - (r.1.size : Int))) then (if (wrap64 ((s.size : Int) - (r.1.size : Int))) ≤ (s.size : Int) then (some (s.extract 0 ((wrap64 ((s.size : Int) - (r.1.size : Int))) : Int).toNat, r.1, 0)) else (none)) else (none)) else (some ((⟨#[]⟩ : ByteArray), (⟨#[]⟩ : ByteArray), r.2.2))) = some (takenR s t) := by
  obtain ⟨a1, a2⟩ := ha
  unfold takenR
  rw [← a1]
  by_cases e : t.2.1 = 0
  · have h1 := (a2 e).1
    have h2 := hl e
    rw [if_pos e, if_pos e, ← h1, wrap64_of (by omega) (by omega), if_pos (by omega), if_pos (by omega)]
    have : ((s.size : Int) - (t.1.size : Int)).toNat = s.size - t.1.size := by omega
    rw [this]
  · rw [if_neg e, if_neg e]
theorem rTake_k {k : Nat} (hk : 12 ≤ k) (s : ByteArray) (hz : s.size ≤ 4611686018427387904) : interchangeref03_Take.f k s = some (takenR s (tabR s)) := by
  unfold interchangeref03_Take.f
  rw [rtab_k hk s hz, Option.bind_some]
  exact rcut (tab_alike s) (fun e => Nat.le_of_lt (tabR_less s e)) hz
theorem rValue_f (s : ByteArray) (hz : s.size ≤ 4611686018427387904) : interchangeref03_Value.f s = some (takenR s (tvalR s)) := by
  unfold interchangeref03_Value.f
  have hv : interchangeref03_value.f s 0 = some (rVal (s.size + 1) s 0) := by
    unfold interchangeref03_value.f
    rw [if_pos ⟨hz, by decide, by decide⟩]
  rw [hv, Option.bind_some]
  exact rcut (val_alike _ _ s 0 0 (Nat.lt_succ_self _) (Nat.lt_succ_self _) (Int.le_refl _)) (fun e => Nat.le_of_lt (tvalR_less s e)) hz
/-- where a table is taken, it is one deep at least -/
theorem tab_deep {s : ByteArray} (h : (tabR s).2.1 = 0) : (tabR s).2.2 = (rTab s).2.1 := by
  obtain ⟨a1, a2⟩ := tab_alike s
  have h1 := (a2 h).2
  have h2 : 1 ≤ (rTab s).2.1 := by
    rw [a1] at h
    unfold rTab at h ⊢
    by_cases e : (ltakeR 4 s).2.2 = 0
    · rw [if_pos e] at h ⊢
      have hi := items_alike (one := fieldR valT) (val := rVal ((ltakeR 4 s).1.size + 1)) (fields := true) (field_less valT_less) (ltakeR 4 s).1.size (ltakeR 4 s).1 1 1 (Int.le_refl _) (Int.le_refl _)
        (fun i d' hi hd' => one_alike (fun i2 hi2 => val_alike _ _ i2 _ d' (Nat.lt_succ_self _) (by omega) hd'))
      exact (hi.2 (hi.1.trans h)).1
    · rw [if_neg e] at h
      exact absurd h (show ¬ (2 : Int) = 0 by decide)
  omega
theorem rDeep_k {k : Nat} (hk : 12 ≤ k) (s : ByteArray) (hz : s.size ≤ 4611686018427387904) : interchangeref03_Deep.f k s = some (deepR s) := by
  unfold interchangeref03_Deep.f
  rw [rtab_k hk s hz, Option.bind_some]
  obtain ⟨a1, a2⟩ := tab_alike s
  unfold deepR wholeR
  rw [← a1]
  by_cases e : (tabR s).2.1 = 0
  · have hd := tab_deep e
    rw [if_pos e, if_pos e, ← (a2 e).1, ← hd]
    by_cases e0 : (tabR s).1.size = 0
    · rw [if_neg (by omega), if_pos e0, if_pos rfl]
    · rw [if_pos (by omega), if_neg e0]
      rfl
  · rw [if_neg e, if_neg e, if_neg e]
theorem both_l : ∀ (n : Nat) (s : ByteArray) (k : Nat) (a b : List ByteArray), s.size ≤ n → n < k → s.size ≤ 4611686018427387904 → a.length + n < 8796093022208 → b.length + n < 8796093022208 →
    interchangeref03_both.l0 k s a b = some (a ++ (fldR s).map (·.1), b ++ (fldR s).map (·.2)) := by
  intro n
  induction n with
  | zero =>
    intro s k a b hn hk _ _ _
    obtain ⟨k, rfl⟩ : ∃ j, k = j + 1 := ⟨k - 1, by omega⟩
    rw [interchangeref03_both.l0, if_neg (by omega), fldR_eq, if_pos (by omega)]
    simp
  | succ n ih =>
    intro s k a b hn hk hz ha hb
    obtain ⟨k, rfl⟩ : ∃ j, k = j + 1 := ⟨k - 1, by omega⟩
    rw [interchangeref03_both.l0]
    by_cases e : s.size = 0
    · rw [if_neg (by omega), fldR_eq, if_pos e]
      simp
    · have hl := left_less e
      have h2 := (ltake_size 1 s).2
      rw [if_pos (by omega), rtshort_f s hz, Option.bind_some, rValue_f _ (by omega), Option.bind_some, if_pos (by omega), if_pos (by omega)]
      have hh := ih (leftAt s) k (a ++ [keyAt s]) (b ++ [valAt s]) (by omega) (by omega) (by omega) (by simp only [List.length_append, List.length_singleton]; omega) (by simp only [List.length_append, List.length_singleton]; omega)
      unfold leftAt valAt taken1 keyAt at hh
      rw [hh, fldR_eq s, if_neg e]
      unfold leftAt valAt taken1 keyAt
      simp only [List.map_cons, List.append_assoc, List.singleton_append]
theorem whole_four {s : ByteArray} (h : wholeR s = 0) : 4 ≤ s.size ∧ inR s = s.extract 4 s.size := by
  obtain ⟨_, h1, _⟩ := whole_in h
  have ht : (takeR s 4).2.2 = 0 := by
    unfold ltakeR at h1
    by_cases e : (takeR s 4).2.2 = 0
    · exact e
    · rw [if_neg e] at h1; exact absurd h1 e
  unfold inR
  unfold takeR at ht ⊢
  rw [if_pos isW4] at ht ⊢
  by_cases c : (s.size : Int) < 4
  · rw [if_pos c] at ht
    exact absurd ht (show ¬ (2 : Int) = 0 by decide)
  · rw [if_neg c]
    exact ⟨by omega, rfl⟩
theorem both_k {k : Nat} {s : ByteArray} (h : wholeR s = 0) (hz : s.size ≤ 4294967296) (hk : s.size < k) : interchangeref03_both.f k s = some ((fldR (inR s)).map (·.1), (fldR (inR s)).map (·.2)) := by
  obtain ⟨h4, hi⟩ := whole_four h
  have hs := extract_size' s 4
  unfold interchangeref03_both.f
  rw [if_pos (by omega), ← hi]
  rw [← hi] at hs
  have := both_l s.size (inR s) k [] [] (by omega) hk (by omega) (by simp only [List.length_nil]; omega) (by simp only [List.length_nil]; omega)
  rw [this]
  rfl
theorem rKeys_k {k : Nat} (s : ByteArray) (hz : s.size ≤ 4294967296) (hk : s.size + 12 < k) : interchangeref03_Keys.f k s = some (keysR s) := by
  unfold interchangeref03_Keys.f
  rw [rDeep_k (by omega) s (by omega), Option.bind_some]
  unfold deepR keysR
  by_cases e : wholeR s = 0
  · rw [if_pos e, if_pos e]
    simp only
    rw [if_pos trivial, both_k e hz (by omega), Option.bind_some]
  · rw [if_neg e, if_neg e]
    simp only
    rw [if_neg e]
theorem find_l (key : ByteArray) (F : Fds) (hl : F.length ≤ 4611686018427387904) : ∀ (n i k : Nat), F.length = i + n → n < k →
    interchangeref03_Find.l0 k key (F.map (·.1)) (F.map (·.2)) (i : Int) = some (findF key (F.drop i)) := by
  intro n
  induction n with
  | zero =>
    intro i k h hk
    obtain ⟨k, rfl⟩ : ∃ j, k = j + 1 := ⟨k - 1, by omega⟩
    rw [interchangeref03_Find.l0, if_neg (by rw [List.length_map]; omega), List.drop_of_length_le (by omega)]
    rfl
  | succ n ih =>
    intro i k h hk
    obtain ⟨k, rfl⟩ : ∃ j, k = j + 1 := ⟨k - 1, by omega⟩
    have hd : F.drop i = F[i]'(by omega) :: F.drop (i + 1) := List.drop_eq_getElem_cons (by omega)
    have h1 : rdOf ByteArray.empty (F.map (·.1)) (i : Int) = (F[i]'(by omega)).1 := by
      unfold rdOf
      rw [Int.toNat_natCast]
      simp [show i < F.length by omega]
    have h2 : rdOf ByteArray.empty (F.map (·.2)) (i : Int) = (F[i]'(by omega)).2 := by
      unfold rdOf
      rw [Int.toNat_natCast]
      simp [show i < F.length by omega]
    have hw : wrap64 ((i : Int) + 1) = ((i + 1 : Nat) : Int) := by rw [wrap64_of (by omega) (by omega)]; omega
    rw [interchangeref03_Find.l0, if_pos (by rw [List.length_map]; omega), if_pos (by omega), h1, h2, hw, hd, findF]
    by_cases e : (F[i]'(by omega)).1.toList = key.toList
    · rw [if_pos e, if_pos e, if_pos (by rw [List.length_map]; omega)]
    · rw [if_neg e, if_neg e]
      exact ih (i + 1) k (by omega) (by omega)
theorem fld_len : ∀ (n : Nat) (s : ByteArray), s.size ≤ n → (fldR s).length ≤ n
  | 0, s, h => by rw [fldR_eq, if_pos (by omega)]; exact Nat.le_refl _
  | n + 1, s, h => by
    rw [fldR_eq]
    by_cases e : s.size = 0
    · rw [if_pos e]; exact Nat.zero_le _
    · rw [if_neg e, List.length_cons]
      have := fld_len n (leftAt s) (by have := left_less e; omega)
      omega
theorem rFind_k {k : Nat} (s key : ByteArray) (hz : s.size ≤ 4294967296) (hk : s.size + 12 < k) : interchangeref03_Find.f k s key = some (findR s key) := by
  unfold interchangeref03_Find.f
  rw [rDeep_k (by omega) s (by omega), Option.bind_some]
  unfold deepR findR
  by_cases e : wholeR s = 0
  · rw [if_pos e, if_pos e]
    simp only
    have hi := take_rest s 4
    have hfl := fld_len s.size (inR s) hi
    rw [if_pos trivial, both_k e hz (by omega), Option.bind_some]
    exact find_l key (fldR (inR s)) (by omega) (fldR (inR s)).length 0 k (by omega) (by omega)
  · rw [if_neg e, if_neg e]
    first | rfl | rw [if_neg e] | (simp only; rw [if_neg e])
theorem strings_l (a b : List ByteArray) (hl : a.length = b.length) (hz : a.length ≤ 4611686018427387904) : ∀ (n i k : Nat), a.length = i + n → n < k → interchangeref02_Strings.l0 k a b (i : Int) = some (decide (a.drop i = b.drop i)) := by
  intro n
  induction n with
  | zero =>
    intro i k h hk
    obtain ⟨k, rfl⟩ : ∃ j, k = j + 1 := ⟨k - 1, by omega⟩
    rw [interchangeref02_Strings.l0, if_neg (by omega), List.drop_of_length_le (by omega), List.drop_of_length_le (by omega)]
    rfl
  | succ n ih =>
    intro i k h hk
    obtain ⟨k, rfl⟩ : ∃ j, k = j + 1 := ⟨k - 1, by omega⟩
    have hd : ∀ (l : List ByteArray), i < l.length → l.drop i = rdOf ByteArray.empty l (i : Int) :: l.drop (i + 1) := by
      intro l hi
      rw [List.drop_eq_getElem_cons hi]
      congr 1
      unfold rdOf
      rw [Int.toNat_natCast]
      simp [hi]
    have hw : wrap64 ((i : Int) + 1) = ((i + 1 : Nat) : Int) := by rw [wrap64_of (by omega) (by omega)]; omega
    rw [interchangeref02_Strings.l0, if_pos (by omega), if_pos (by omega), if_pos (by omega), hw, hd a (by omega), hd b (by omega), ih (i + 1) k (by omega) (by omega)]
    by_cases e : (rdOf ByteArray.empty a (i : Int)).toList = (rdOf ByteArray.empty b (i : Int)).toList
    · rw [if_pos e]
      rw [toList_data, toList_data] at e
      have e' := eq_of_list e
      rw [e']
      congr 1
      simp
    · rw [if_neg e]
      have : ¬ rdOf ByteArray.empty a (i : Int) = rdOf ByteArray.empty b (i : Int) := fun h => e (by rw [h])
      congr 1
      simp [this]
theorem strings_k {k : Nat} (a b : List ByteArray) (hz : a.length ≤ 4611686018427387904) (hk : a.length < k) : interchangeref02_Strings.f k a b = some (decide (a = b)) := by
  unfold interchangeref02_Strings.f
  by_cases e : a.length = b.length
  · rw [if_pos (by omega)]
    exact strings_l a b e hz a.length 0 k (by omega) hk
  · rw [if_neg (by omega)]
    have : ¬ a = b := fun h => e (by rw [h])
    simp [this]
end Go.Proofs.YthdkmohelampbaaDoor.F
