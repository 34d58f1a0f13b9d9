-- pruned: for the answer 'true' alone
-- Printed by this session's program pf.py out of the kit's print.
import Derived.Test.YtoldelpmmlpgjaaDoorFbase
import Derived.Test.YtoldelpmmlpgjaaDoorFHoffers
import Derived.Test.YtoldelpmmlpgjaaDoorFinterchangelaw11shown
namespace Go.Proofs.YtoldelpmmlpgjaaDoor.F
open Go.RowKit Go.Proofs.YtoldelpmmlpgjaaDoorW.PrintWords Go.Proofs.YtoldelpmmlpgjaaDoorW.PrintLast Go.Proofs.YtoldelpmmlpgjaaDoorW.PrintMore
attribute [local go_sem] max2_int min2_int max_two min_two max_three min_three max_four min_four
set_option linter.unusedVariables false
set_option linter.unusedSimpArgs false

/-! ### interchangelaw11_DialOffers: function 4 -/
def interchangelaw11_DialOffers.l0 : Nat → ByteArray → ByteArray → ByteArray → Bool → Bool → Int → Option (Bool)
  | 0, _, _, _, _, _, _ => none
  | k + 1, x0, x1, x2, x7, x8, x9 => if x9 < (x2.size : Int) then (if x8 = true then (interchangelaw11_DialOffers.l0 k x0 x1 x2 x7 true (wrap64 (x9 + 1))) else (if 0 ≤ x9 then (interchangelaw11_DialOffers.l0 k x0 x1 x2 x7 ((bt x2 x9) == 32) (wrap64 (x9 + 1))) else (none))) else ((dial_Offers.f x0 x2).bind fun t132 => ((dial_Offers.f x1 x2).bind fun t133 => (if x7 = true then (if x0.size + 1 ≤ 9223372036854775807 then (if (x0 ++ (⟨#[32]⟩ : ByteArray)).size + x1.size ≤ 9223372036854775807 then ((dial_Offers.f ((x0 ++ (⟨#[32]⟩ : ByteArray)) ++ x1) x2).bind fun t134 => (if t132 = true then (if (t134 == true) = true then ((dial_Offers.f x2 x2).bind fun t135 => (if (t135 == (!x8)) = true then (if x8 = true then (some false) else (some true)) else (some false))) else (some false)) else (if (t134 == t133) = true then ((dial_Offers.f x2 x2).bind fun t136 => (if (t136 == (!x8)) = true then (if x8 = true then (some (!t133)) else (some true)) else (some false))) else (some false)))) else (none)) else (none)) else (some false))))
def interchangelaw11_DialOffers.f (k : Nat) (a0 : ByteArray) (a1 : ByteArray) (a2 : ByteArray) : Option (Bool) := (interchangelaw11_shown.f k).bind fun t131 => (interchangelaw11_DialOffers.l0 k a0 a1 a2 t131 (a2.toList == ([] : List UInt8)) 0)
theorem interchangelaw11_DialOffers.mono_l : ∀ k, (∀ y0 y1 y2 y3 y4 y5, LeO (interchangelaw11_DialOffers.l0 k y0 y1 y2 y3 y4 y5) (interchangelaw11_DialOffers.l0 (k + 1) y0 y1 y2 y3 y4 y5))
  | 0 => fun _ _ _ _ _ _ r h => by simp [interchangelaw11_DialOffers.l0] at h
  | k + 1 => by
    have ih0 := interchangelaw11_DialOffers.mono_l k
    · intro y0 y1 y2 y3 y4 y5
      unfold interchangelaw11_DialOffers.l0
      repeat' first
      | (with_reducible exact ih0 _ _ _ _ _ _)
      | (with_reducible exact interchangelaw11_shown.mono _)
      | (with_reducible exact LeO.refl _)
      | (with_reducible exact LeO.none _)
      | (with_reducible refine LeO.ite ?_ ?_)
      | (with_reducible refine LeO.bind ?_ (fun _ => ?_))
      | exact ih0 _ _ _ _ _ _
      | exact interchangelaw11_shown.mono _
      | exact LeO.none _
      | refine LeO.ite ?_ ?_
      | refine LeO.bind ?_ (fun _ => ?_)
theorem interchangelaw11_DialOffers.mono : ∀ a0 a1 a2 k, LeO (interchangelaw11_DialOffers.f k a0 a1 a2) (interchangelaw11_DialOffers.f (k + 1) a0 a1 a2) := by
  intro a0 a1 a2 k
  have ih0 := interchangelaw11_DialOffers.mono_l k
  unfold interchangelaw11_DialOffers.f
  repeat' first
      | (with_reducible exact ih0 _ _ _ _ _ _)
      | (with_reducible exact interchangelaw11_shown.mono _)
      | (with_reducible exact LeO.refl _)
      | (with_reducible exact LeO.none _)
      | (with_reducible refine LeO.ite ?_ ?_)
      | (with_reducible refine LeO.bind ?_ (fun _ => ?_))
      | exact ih0 _ _ _ _ _ _
      | exact interchangelaw11_shown.mono _
      | exact LeO.none _
      | refine LeO.ite ?_ ?_
      | refine LeO.bind ?_ (fun _ => ?_)
set_option maxHeartbeats 8000000 in
set_option maxRecDepth 100000 in
theorem interchangelaw11_DialOffers.calls (k : Nat) (a0 : ByteArray) (a1 : ByteArray) (a2 : ByteArray) (w : World) (h : interchangelaw11_DialOffers.f k a0 a1 a2 = some true) :
    Calls Tryd.prog 4 #[.string a0, .string a1, .string a2] w fun e w' => e = .returned (.bool true) ∧ Below w.heap.size w w' := by
  have HB := Aside0.mk (Below.refl w.heap.size w)
  have H : ((interchangelaw11_shown.f k).bind fun t131 => (interchangelaw11_DialOffers.l0 k a0 a1 a2 t131 (a2.toList == ([] : List UInt8)) 0)) = some true := h
  clear h
  replace H := Option.bind_eq_some_iff.mp H
  obtain ⟨t131, A40, H⟩ := H
  replace H : (interchangelaw11_DialOffers.l0 k a0 a1 a2 t131 (a2.toList == ([] : List UInt8)) 0) = some true := H
  have A4 := Aside0.mk A40
  clear A40
  have H' := Aside0.mk H
  clear H
  go_enter Tryd.func4, Tryd.ntmps4
  go_wp2_with (first | ((with_reducible refine gate_callee (f := 6) rfl ?_); refine goesL_ (some 12) rfl rfl Tryd.func6 (by kernel_rfl) rfl #[] rfl (by (try simp only [List.map_toArray, List.map_cons, List.map_nil]); first | done | rfl | (simp only [List.length_drop, List.length_take]; rfl)) ?_; (with_reducible refine (interchangelaw11_shown.calls k  t131 _ A4.out).mono ?_); rintro e w5 ⟨rfl, hb⟩; refine ⟨_, rfl, ?_⟩; have n0_ := Aside0.mk (below_step (by repeat (first | (with_reducible first | exact HB.out | apply below_alloc | apply pw_below_drewN | apply below_drew1) | exact HB.out)) hb); clear HB; have HB := n0_; clear n0_; (try clear hb); (try clear hb2); (try clear hk); (try clear hi)))
  go_loopg [8, 9] k (fun kq v8 v9 w' => ∃ (x8_1 : Bool) (x9_1 : Int), v8 = .bool x8_1 ∧ v9 = .int .i64 x9_1 ∧ Aside0 (interchangelaw11_DialOffers.l0 kq a0 a1 a2 t131 x8_1 x9_1 = some true) ∧ Aside0 (kq ≤ k) ∧ Aside0 (Below w.heap.size w w'))
  case atStart => exact ⟨((a2.toList == ([] : List UInt8))), (0), (by first | rfl | (simp; done) | (simp [*]; done)), (by first | rfl | (simp; done) | (simp [*]; done)), H', ⟨Nat.le_refl _⟩, ⟨by repeat (first | (with_reducible first | exact HB.out | apply below_alloc | apply pw_below_drewN | apply below_drew1) | exact HB.out)⟩⟩
  case round =>
    clear H'
    try clear p2
    try clear c4
    obtain ⟨x8_1, x9_1, rfl, rfl, HA, HK1, HB⟩ := hrel
    cases gk with
    | zero => exact absurd HA.out (by simp [interchangelaw11_DialOffers.l0])
    | succ k1 =>
      have H := HA.out
      clear HA
      simp only [interchangelaw11_DialOffers.l0] at H
      by_cases c6 : x9_1 < (a2.size : Int)
      · rw [if_pos c6] at H
        have c6b0 : decide (x9_1 < (a2.size : Int)) = true := decide_eq_true c6
        clear c6
        by_cases c7 : x8_1 = true
        · subst c7
          have H1 : (interchangelaw11_DialOffers.l0 k1 a0 a1 a2 t131 true (wrap64 (x9_1 + 1))) = some true := by rw [if_pos rfl] at H; first | done | exact H
          clear H
          have H := H1
          clear H1
          have H' := Aside0.mk H
          clear H
          go_wp2
          go_roundg k1
          case measure => have := HK1.out; omega
          case rel => exact ⟨(true), (wrap64 (x9_1 + 1)), (by first | rfl | (simp; done) | (simp [*]; done)), (by first | rfl | (simp; done) | (simp [*]; done)), H', ⟨by have := HK1.out; omega⟩, ⟨by repeat (first | (with_reducible first | exact HB.out | apply below_alloc | apply pw_below_drewN | apply below_drew1) | exact HB.out)⟩⟩
        · replace c7 := Bool.eq_false_iff.mpr c7
          subst c7
          have H1 : (if 0 ≤ x9_1 then (interchangelaw11_DialOffers.l0 k1 a0 a1 a2 t131 ((bt a2 x9_1) == 32) (wrap64 (x9_1 + 1))) else (none)) = some true := by rw [if_neg (show ¬ (false = true) by decide)] at H; first | done | exact H
          clear H
          have H := H1
          clear H1
          by_cases c8 : 0 ≤ x9_1
          · rw [if_pos c8] at H
            have c8b0 : decide (0 ≤ x9_1) = true := decide_eq_true c8
            clear c8
            have H' := Aside0.mk H
            clear H
            have p9 : 0 ≤ (x9_1 : Int) := of_decide_eq_true (by first | (with_reducible assumption) | assumption)
            have q9 : x9_1 < (a2.size : Int) := of_decide_eq_true (by first | (with_reducible assumption) | assumption)
            have hx9 := bt_at a2 x9_1
            replace p9 := eq_true p9
            replace q9 := eq_true q9
            go_wp2
            go_roundg k1
            case measure => have := HK1.out; omega
            case rel => exact ⟨(((bt a2 x9_1) == 32)), (wrap64 (x9_1 + 1)), (by first | rfl | (simp; done) | (simp [*]; done)), (by first | rfl | (simp; done) | (simp [*]; done)), H', ⟨by have := HK1.out; omega⟩, ⟨by repeat (first | (with_reducible first | exact HB.out | apply below_alloc | apply pw_below_drewN | apply below_drew1) | exact HB.out)⟩⟩
          · rw [if_neg c8] at H
            exact absurd H (by simp)
      · rw [if_neg c6] at H
        have c6b0 : decide (x9_1 < (a2.size : Int)) = false := decide_eq_false c6
        clear c6
        replace H := Option.bind_eq_some_iff.mp H
        obtain ⟨t132, A100, H⟩ := H
        replace H : ((dial_Offers.f a1 a2).bind fun t133 => (if t131 = true then (if a0.size + 1 ≤ 9223372036854775807 then (if (a0 ++ (⟨#[32]⟩ : ByteArray)).size + a1.size ≤ 9223372036854775807 then ((dial_Offers.f ((a0 ++ (⟨#[32]⟩ : ByteArray)) ++ a1) a2).bind fun t134 => (if t132 = true then (if (t134 == true) = true then ((dial_Offers.f a2 a2).bind fun t135 => (if (t135 == (!x8_1)) = true then (if x8_1 = true then (some false) else (some true)) else (some false))) else (some false)) else (if (t134 == t133) = true then ((dial_Offers.f a2 a2).bind fun t136 => (if (t136 == (!x8_1)) = true then (if x8_1 = true then (some (!t133)) else (some true)) else (some false))) else (some false)))) else (none)) else (none)) else (some false))) = some true := H
        have A10 := Aside0.mk A100
        clear A100
        replace H := Option.bind_eq_some_iff.mp H
        obtain ⟨t133, A110, H⟩ := H
        replace H : (if t131 = true then (if a0.size + 1 ≤ 9223372036854775807 then (if (a0 ++ (⟨#[32]⟩ : ByteArray)).size + a1.size ≤ 9223372036854775807 then ((dial_Offers.f ((a0 ++ (⟨#[32]⟩ : ByteArray)) ++ a1) a2).bind fun t134 => (if t132 = true then (if (t134 == true) = true then ((dial_Offers.f a2 a2).bind fun t135 => (if (t135 == (!x8_1)) = true then (if x8_1 = true then (some false) else (some true)) else (some false))) else (some false)) else (if (t134 == t133) = true then ((dial_Offers.f a2 a2).bind fun t136 => (if (t136 == (!x8_1)) = true then (if x8_1 = true then (some (!t133)) else (some true)) else (some false))) else (some false)))) else (none)) else (none)) else (some false)) = some true := H
        have A11 := Aside0.mk A110
        clear A110
        by_cases c12 : t131 = true
        · subst c12
          have H1 : (if a0.size + 1 ≤ 9223372036854775807 then (if (a0 ++ (⟨#[32]⟩ : ByteArray)).size + a1.size ≤ 9223372036854775807 then ((dial_Offers.f ((a0 ++ (⟨#[32]⟩ : ByteArray)) ++ a1) a2).bind fun t134 => (if t132 = true then (if (t134 == true) = true then ((dial_Offers.f a2 a2).bind fun t135 => (if (t135 == (!x8_1)) = true then (if x8_1 = true then (some false) else (some true)) else (some false))) else (some false)) else (if (t134 == t133) = true then ((dial_Offers.f a2 a2).bind fun t136 => (if (t136 == (!x8_1)) = true then (if x8_1 = true then (some (!t133)) else (some true)) else (some false))) else (some false)))) else (none)) else (none)) = some true := by rw [if_pos rfl] at H; first | done | exact H
          clear H
          have H := H1
          clear H1
          by_cases c13 : a0.size + 1 ≤ 9223372036854775807
          · rw [if_pos c13] at H
            have c13b0 := eq_true c13
            have c13b1 : decide (a0.size + 1 ≤ 9223372036854775807) = true := decide_eq_true c13
            try have c13b2 : (9223372036854775807 < a0.size + 1) = False := eq_false (Nat.not_lt.2 c13)
            by_cases c14 : (a0 ++ (⟨#[32]⟩ : ByteArray)).size + a1.size ≤ 9223372036854775807
            · rw [if_pos c14] at H
              have c14b0 := eq_true c14
              have c14b1 : decide ((a0 ++ (⟨#[32]⟩ : ByteArray)).size + a1.size ≤ 9223372036854775807) = true := decide_eq_true c14
              try have c14b2 : (9223372036854775807 < (a0 ++ (⟨#[32]⟩ : ByteArray)).size + a1.size) = False := eq_false (Nat.not_lt.2 c14)
              try have c14b3 : (9223372036854775807 < a0.size + 1 + a1.size) = False := eq_false (by have h_ := c14; have e0_ : ((⟨#[32]⟩ : ByteArray) : ByteArray).size = 1 := rfl; simp only [ByteArray.size_append, e0_] at h_; omega)
              replace H := Option.bind_eq_some_iff.mp H
              obtain ⟨t134, A150, H⟩ := H
              replace H : (if t132 = true then (if (t134 == true) = true then ((dial_Offers.f a2 a2).bind fun t135 => (if (t135 == (!x8_1)) = true then (if x8_1 = true then (some false) else (some true)) else (some false))) else (some false)) else (if (t134 == t133) = true then ((dial_Offers.f a2 a2).bind fun t136 => (if (t136 == (!x8_1)) = true then (if x8_1 = true then (some (!t133)) else (some true)) else (some false))) else (some false))) = some true := H
              have A15 := Aside0.mk A150
              clear A150
              by_cases c16 : t132 = true
              · subst c16
                have H1 : (if (t134 == true) = true then ((dial_Offers.f a2 a2).bind fun t135 => (if (t135 == (!x8_1)) = true then (if x8_1 = true then (some false) else (some true)) else (some false))) else (some false)) = some true := by rw [if_pos rfl] at H; first | done | exact H
                clear H
                have H := H1
                clear H1
                by_cases c17 : (t134 == true) = true
                · rw [if_pos c17] at H
                  have c17b0 : (t134 == true) = true := c17
                  (try (have c17b1 : decide (t134 = true) = true := by simpa using c17))
                  (try (have c17b2 : (t134 == true) = true := by simpa using c17))
                  clear c17
                  replace H := Option.bind_eq_some_iff.mp H
                  obtain ⟨t135, A180, H⟩ := H
                  replace H : (if (t135 == (!x8_1)) = true then (if x8_1 = true then (some false) else (some true)) else (some false)) = some true := H
                  have A18 := Aside0.mk A180
                  clear A180
                  by_cases c19 : (t135 == (!x8_1)) = true
                  · rw [if_pos c19] at H
                    have c19b0 : (t135 == (!x8_1)) = true := c19
                    (try (have c19b1 : decide (t135 = (!x8_1)) = true := by simpa using c19))
                    (try (have c19b2 : (t135 == (!x8_1)) = true := by simpa using c19))
                    clear c19
                    by_cases c20 : x8_1 = true
                    · subst c20
                      have H1 : (some false) = some true := by rw [if_pos rfl] at H; first | done | exact H
                      clear H
                      have H := H1
                      clear H1
                      exact absurd H (by decide)
                    · replace c20 := Bool.eq_false_iff.mpr c20
                      subst c20
                      have H1 : (some true) = some true := by rw [if_neg (show ¬ (false = true) by decide)] at H; first | done | exact H
                      clear H
                      have H := H1
                      clear H1
                      have HR_ := Aside0.mk (Option.some.inj H)
                      clear H
                      (try simp at c17b0)
                      (try simp at c19b0)
                      go_wp2_with (first | ((with_reducible refine gate_callee (f := 9) rfl ?_); refine goesL_ (some 30) rfl rfl Tryd.func9 (by kernel_rfl) rfl #[.string a0, .string a2] rfl (by (try simp only [List.map_toArray, List.map_cons, List.map_nil]); first | done | rfl | (simp only [List.length_drop, List.length_take]; rfl)) ?_; (with_reducible refine (dial_Offers.calls a0 a2 true _ A10.out).mono ?_); rintro e w25 ⟨rfl, hb⟩; refine ⟨_, rfl, ?_⟩; have n0_ := Aside0.mk (below_step (by repeat (first | (with_reducible first | exact HB.out | apply below_alloc | apply pw_below_drewN | apply below_drew1) | exact HB.out)) hb); clear HB; have HB := n0_; clear n0_; (try clear hb); (try clear hb2); (try clear hk); (try clear hi)) | ((with_reducible refine gate_callee (f := 9) rfl ?_); refine goesL_ (some 33) rfl rfl Tryd.func9 (by kernel_rfl) rfl #[.string a1, .string a2] rfl (by (try simp only [List.map_toArray, List.map_cons, List.map_nil]); first | done | rfl | (simp only [List.length_drop, List.length_take]; rfl)) ?_; (with_reducible refine (dial_Offers.calls a1 a2 t133 _ A11.out).mono ?_); rintro e w26 ⟨rfl, hb⟩; refine ⟨_, rfl, ?_⟩; have n0_ := Aside0.mk (below_step (by repeat (first | (with_reducible first | exact HB.out | apply below_alloc | apply pw_below_drewN | apply below_drew1) | exact HB.out)) hb); clear HB; have HB := n0_; clear n0_; (try clear hb); (try clear hb2); (try clear hk); (try clear hi)) | (go_at_call 9; (with_reducible refine (dial_Offers.calls ((a0 ++ (⟨#[32]⟩ : ByteArray)) ++ a1) a2 t134 _ A15.out).mono ?_); rintro e w27 ⟨rfl, hb⟩; have n0_ := Aside0.mk (below_step (by repeat (first | (with_reducible first | exact HB.out | apply below_alloc | apply pw_below_drewN | apply below_drew1) | exact HB.out)) hb); clear HB; have HB := n0_; clear n0_; (try clear hb); (try clear hb2); (try clear hk); (try clear hi)) | (go_at_call 9; (with_reducible refine (dial_Offers.calls a2 a2 t135 _ A18.out).mono ?_); rintro e w28 ⟨rfl, hb⟩; have n0_ := Aside0.mk (below_step (by repeat (first | (with_reducible first | exact HB.out | apply below_alloc | apply pw_below_drewN | apply below_drew1) | exact HB.out)) hb); clear HB; have HB := n0_; clear n0_; (try clear hb); (try clear hb2); (try clear hk); (try clear hi)))
                      go_ret
                      exact ⟨by have HR0_ := HR_.out; first | exact congrArg (fun b_ => Ending.returned (Value.bool b_)) HR0_ | rfl | (simp [errW_none, errW_some] <;> rfl) | (simp [*, errW_none, errW_some] <;> rfl), by repeat (first | (with_reducible first | exact HB.out | apply below_alloc | apply pw_below_drewN | apply below_drew1) | exact HB.out)⟩
                  · rw [if_neg c19] at H
                    have c19b0 : (t135 == (!x8_1)) = false := by simpa using c19
                    (try (have c19b1 : decide (t135 = (!x8_1)) = false := by simpa using c19))
                    (try (have c19b2 : (t135 == (!x8_1)) = false := by simpa using c19))
                    (try (have c19b3 : ¬ (t135 = (!x8_1)) := by simpa using c19))
                    clear c19
                    exact absurd H (by decide)
                · rw [if_neg c17] at H
                  have c17b0 : (t134 == true) = false := by simpa using c17
                  (try (have c17b1 : decide (t134 = true) = false := by simpa using c17))
                  (try (have c17b2 : (t134 == true) = false := by simpa using c17))
                  (try (have c17b3 : ¬ (t134 = true) := by simpa using c17))
                  clear c17
                  exact absurd H (by decide)
              · replace c16 := Bool.eq_false_iff.mpr c16
                subst c16
                have H1 : (if (t134 == t133) = true then ((dial_Offers.f a2 a2).bind fun t136 => (if (t136 == (!x8_1)) = true then (if x8_1 = true then (some (!t133)) else (some true)) else (some false))) else (some false)) = some true := by rw [if_neg (show ¬ (false = true) by decide)] at H; first | done | exact H
                clear H
                have H := H1
                clear H1
                by_cases c36 : (t134 == t133) = true
                · rw [if_pos c36] at H
                  have c36b0 : (t134 == t133) = true := c36
                  (try (have c36b1 : decide (t134 = t133) = true := by simpa using c36))
                  (try (have c36b2 : (t134 == t133) = true := by simpa using c36))
                  clear c36
                  replace H := Option.bind_eq_some_iff.mp H
                  obtain ⟨t136, A370, H⟩ := H
                  replace H : (if (t136 == (!x8_1)) = true then (if x8_1 = true then (some (!t133)) else (some true)) else (some false)) = some true := H
                  have A37 := Aside0.mk A370
                  clear A370
                  by_cases c38 : (t136 == (!x8_1)) = true
                  · rw [if_pos c38] at H
                    have c38b0 : (t136 == (!x8_1)) = true := c38
                    (try (have c38b1 : decide (t136 = (!x8_1)) = true := by simpa using c38))
                    (try (have c38b2 : (t136 == (!x8_1)) = true := by simpa using c38))
                    clear c38
                    by_cases c39 : x8_1 = true
                    · subst c39
                      have H1 : (some (!t133)) = some true := by rw [if_pos rfl] at H; first | done | exact H
                      clear H
                      have H := H1
                      clear H1
                      have HR_ := Aside0.mk (Option.some.inj H)
                      clear H
                      (try simp at c36b0)
                      (try simp at c38b0)
                      go_wp2_with (first | ((with_reducible refine gate_callee (f := 9) rfl ?_); refine goesL_ (some 30) rfl rfl Tryd.func9 (by kernel_rfl) rfl #[.string a0, .string a2] rfl (by (try simp only [List.map_toArray, List.map_cons, List.map_nil]); first | done | rfl | (simp only [List.length_drop, List.length_take]; rfl)) ?_; (with_reducible refine (dial_Offers.calls a0 a2 false _ A10.out).mono ?_); rintro e w40 ⟨rfl, hb⟩; refine ⟨_, rfl, ?_⟩; have n0_ := Aside0.mk (below_step (by repeat (first | (with_reducible first | exact HB.out | apply below_alloc | apply pw_below_drewN | apply below_drew1) | exact HB.out)) hb); clear HB; have HB := n0_; clear n0_; (try clear hb); (try clear hb2); (try clear hk); (try clear hi)) | ((with_reducible refine gate_callee (f := 9) rfl ?_); refine goesL_ (some 33) rfl rfl Tryd.func9 (by kernel_rfl) rfl #[.string a1, .string a2] rfl (by (try simp only [List.map_toArray, List.map_cons, List.map_nil]); first | done | rfl | (simp only [List.length_drop, List.length_take]; rfl)) ?_; (with_reducible refine (dial_Offers.calls a1 a2 t133 _ A11.out).mono ?_); rintro e w41 ⟨rfl, hb⟩; refine ⟨_, rfl, ?_⟩; have n0_ := Aside0.mk (below_step (by repeat (first | (with_reducible first | exact HB.out | apply below_alloc | apply pw_below_drewN | apply below_drew1) | exact HB.out)) hb); clear HB; have HB := n0_; clear n0_; (try clear hb); (try clear hb2); (try clear hk); (try clear hi)) | (go_at_call 9; (with_reducible refine (dial_Offers.calls ((a0 ++ (⟨#[32]⟩ : ByteArray)) ++ a1) a2 t134 _ A15.out).mono ?_); rintro e w42 ⟨rfl, hb⟩; have n0_ := Aside0.mk (below_step (by repeat (first | (with_reducible first | exact HB.out | apply below_alloc | apply pw_below_drewN | apply below_drew1) | exact HB.out)) hb); clear HB; have HB := n0_; clear n0_; (try clear hb); (try clear hb2); (try clear hk); (try clear hi)) | (go_at_call 9; (with_reducible refine (dial_Offers.calls a2 a2 t136 _ A37.out).mono ?_); rintro e w43 ⟨rfl, hb⟩; have n0_ := Aside0.mk (below_step (by repeat (first | (with_reducible first | exact HB.out | apply below_alloc | apply pw_below_drewN | apply below_drew1) | exact HB.out)) hb); clear HB; have HB := n0_; clear n0_; (try clear hb); (try clear hb2); (try clear hk); (try clear hi)))
                      go_ret
                      exact ⟨by have HR0_ := HR_.out; first | exact congrArg (fun b_ => Ending.returned (Value.bool b_)) HR0_ | rfl | (simp [errW_none, errW_some] <;> rfl) | (simp [*, errW_none, errW_some] <;> rfl), by repeat (first | (with_reducible first | exact HB.out | apply below_alloc | apply pw_below_drewN | apply below_drew1) | exact HB.out)⟩
                    · replace c39 := Bool.eq_false_iff.mpr c39
                      subst c39
                      have H1 : (some true) = some true := by rw [if_neg (show ¬ (false = true) by decide)] at H; first | done | exact H
                      clear H
                      have H := H1
                      clear H1
                      have HR_ := Aside0.mk (Option.some.inj H)
                      clear H
                      (try simp at c36b0)
                      (try simp at c38b0)
                      go_wp2_with (first | ((with_reducible refine gate_callee (f := 9) rfl ?_); refine goesL_ (some 30) rfl rfl Tryd.func9 (by kernel_rfl) rfl #[.string a0, .string a2] rfl (by (try simp only [List.map_toArray, List.map_cons, List.map_nil]); first | done | rfl | (simp only [List.length_drop, List.length_take]; rfl)) ?_; (with_reducible refine (dial_Offers.calls a0 a2 false _ A10.out).mono ?_); rintro e w44 ⟨rfl, hb⟩; refine ⟨_, rfl, ?_⟩; have n0_ := Aside0.mk (below_step (by repeat (first | (with_reducible first | exact HB.out | apply below_alloc | apply pw_below_drewN | apply below_drew1) | exact HB.out)) hb); clear HB; have HB := n0_; clear n0_; (try clear hb); (try clear hb2); (try clear hk); (try clear hi)) | ((with_reducible refine gate_callee (f := 9) rfl ?_); refine goesL_ (some 33) rfl rfl Tryd.func9 (by kernel_rfl) rfl #[.string a1, .string a2] rfl (by (try simp only [List.map_toArray, List.map_cons, List.map_nil]); first | done | rfl | (simp only [List.length_drop, List.length_take]; rfl)) ?_; (with_reducible refine (dial_Offers.calls a1 a2 t133 _ A11.out).mono ?_); rintro e w45 ⟨rfl, hb⟩; refine ⟨_, rfl, ?_⟩; have n0_ := Aside0.mk (below_step (by repeat (first | (with_reducible first | exact HB.out | apply below_alloc | apply pw_below_drewN | apply below_drew1) | exact HB.out)) hb); clear HB; have HB := n0_; clear n0_; (try clear hb); (try clear hb2); (try clear hk); (try clear hi)) | (go_at_call 9; (with_reducible refine (dial_Offers.calls ((a0 ++ (⟨#[32]⟩ : ByteArray)) ++ a1) a2 t134 _ A15.out).mono ?_); rintro e w46 ⟨rfl, hb⟩; have n0_ := Aside0.mk (below_step (by repeat (first | (with_reducible first | exact HB.out | apply below_alloc | apply pw_below_drewN | apply below_drew1) | exact HB.out)) hb); clear HB; have HB := n0_; clear n0_; (try clear hb); (try clear hb2); (try clear hk); (try clear hi)) | (go_at_call 9; (with_reducible refine (dial_Offers.calls a2 a2 t136 _ A37.out).mono ?_); rintro e w47 ⟨rfl, hb⟩; have n0_ := Aside0.mk (below_step (by repeat (first | (with_reducible first | exact HB.out | apply below_alloc | apply pw_below_drewN | apply below_drew1) | exact HB.out)) hb); clear HB; have HB := n0_; clear n0_; (try clear hb); (try clear hb2); (try clear hk); (try clear hi)))
                      go_ret
                      exact ⟨by have HR0_ := HR_.out; first | exact congrArg (fun b_ => Ending.returned (Value.bool b_)) HR0_ | rfl | (simp [errW_none, errW_some] <;> rfl) | (simp [*, errW_none, errW_some] <;> rfl), by repeat (first | (with_reducible first | exact HB.out | apply below_alloc | apply pw_below_drewN | apply below_drew1) | exact HB.out)⟩
                  · rw [if_neg c38] at H
                    have c38b0 : (t136 == (!x8_1)) = false := by simpa using c38
                    (try (have c38b1 : decide (t136 = (!x8_1)) = false := by simpa using c38))
                    (try (have c38b2 : (t136 == (!x8_1)) = false := by simpa using c38))
                    (try (have c38b3 : ¬ (t136 = (!x8_1)) := by simpa using c38))
                    clear c38
                    exact absurd H (by decide)
                · rw [if_neg c36] at H
                  have c36b0 : (t134 == t133) = false := by simpa using c36
                  (try (have c36b1 : decide (t134 = t133) = false := by simpa using c36))
                  (try (have c36b2 : (t134 == t133) = false := by simpa using c36))
                  (try (have c36b3 : ¬ (t134 = t133) := by simpa using c36))
                  clear c36
                  exact absurd H (by decide)
            · rw [if_neg c14] at H
              exact absurd H (by simp)
          · rw [if_neg c13] at H
            exact absurd H (by simp)
        · replace c12 := Bool.eq_false_iff.mpr c12
          subst c12
          have H1 : (some false) = some true := by rw [if_neg (show ¬ (false = true) by decide)] at H; first | done | exact H
          clear H
          have H := H1
          clear H1
          exact absurd H (by decide)


end Go.Proofs.YtoldelpmmlpgjaaDoor.F
