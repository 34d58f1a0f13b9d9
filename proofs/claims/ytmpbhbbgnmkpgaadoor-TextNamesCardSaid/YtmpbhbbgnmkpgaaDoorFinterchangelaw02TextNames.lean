-- pruned: for the answer 'true' alone
-- Printed by this session's program pf.py out of the kit's print.
import Derived.Test.YtmpbhbbgnmkpgaaDoorFbase
import Derived.Test.YtmpbhbbgnmkpgaaDoorFHname
import Derived.Test.YtmpbhbbgnmkpgaaDoorFinterchangelaw02shown
namespace Go.Proofs.YtmpbhbbgnmkpgaaDoor.F
open Go.RowKit Go.Proofs.YtmpbhbbgnmkpgaaDoorW.PrintWords Go.Proofs.YtmpbhbbgnmkpgaaDoorW.PrintLast Go.Proofs.YtmpbhbbgnmkpgaaDoorW.PrintMore
attribute [local go_sem] max2_int min2_int max_two min_two max_three min_three max_four min_four
set_option linter.unusedVariables false
set_option linter.unusedSimpArgs false

/-! ### interchangelaw02_TextNames: function 4 -/
def interchangelaw02_TextNames.j0 : Nat → ByteArray → ByteArray → Bool → Bool → Option (Bool)
  | 0, _, _, _, _ => none
  | k + 1, x0, x1, x5, x29 => if x29 = true then (some false) else (if x5 = true then (if x0.size + 1 ≤ 9223372036854775807 then (if (x0 ++ (⟨#[32]⟩ : ByteArray)).size + x1.size ≤ 9223372036854775807 then ((text_Name.f ((x0 ++ (⟨#[32]⟩ : ByteArray)) ++ x1)).bind fun t142 => (if t142 = true then (some false) else (if (x0 ++ (⟨#[47]⟩ : ByteArray)).size + x1.size ≤ 9223372036854775807 then ((text_Name.f ((x0 ++ (⟨#[47]⟩ : ByteArray)) ++ x1)).bind fun t143 => (if t143 = true then (some false) else (if (x0 ++ (⟨#[0]⟩ : ByteArray)).size + x1.size ≤ 9223372036854775807 then ((text_Name.f ((x0 ++ (⟨#[0]⟩ : ByteArray)) ++ x1)).bind fun t144 => (some (!t144))) else (none)))) else (none)))) else (none)) else (none)) else (some false))
def interchangelaw02_TextNames.f (k : Nat) (a0 : ByteArray) (a1 : ByteArray) : Option (Bool) := (interchangelaw02_shown.f k).bind fun t138 => ((text_Name.f a0).bind fun t139 => ((text_Name.f a1).bind fun t140 => (if t139 = true then (if t140 = true then (if a0.size + a1.size ≤ 9223372036854775807 then ((text_Name.f (a0 ++ a1)).bind fun t141 => (interchangelaw02_TextNames.j0 k a0 a1 t138 (t141 != (decide ((wrap64 ((a0.size : Int) + (a1.size : Int))) ≤ 127))))) else (none)) else (interchangelaw02_TextNames.j0 k a0 a1 t138 false)) else (interchangelaw02_TextNames.j0 k a0 a1 t138 false))))
theorem interchangelaw02_TextNames.mono_l : ∀ k, (∀ y0 y1 y2 y3, LeO (interchangelaw02_TextNames.j0 k y0 y1 y2 y3) (interchangelaw02_TextNames.j0 (k + 1) y0 y1 y2 y3))
  | 0 => fun _ _ _ _ r h => by simp [interchangelaw02_TextNames.j0] at h
  | k + 1 => by
    have ih0 := interchangelaw02_TextNames.mono_l k
    · intro y0 y1 y2 y3
      unfold interchangelaw02_TextNames.j0
      repeat' first
      | (with_reducible exact ih0 _ _ _ _)
      | (with_reducible exact interchangelaw02_shown.mono _)
      | (with_reducible exact LeO.refl _)
      | (with_reducible exact LeO.none _)
      | (with_reducible refine LeO.ite ?_ ?_)
      | (with_reducible refine LeO.bind ?_ (fun _ => ?_))
      | exact ih0 _ _ _ _
      | exact interchangelaw02_shown.mono _
      | exact LeO.none _
      | refine LeO.ite ?_ ?_
      | refine LeO.bind ?_ (fun _ => ?_)
theorem interchangelaw02_TextNames.mono : ∀ a0 a1 k, LeO (interchangelaw02_TextNames.f k a0 a1) (interchangelaw02_TextNames.f (k + 1) a0 a1) := by
  intro a0 a1 k
  have ih0 := interchangelaw02_TextNames.mono_l k
  unfold interchangelaw02_TextNames.f
  repeat' first
      | (with_reducible exact ih0 _ _ _ _)
      | (with_reducible exact interchangelaw02_shown.mono _)
      | (with_reducible exact LeO.refl _)
      | (with_reducible exact LeO.none _)
      | (with_reducible refine LeO.ite ?_ ?_)
      | (with_reducible refine LeO.bind ?_ (fun _ => ?_))
      | exact ih0 _ _ _ _
      | exact interchangelaw02_shown.mono _
      | exact LeO.none _
      | refine LeO.ite ?_ ?_
      | refine LeO.bind ?_ (fun _ => ?_)
set_option maxHeartbeats 8000000 in
set_option maxRecDepth 100000 in
theorem interchangelaw02_TextNames.calls (k : Nat) (a0 : ByteArray) (a1 : ByteArray) (w : World) (hg : Laid w) (h : interchangelaw02_TextNames.f k a0 a1 = some true) :
    Calls Tryd.prog 4 #[.string a0, .string a1] w fun e w' => e = .returned (.bool true) ∧ Below w.heap.size w w' := by
  have HG := Aside0.mk hg
  clear hg
  have HB := Aside0.mk (Below.refl w.heap.size w)
  have H : ((interchangelaw02_shown.f k).bind fun t138 => ((text_Name.f a0).bind fun t139 => ((text_Name.f a1).bind fun t140 => (if t139 = true then (if t140 = true then (if a0.size + a1.size ≤ 9223372036854775807 then ((text_Name.f (a0 ++ a1)).bind fun t141 => (interchangelaw02_TextNames.j0 k a0 a1 t138 (t141 != (decide ((wrap64 ((a0.size : Int) + (a1.size : Int))) ≤ 127))))) else (none)) else (interchangelaw02_TextNames.j0 k a0 a1 t138 false)) else (interchangelaw02_TextNames.j0 k a0 a1 t138 false))))) = some true := h
  clear h
  replace H := Option.bind_eq_some_iff.mp H
  obtain ⟨t138, A30, H⟩ := H
  replace H : ((text_Name.f a0).bind fun t139 => ((text_Name.f a1).bind fun t140 => (if t139 = true then (if t140 = true then (if a0.size + a1.size ≤ 9223372036854775807 then ((text_Name.f (a0 ++ a1)).bind fun t141 => (interchangelaw02_TextNames.j0 k a0 a1 t138 (t141 != (decide ((wrap64 ((a0.size : Int) + (a1.size : Int))) ≤ 127))))) else (none)) else (interchangelaw02_TextNames.j0 k a0 a1 t138 false)) else (interchangelaw02_TextNames.j0 k a0 a1 t138 false)))) = some true := H
  have A3 := Aside0.mk A30
  clear A30
  replace H := Option.bind_eq_some_iff.mp H
  obtain ⟨t139, A40, H⟩ := H
  replace H : ((text_Name.f a1).bind fun t140 => (if t139 = true then (if t140 = true then (if a0.size + a1.size ≤ 9223372036854775807 then ((text_Name.f (a0 ++ a1)).bind fun t141 => (interchangelaw02_TextNames.j0 k a0 a1 t138 (t141 != (decide ((wrap64 ((a0.size : Int) + (a1.size : Int))) ≤ 127))))) else (none)) else (interchangelaw02_TextNames.j0 k a0 a1 t138 false)) else (interchangelaw02_TextNames.j0 k a0 a1 t138 false))) = some true := H
  have A4 := Aside0.mk A40
  clear A40
  replace H := Option.bind_eq_some_iff.mp H
  obtain ⟨t140, A50, H⟩ := H
  replace H : (if t139 = true then (if t140 = true then (if a0.size + a1.size ≤ 9223372036854775807 then ((text_Name.f (a0 ++ a1)).bind fun t141 => (interchangelaw02_TextNames.j0 k a0 a1 t138 (t141 != (decide ((wrap64 ((a0.size : Int) + (a1.size : Int))) ≤ 127))))) else (none)) else (interchangelaw02_TextNames.j0 k a0 a1 t138 false)) else (interchangelaw02_TextNames.j0 k a0 a1 t138 false)) = some true := H
  have A5 := Aside0.mk A50
  clear A50
  have HC6 := Aside0.mk H
  clear H
  go_enter Tryd.func4, Tryd.ntmps4
  go_upto_region 4 with (first | ((with_reducible refine gate_callee (f := 11) rfl ?_); refine goesL_ (some 8) rfl rfl Tryd.func11 (by kernel_rfl) rfl #[] rfl (by (try simp only [List.map_toArray, List.map_cons, List.map_nil]); first | done | rfl | (simp only [List.length_drop, List.length_take]; rfl)) ?_; (with_reducible refine (interchangelaw02_shown.calls k t138 _ ?lg A3.out).mono ?_); (case lg => exact (HG.out.below (by repeat (first | (with_reducible first | exact HB.out | apply below_alloc | apply pw_below_drewN | apply below_drew1) | exact HB.out)))); rintro e w7 ⟨rfl, hb⟩; refine ⟨_, rfl, ?_⟩; have n0_ := Aside0.mk (below_step (by repeat (first | (with_reducible first | exact HB.out | apply below_alloc | apply pw_below_drewN | apply below_drew1) | exact HB.out)) hb); clear HB; have HB := n0_; clear n0_; (try clear hb); (try clear hb2); (try clear hk); (try clear hi)) | ((with_reducible refine gate_callee (f := 13) rfl ?_); refine goesL_ (some 10) rfl rfl Tryd.func13 (by kernel_rfl) rfl #[.string a0] rfl (by (try simp only [List.map_toArray, List.map_cons, List.map_nil]); first | done | rfl | (simp only [List.length_drop, List.length_take]; rfl)) ?_; (with_reducible refine (text_Name.calls a0 t139 _ A4.out).mono ?_); rintro e w' ⟨rfl, ⟨nd, rfl⟩⟩; refine ⟨_, rfl, ?_⟩) | ((with_reducible refine gate_callee (f := 13) rfl ?_); refine goesL_ (some 12) rfl rfl Tryd.func13 (by kernel_rfl) rfl #[.string a1] rfl (by (try simp only [List.map_toArray, List.map_cons, List.map_nil]); first | done | rfl | (simp only [List.length_drop, List.length_take]; rfl)) ?_; (with_reducible refine (text_Name.calls a1 t140 _ A5.out).mono ?_); rintro e w' ⟨rfl, ⟨nd, rfl⟩⟩; refine ⟨_, rfl, ?_⟩))
  (try simp only [Act.put, List.setIfInBounds_toArray, List.set_cons_zero, List.set_cons_succ])
  go_cut [29] (fun v29 wc => ∃ (kq : Nat) (x29_5 : Bool), v29 = .bool x29_5 ∧ Aside0 (interchangelaw02_TextNames.j0 kq a0 a1 t138 x29_5 = some true) ∧ Aside0 (kq ≤ k) ∧ Aside0 (Below w.heap.size w wc))
  case first =>
    have H := HC6.out
    clear HC6
    by_cases c8 : t139 = true
    · subst c8
      have H1 : (if t140 = true then (if a0.size + a1.size ≤ 9223372036854775807 then ((text_Name.f (a0 ++ a1)).bind fun t141 => (interchangelaw02_TextNames.j0 k a0 a1 t138 (t141 != (decide ((wrap64 ((a0.size : Int) + (a1.size : Int))) ≤ 127))))) else (none)) else (interchangelaw02_TextNames.j0 k a0 a1 t138 false)) = some true := by rw [if_pos rfl] at H; exact H
      clear H
      have H := H1
      clear H1
      by_cases c9 : t140 = true
      · subst c9
        have H1 : (if a0.size + a1.size ≤ 9223372036854775807 then ((text_Name.f (a0 ++ a1)).bind fun t141 => (interchangelaw02_TextNames.j0 k a0 a1 t138 (t141 != (decide ((wrap64 ((a0.size : Int) + (a1.size : Int))) ≤ 127))))) else (none)) = some true := by rw [if_pos rfl] at H; exact H
        clear H
        have H := H1
        clear H1
        by_cases c10 : a0.size + a1.size ≤ 9223372036854775807
        · rw [if_pos c10] at H
          have c10b0 := eq_true c10
          have c10b1 : decide (a0.size + a1.size ≤ 9223372036854775807) = true := decide_eq_true c10
          try have c10b2 : (9223372036854775807 < a0.size + a1.size) = False := eq_false (Nat.not_lt.2 c10)
          replace H := Option.bind_eq_some_iff.mp H
          obtain ⟨t141, A110, H⟩ := H
          replace H : (interchangelaw02_TextNames.j0 k a0 a1 t138 (t141 != (decide ((wrap64 ((a0.size : Int) + (a1.size : Int))) ≤ 127)))) = some true := H
          have A11 := Aside0.mk A110
          clear A110
          have H' := Aside0.mk H
          clear H
          go_wp2_with (first | (go_at_call 13; (with_reducible refine (text_Name.calls (a0 ++ a1) t141 _ A11.out).mono ?_); rintro e w' ⟨rfl, ⟨nd, rfl⟩⟩))
          go_meet
          case rel => exact ⟨_, ((t141 != (decide ((wrap64 ((a0.size : Int) + (a1.size : Int))) ≤ 127)))), (by (have hw_ : wrap64 ((a0.size : Int) + (a1.size : Int)) = (a0.size : Int) + (a1.size : Int) := by (unfold wrap64; omega)); (rw [hw_]); (rcases t141 <;> simp)), H', ⟨by first | omega | exact Nat.le_refl _⟩, ⟨by repeat (first | (with_reducible first | exact HB.out | apply below_alloc | apply pw_below_drewN | apply below_drew1) | exact HB.out)⟩⟩
        · rw [if_neg c10] at H
          exact absurd H (by simp)
      · replace c9 := Bool.eq_false_iff.mpr c9
        subst c9
        have H1 : (interchangelaw02_TextNames.j0 k a0 a1 t138 false) = some true := by rw [if_neg (show ¬ (false = true) by decide)] at H; exact H
        clear H
        have H := H1
        clear H1
        have H' := Aside0.mk H
        clear H
        go_wp2
        go_meet
        case rel => exact ⟨_, (false), (by first | rfl | (simp; done) | (simp [*]; done)), H', ⟨by first | omega | exact Nat.le_refl _⟩, ⟨by repeat (first | (with_reducible first | exact HB.out | apply below_alloc | apply pw_below_drewN | apply below_drew1) | exact HB.out)⟩⟩
    · replace c8 := Bool.eq_false_iff.mpr c8
      subst c8
      have H1 : (interchangelaw02_TextNames.j0 k a0 a1 t138 false) = some true := by rw [if_neg (show ¬ (false = true) by decide)] at H; exact H
      clear H
      have H := H1
      clear H1
      have H' := Aside0.mk H
      clear H
      go_wp2
      go_meet
      case rel => exact ⟨_, (false), (by first | rfl | (simp; done) | (simp [*]; done)), H', ⟨by first | omega | exact Nat.le_refl _⟩, ⟨by repeat (first | (with_reducible first | exact HB.out | apply below_alloc | apply pw_below_drewN | apply below_drew1) | exact HB.out)⟩⟩
  case rest =>
    clear HC6
    try clear c1
    try clear p2
    try clear c4
    try clear p6
    try clear c8
    try clear c9
    try clear c10
    try clear c10b0
    try clear c10b1
    try clear c10b2
    try clear c11
    obtain ⟨kq, x29_5, rfl, HA, HJ5, HB⟩ := hcut
    cases kq with
    | zero => exact absurd HA.out (by simp [interchangelaw02_TextNames.j0])
    | succ kj5 =>
      have H := HA.out
      clear HA
      simp only [interchangelaw02_TextNames.j0] at H
      by_cases c12 : x29_5 = true
      · subst c12
        have H1 : (some false) = some true := by rw [if_pos rfl] at H; exact H
        clear H
        have H := H1
        clear H1
        exact absurd H (by decide)
      · replace c12 := Bool.eq_false_iff.mpr c12
        subst c12
        have H1 : (if t138 = true then (if a0.size + 1 ≤ 9223372036854775807 then (if (a0 ++ (⟨#[32]⟩ : ByteArray)).size + a1.size ≤ 9223372036854775807 then ((text_Name.f ((a0 ++ (⟨#[32]⟩ : ByteArray)) ++ a1)).bind fun t142 => (if t142 = true then (some false) else (if (a0 ++ (⟨#[47]⟩ : ByteArray)).size + a1.size ≤ 9223372036854775807 then ((text_Name.f ((a0 ++ (⟨#[47]⟩ : ByteArray)) ++ a1)).bind fun t143 => (if t143 = true then (some false) else (if (a0 ++ (⟨#[0]⟩ : ByteArray)).size + a1.size ≤ 9223372036854775807 then ((text_Name.f ((a0 ++ (⟨#[0]⟩ : ByteArray)) ++ a1)).bind fun t144 => (some (!t144))) else (none)))) else (none)))) else (none)) else (none)) else (some false)) = some true := by rw [if_neg (show ¬ (false = true) by decide)] at H; exact H
        clear H
        have H := H1
        clear H1
        by_cases c13 : t138 = true
        · subst c13
          have H1 : (if a0.size + 1 ≤ 9223372036854775807 then (if (a0 ++ (⟨#[32]⟩ : ByteArray)).size + a1.size ≤ 9223372036854775807 then ((text_Name.f ((a0 ++ (⟨#[32]⟩ : ByteArray)) ++ a1)).bind fun t142 => (if t142 = true then (some false) else (if (a0 ++ (⟨#[47]⟩ : ByteArray)).size + a1.size ≤ 9223372036854775807 then ((text_Name.f ((a0 ++ (⟨#[47]⟩ : ByteArray)) ++ a1)).bind fun t143 => (if t143 = true then (some false) else (if (a0 ++ (⟨#[0]⟩ : ByteArray)).size + a1.size ≤ 9223372036854775807 then ((text_Name.f ((a0 ++ (⟨#[0]⟩ : ByteArray)) ++ a1)).bind fun t144 => (some (!t144))) else (none)))) else (none)))) else (none)) else (none)) = some true := by rw [if_pos rfl] at H; exact H
          clear H
          have H := H1
          clear H1
          by_cases c14 : a0.size + 1 ≤ 9223372036854775807
          · rw [if_pos c14] at H
            have c14b0 := eq_true c14
            have c14b1 : decide (a0.size + 1 ≤ 9223372036854775807) = true := decide_eq_true c14
            try have c14b2 : (9223372036854775807 < a0.size + 1) = False := eq_false (Nat.not_lt.2 c14)
            by_cases c15 : (a0 ++ (⟨#[32]⟩ : ByteArray)).size + a1.size ≤ 9223372036854775807
            · rw [if_pos c15] at H
              have c15b0 := eq_true c15
              have c15b1 : decide ((a0 ++ (⟨#[32]⟩ : ByteArray)).size + a1.size ≤ 9223372036854775807) = true := decide_eq_true c15
              try have c15b2 : (9223372036854775807 < (a0 ++ (⟨#[32]⟩ : ByteArray)).size + a1.size) = False := eq_false (Nat.not_lt.2 c15)
              try have c15b3 : (9223372036854775807 < a0.size + 1 + a1.size) = False := eq_false (by have h_ := c15; have e0_ : ((⟨#[32]⟩ : ByteArray) : ByteArray).size = 1 := rfl; simp only [ByteArray.size_append, e0_] at h_; omega)
              replace H := Option.bind_eq_some_iff.mp H
              obtain ⟨t142, A160, H⟩ := H
              replace H : (if t142 = true then (some false) else (if (a0 ++ (⟨#[47]⟩ : ByteArray)).size + a1.size ≤ 9223372036854775807 then ((text_Name.f ((a0 ++ (⟨#[47]⟩ : ByteArray)) ++ a1)).bind fun t143 => (if t143 = true then (some false) else (if (a0 ++ (⟨#[0]⟩ : ByteArray)).size + a1.size ≤ 9223372036854775807 then ((text_Name.f ((a0 ++ (⟨#[0]⟩ : ByteArray)) ++ a1)).bind fun t144 => (some (!t144))) else (none)))) else (none))) = some true := H
              have A16 := Aside0.mk A160
              clear A160
              by_cases c17 : t142 = true
              · subst c17
                have H1 : (some false) = some true := by rw [if_pos rfl] at H; exact H
                clear H
                have H := H1
                clear H1
                exact absurd H (by decide)
              · replace c17 := Bool.eq_false_iff.mpr c17
                subst c17
                have H1 : (if (a0 ++ (⟨#[47]⟩ : ByteArray)).size + a1.size ≤ 9223372036854775807 then ((text_Name.f ((a0 ++ (⟨#[47]⟩ : ByteArray)) ++ a1)).bind fun t143 => (if t143 = true then (some false) else (if (a0 ++ (⟨#[0]⟩ : ByteArray)).size + a1.size ≤ 9223372036854775807 then ((text_Name.f ((a0 ++ (⟨#[0]⟩ : ByteArray)) ++ a1)).bind fun t144 => (some (!t144))) else (none)))) else (none)) = some true := by rw [if_neg (show ¬ (false = true) by decide)] at H; exact H
                clear H
                have H := H1
                clear H1
                by_cases c18 : (a0 ++ (⟨#[47]⟩ : ByteArray)).size + a1.size ≤ 9223372036854775807
                · rw [if_pos c18] at H
                  have c18b0 := eq_true c18
                  have c18b1 : decide ((a0 ++ (⟨#[47]⟩ : ByteArray)).size + a1.size ≤ 9223372036854775807) = true := decide_eq_true c18
                  try have c18b2 : (9223372036854775807 < (a0 ++ (⟨#[47]⟩ : ByteArray)).size + a1.size) = False := eq_false (Nat.not_lt.2 c18)
                  try have c18b3 : (9223372036854775807 < a0.size + 1 + a1.size) = False := eq_false (by have h_ := c18; have e0_ : ((⟨#[47]⟩ : ByteArray) : ByteArray).size = 1 := rfl; simp only [ByteArray.size_append, e0_] at h_; omega)
                  replace H := Option.bind_eq_some_iff.mp H
                  obtain ⟨t143, A190, H⟩ := H
                  replace H : (if t143 = true then (some false) else (if (a0 ++ (⟨#[0]⟩ : ByteArray)).size + a1.size ≤ 9223372036854775807 then ((text_Name.f ((a0 ++ (⟨#[0]⟩ : ByteArray)) ++ a1)).bind fun t144 => (some (!t144))) else (none))) = some true := H
                  have A19 := Aside0.mk A190
                  clear A190
                  by_cases c20 : t143 = true
                  · subst c20
                    have H1 : (some false) = some true := by rw [if_pos rfl] at H; exact H
                    clear H
                    have H := H1
                    clear H1
                    exact absurd H (by decide)
                  · replace c20 := Bool.eq_false_iff.mpr c20
                    subst c20
                    have H1 : (if (a0 ++ (⟨#[0]⟩ : ByteArray)).size + a1.size ≤ 9223372036854775807 then ((text_Name.f ((a0 ++ (⟨#[0]⟩ : ByteArray)) ++ a1)).bind fun t144 => (some (!t144))) else (none)) = some true := by rw [if_neg (show ¬ (false = true) by decide)] at H; exact H
                    clear H
                    have H := H1
                    clear H1
                    by_cases c21 : (a0 ++ (⟨#[0]⟩ : ByteArray)).size + a1.size ≤ 9223372036854775807
                    · rw [if_pos c21] at H
                      have c21b0 := eq_true c21
                      have c21b1 : decide ((a0 ++ (⟨#[0]⟩ : ByteArray)).size + a1.size ≤ 9223372036854775807) = true := decide_eq_true c21
                      try have c21b2 : (9223372036854775807 < (a0 ++ (⟨#[0]⟩ : ByteArray)).size + a1.size) = False := eq_false (Nat.not_lt.2 c21)
                      try have c21b3 : (9223372036854775807 < a0.size + 1 + a1.size) = False := eq_false (by have h_ := c21; have e0_ : ((⟨#[0]⟩ : ByteArray) : ByteArray).size = 1 := rfl; simp only [ByteArray.size_append, e0_] at h_; omega)
                      replace H := Option.bind_eq_some_iff.mp H
                      obtain ⟨t144, A220, H⟩ := H
                      replace H : (some (!t144)) = some true := H
                      have A22 := Aside0.mk A220
                      clear A220
                      have HR_ := Aside0.mk (Option.some.inj H)
                      clear H
                      go_wp2_with (first | (go_at_call 13; (with_reducible refine (text_Name.calls ((a0 ++ (⟨#[32]⟩ : ByteArray)) ++ a1) false _ A16.out).mono ?_); rintro e w' ⟨rfl, ⟨nd, rfl⟩⟩) | (go_at_call 13; (with_reducible refine (text_Name.calls ((a0 ++ (⟨#[47]⟩ : ByteArray)) ++ a1) false _ A19.out).mono ?_); rintro e w' ⟨rfl, ⟨nd, rfl⟩⟩) | (go_at_call 13; (with_reducible refine (text_Name.calls ((a0 ++ (⟨#[0]⟩ : ByteArray)) ++ a1) t144 _ A22.out).mono ?_); rintro e w' ⟨rfl, ⟨nd, rfl⟩⟩))
                      go_ret
                      exact ⟨by have HR0_ := HR_.out; first | exact congrArg (fun b_ => Ending.returned (Value.bool b_)) HR0_ | rfl | (simp [errW_none, errW_some] <;> rfl) | (simp [*, errW_none, errW_some] <;> rfl), by repeat (first | (with_reducible first | exact HB.out | apply below_alloc | apply pw_below_drewN | apply below_drew1) | exact HB.out)⟩
                    · rw [if_neg c21] at H
                      exact absurd H (by simp)
                · rw [if_neg c18] at H
                  exact absurd H (by simp)
            · rw [if_neg c15] at H
              exact absurd H (by simp)
          · rw [if_neg c14] at H
            exact absurd H (by simp)
        · replace c13 := Bool.eq_false_iff.mpr c13
          subst c13
          have H1 : (some false) = some true := by rw [if_neg (show ¬ (false = true) by decide)] at H; exact H
          clear H
          have H := H1
          clear H1
          exact absurd H (by decide)


end Go.Proofs.YtmpbhbbgnmkpgaaDoor.F
