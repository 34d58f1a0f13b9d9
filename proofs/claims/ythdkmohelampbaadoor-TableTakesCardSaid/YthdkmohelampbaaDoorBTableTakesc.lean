/- Texts of this session for the law TableTakes, one behind the other: interchangeref03size, PrefShort, Hrefval, interchangeref03table, interchangeref03Deep, interchangeref03Value, interchangeref03both, interchangeref03Find, interchangeref03Keys, interchangeref03Take. -/
import Derived.Test.YthdkmohelampbaaDoorBTableTakesa
import Derived.Test.YthdkmohelampbaaDoorBTableTakesb
namespace Go.Proofs.YthdkmohelampbaaDoor.F
open Go.RowKit Go.Proofs.YthdkmohelampbaaDoorW.PrintWords Go.Proofs.YthdkmohelampbaaDoorW.PrintLast Go.Proofs.YthdkmohelampbaaDoorW.PrintMore
attribute [local go_sem] max2_int min2_int max_two min_two max_three min_three max_four min_four
set_option linter.unusedVariables false
set_option linter.unusedSimpArgs false

/-! ### interchangeref03_size: function 46 -/
mutual
def interchangeref03_size.j0 : Nat → Int → Bool → Option (Int)
  | 0, _, _ => none
  | k + 1, x0, x14 => if x14 = true then (some 1) else (if x0 = 115 then (interchangeref03_size.j1 k x0 true) else (interchangeref03_size.j1 k x0 (x0 == 117)))
def interchangeref03_size.j1 : Nat → Int → Bool → Option (Int)
  | 0, _, _ => none
  | k + 1, x0, x20 => if x20 = true then (some 2) else (if x0 = 73 then (interchangeref03_size.j2 k x0 true) else (if x0 = 105 then (interchangeref03_size.j2 k x0 true) else (interchangeref03_size.j2 k x0 (x0 == 102))))
def interchangeref03_size.j2 : Nat → Int → Bool → Option (Int)
  | 0, _, _ => none
  | k + 1, x0, x30 => if x30 = true then (some 4) else (if x0 = 68 then (some 5) else (if x0 = 108 then (some 8) else (if x0 = 100 then (some 8) else (if x0 = 84 then (some 8) else (some (-1))))))
end
def interchangeref03_size.f (k : Nat) (a0 : Int) : Option (Int) := if a0 = 86 then (some 0) else (if a0 = 116 then (interchangeref03_size.j0 k a0 true) else (if a0 = 98 then (interchangeref03_size.j0 k a0 true) else (interchangeref03_size.j0 k a0 (a0 == 66))))
theorem interchangeref03_size.mono_l : ∀ k, (∀ y0 y1, LeO (interchangeref03_size.j0 k y0 y1) (interchangeref03_size.j0 (k + 1) y0 y1)) ∧ (∀ y0 y1, LeO (interchangeref03_size.j1 k y0 y1) (interchangeref03_size.j1 (k + 1) y0 y1)) ∧ (∀ y0 y1, LeO (interchangeref03_size.j2 k y0 y1) (interchangeref03_size.j2 (k + 1) y0 y1))
  | 0 => ⟨fun _ _ r h => by simp [interchangeref03_size.j0] at h, fun _ _ r h => by simp [interchangeref03_size.j1] at h, fun _ _ r h => by simp [interchangeref03_size.j2] at h⟩
  | k + 1 => by
    obtain ⟨ih0, ih1, ih2⟩ := interchangeref03_size.mono_l k
    refine ⟨?_, ?_, ?_⟩
    · intro y0 y1
      unfold interchangeref03_size.j0
      repeat' first
      | (with_reducible exact ih0 _ _)
      | (with_reducible exact ih1 _ _)
      | (with_reducible exact ih2 _ _)
      | (with_reducible exact LeO.refl _)
      | (with_reducible exact LeO.none _)
      | (with_reducible refine LeO.ite ?_ ?_)
      | (with_reducible refine LeO.bind ?_ (fun _ => ?_))
      | exact ih0 _ _
      | exact ih1 _ _
      | exact ih2 _ _
      | exact LeO.none _
      | refine LeO.ite ?_ ?_
      | refine LeO.bind ?_ (fun _ => ?_)
    · intro y0 y1
      unfold interchangeref03_size.j1
      repeat' first
      | (with_reducible exact ih0 _ _)
      | (with_reducible exact ih1 _ _)
      | (with_reducible exact ih2 _ _)
      | (with_reducible exact LeO.refl _)
      | (with_reducible exact LeO.none _)
      | (with_reducible refine LeO.ite ?_ ?_)
      | (with_reducible refine LeO.bind ?_ (fun _ => ?_))
      | exact ih0 _ _
      | exact ih1 _ _
      | exact ih2 _ _
      | exact LeO.none _
      | refine LeO.ite ?_ ?_
      | refine LeO.bind ?_ (fun _ => ?_)
    · intro y0 y1
      unfold interchangeref03_size.j2
      repeat' first
      | (with_reducible exact ih0 _ _)
      | (with_reducible exact ih1 _ _)
      | (with_reducible exact ih2 _ _)
      | (with_reducible exact LeO.refl _)
      | (with_reducible exact LeO.none _)
      | (with_reducible refine LeO.ite ?_ ?_)
      | (with_reducible refine LeO.bind ?_ (fun _ => ?_))
      | exact ih0 _ _
      | exact ih1 _ _
      | exact ih2 _ _
      | exact LeO.none _
      | refine LeO.ite ?_ ?_
      | refine LeO.bind ?_ (fun _ => ?_)
theorem interchangeref03_size.mono : ∀ a0 k, LeO (interchangeref03_size.f k a0) (interchangeref03_size.f (k + 1) a0) := by
  intro a0 k
  obtain ⟨ih0, ih1, ih2⟩ := interchangeref03_size.mono_l k
  unfold interchangeref03_size.f
  repeat' first
      | (with_reducible exact ih0 _ _)
      | (with_reducible exact ih1 _ _)
      | (with_reducible exact ih2 _ _)
      | (with_reducible exact LeO.refl _)
      | (with_reducible exact LeO.none _)
      | (with_reducible refine LeO.ite ?_ ?_)
      | (with_reducible refine LeO.bind ?_ (fun _ => ?_))
      | exact ih0 _ _
      | exact ih1 _ _
      | exact ih2 _ _
      | exact LeO.none _
      | refine LeO.ite ?_ ?_
      | refine LeO.bind ?_ (fun _ => ?_)
set_option maxHeartbeats 8000000 in
set_option maxRecDepth 100000 in
theorem interchangeref03_size.calls (k : Nat) (a0 : Int) (r : Int) (w : World) (h : interchangeref03_size.f k a0 = some r) :
    Calls Tryd.prog 46 #[.int .u8 a0] w fun e w' => e = .returned (.int .i64 r) ∧ Drawn0 w w' := by
  have H : (if a0 = 86 then (some 0) else (if a0 = 116 then (interchangeref03_size.j0 k a0 true) else (if a0 = 98 then (interchangeref03_size.j0 k a0 true) else (interchangeref03_size.j0 k a0 (a0 == 66))))) = some r := h
  clear h
  by_cases c2 : a0 = 86
  · rw [if_pos c2] at H
    have c2b0 : (a0 == 86) = true := beq_iff_eq.mpr c2
    have c2b1 : (a0 != 86) = false := bne_eq_false_iff_eq.mpr c2
    clear c2
    obtain rfl := Option.some.inj H
    go_enter Tryd.func46, Tryd.ntmps46
    go_wp2
    go_ret
    exact ⟨by first | rfl | (simp; done) | (simp [*]; done), by repeat (first | exact Drawn0.refl _ | apply Drawn0.step)⟩
  · rw [if_neg c2] at H
    have c2b0 : (a0 == 86) = false := beq_eq_false_iff_ne.mpr c2
    have c2b1 : (a0 != 86) = true := bne_iff_ne.mpr c2
    have HC3 := Aside0.mk H
    clear H
    go_enter Tryd.func46, Tryd.ntmps46
    go_upto_region 3 with (fail)
    go_cut [14] (fun v14 wc => ∃ (kq : Nat) (x14_2 : Bool), v14 = .bool x14_2 ∧ Aside0 (interchangeref03_size.j0 kq a0 x14_2 = some r) ∧ Aside0 (kq ≤ k) ∧ Drawn0 w wc)
    case first =>
      have H := HC3.out
      clear HC3
      by_cases c4 : a0 = 116
      · rw [if_pos c4] at H
        have c4b0 : (a0 == 116) = true := beq_iff_eq.mpr c4
        have c4b1 : (a0 != 116) = false := bne_eq_false_iff_eq.mpr c4
        clear c4
        (first | rw [c4b0] | (simp only [i64_w, i32_w]; rw [c4b0]) | skip)
        have H' := Aside0.mk H
        clear H
        go_wp2
        go_meet
        case rel => exact ⟨_, (true), (by first | rfl | (simp; done) | (simp [*]; done)), H', ⟨by first | omega | exact Nat.le_refl _⟩, by repeat (first | exact Drawn0.refl _ | apply Drawn0.step)⟩
      · rw [if_neg c4] at H
        have c4b0 : (a0 == 116) = false := beq_eq_false_iff_ne.mpr c4
        have c4b1 : (a0 != 116) = true := bne_iff_ne.mpr c4
        (first | rw [c4b0] | (simp only [i64_w, i32_w]; rw [c4b0]) | skip)
        by_cases c5 : a0 = 98
        · rw [if_pos c5] at H
          have c5b0 : (a0 == 98) = true := beq_iff_eq.mpr c5
          have c5b1 : (a0 != 98) = false := bne_eq_false_iff_eq.mpr c5
          clear c5
          have H' := Aside0.mk H
          clear H
          go_wp2
          go_meet
          case rel => exact ⟨_, (true), (by first | rfl | (simp; done) | (simp [*]; done)), H', ⟨by first | omega | exact Nat.le_refl _⟩, by repeat (first | exact Drawn0.refl _ | apply Drawn0.step)⟩
        · rw [if_neg c5] at H
          have c5b0 : (a0 == 98) = false := beq_eq_false_iff_ne.mpr c5
          have c5b1 : (a0 != 98) = true := bne_iff_ne.mpr c5
          have H' := Aside0.mk H
          clear H
          go_wp2
          go_meet
          case rel => exact ⟨_, ((a0 == 66)), (by first | rfl | (simp; done) | (simp [*]; done)), H', ⟨by first | omega | exact Nat.le_refl _⟩, by repeat (first | exact Drawn0.refl _ | apply Drawn0.step)⟩
    case rest =>
      clear HC3
      try clear c2
      try clear c2b0
      try clear c2b1
      try clear p2
      try clear c4
      try clear c4b0
      try clear c4b1
      try clear c5
      try clear c5b0
      try clear c5b1
      obtain ⟨kq, x14_2, rfl, HA, HJ2, ⟨mc2, rfl⟩⟩ := hcut
      cases kq with
      | zero => exact absurd HA.out (by simp [interchangeref03_size.j0])
      | succ kj2 =>
        have H := HA.out
        clear HA
        simp only [interchangeref03_size.j0] at H
        by_cases c6 : x14_2 = true
        · subst c6
          have H1 : (some 1) = some r := by rw [if_pos rfl] at H; exact H
          clear H
          have H := H1
          clear H1
          obtain rfl := Option.some.inj H
          go_wp2
          go_ret
          exact ⟨by first | rfl | (simp; done) | (simp [*]; done), by repeat (first | exact Drawn0.refl _ | apply Drawn0.step)⟩
        · replace c6 := Bool.eq_false_iff.mpr c6
          subst c6
          have H1 : (if a0 = 115 then (interchangeref03_size.j1 kj2 a0 true) else (interchangeref03_size.j1 kj2 a0 (a0 == 117))) = some r := by rw [if_neg (show ¬ (false = true) by decide)] at H; exact H
          clear H
          have H := H1
          clear H1
          have HC7 := Aside0.mk H
          clear H
          go_upto_region 5 with (fail)
          go_cut [20] (fun v20 wc => ∃ (kq : Nat) (x20_6 : Bool), v20 = .bool x20_6 ∧ Aside0 (interchangeref03_size.j1 kq a0 x20_6 = some r) ∧ Aside0 (kq ≤ kj2) ∧ Drawn0 w wc)
          case first =>
            have H := HC7.out
            clear HC7
            by_cases c8 : a0 = 115
            · rw [if_pos c8] at H
              have c8b0 : (a0 == 115) = true := beq_iff_eq.mpr c8
              have c8b1 : (a0 != 115) = false := bne_eq_false_iff_eq.mpr c8
              clear c8
              (first | rw [c8b0] | (simp only [i64_w, i32_w]; rw [c8b0]) | skip)
              have H' := Aside0.mk H
              clear H
              go_wp2
              go_meet
              case rel => exact ⟨_, (true), (by first | rfl | (simp; done) | (simp [*]; done)), H', ⟨by have := HJ2.out; first | omega | exact Nat.le_refl _⟩, by repeat (first | exact Drawn0.refl _ | apply Drawn0.step)⟩
            · rw [if_neg c8] at H
              have c8b0 : (a0 == 115) = false := beq_eq_false_iff_ne.mpr c8
              have c8b1 : (a0 != 115) = true := bne_iff_ne.mpr c8
              (first | rw [c8b0] | (simp only [i64_w, i32_w]; rw [c8b0]) | skip)
              have H' := Aside0.mk H
              clear H
              go_wp2
              go_meet
              case rel => exact ⟨_, ((a0 == 117)), (by first | rfl | (simp; done) | (simp [*]; done)), H', ⟨by have := HJ2.out; first | omega | exact Nat.le_refl _⟩, by repeat (first | exact Drawn0.refl _ | apply Drawn0.step)⟩
          case rest =>
            clear HC7
            try clear c2
            try clear c2b0
            try clear c2b1
            try clear p2
            try clear c4
            try clear c4b0
            try clear c4b1
            try clear c5
            try clear c5b0
            try clear c5b1
            try clear c6
            try clear c8
            try clear c8b0
            try clear c8b1
            try clear p2
            obtain ⟨kq, x20_6, rfl, HA, HJ6, ⟨mc6, rfl⟩⟩ := hcut
            cases kq with
            | zero => exact absurd HA.out (by simp [interchangeref03_size.j1])
            | succ kj6 =>
              have H := HA.out
              clear HA
              simp only [interchangeref03_size.j1] at H
              by_cases c9 : x20_6 = true
              · subst c9
                have H1 : (some 2) = some r := by rw [if_pos rfl] at H; exact H
                clear H
                have H := H1
                clear H1
                obtain rfl := Option.some.inj H
                go_wp2
                go_ret
                exact ⟨by first | rfl | (simp; done) | (simp [*]; done), by repeat (first | exact Drawn0.refl _ | apply Drawn0.step)⟩
              · replace c9 := Bool.eq_false_iff.mpr c9
                subst c9
                have H1 : (if a0 = 73 then (interchangeref03_size.j2 kj6 a0 true) else (if a0 = 105 then (interchangeref03_size.j2 kj6 a0 true) else (interchangeref03_size.j2 kj6 a0 (a0 == 102)))) = some r := by rw [if_neg (show ¬ (false = true) by decide)] at H; exact H
                clear H
                have H := H1
                clear H1
                have HC10 := Aside0.mk H
                clear H
                go_upto_region 7 with (fail)
                go_cut [30] (fun v30 wc => ∃ (kq : Nat) (x30_9 : Bool), v30 = .bool x30_9 ∧ Aside0 (interchangeref03_size.j2 kq a0 x30_9 = some r) ∧ Aside0 (kq ≤ kj6) ∧ Drawn0 w wc)
                case first =>
                  have H := HC10.out
                  clear HC10
                  by_cases c11 : a0 = 73
                  · rw [if_pos c11] at H
                    have c11b0 : (a0 == 73) = true := beq_iff_eq.mpr c11
                    have c11b1 : (a0 != 73) = false := bne_eq_false_iff_eq.mpr c11
                    clear c11
                    (first | rw [c11b0] | (simp only [i64_w, i32_w]; rw [c11b0]) | skip)
                    have H' := Aside0.mk H
                    clear H
                    go_wp2
                    go_meet
                    case rel => exact ⟨_, (true), (by first | rfl | (simp; done) | (simp [*]; done)), H', ⟨by have := HJ2.out; have := HJ6.out; first | omega | exact Nat.le_refl _⟩, by repeat (first | exact Drawn0.refl _ | apply Drawn0.step)⟩
                  · rw [if_neg c11] at H
                    have c11b0 : (a0 == 73) = false := beq_eq_false_iff_ne.mpr c11
                    have c11b1 : (a0 != 73) = true := bne_iff_ne.mpr c11
                    (first | rw [c11b0] | (simp only [i64_w, i32_w]; rw [c11b0]) | skip)
                    by_cases c12 : a0 = 105
                    · rw [if_pos c12] at H
                      have c12b0 : (a0 == 105) = true := beq_iff_eq.mpr c12
                      have c12b1 : (a0 != 105) = false := bne_eq_false_iff_eq.mpr c12
                      clear c12
                      have H' := Aside0.mk H
                      clear H
                      go_wp2
                      go_meet
                      case rel => exact ⟨_, (true), (by first | rfl | (simp; done) | (simp [*]; done)), H', ⟨by have := HJ2.out; have := HJ6.out; first | omega | exact Nat.le_refl _⟩, by repeat (first | exact Drawn0.refl _ | apply Drawn0.step)⟩
                    · rw [if_neg c12] at H
                      have c12b0 : (a0 == 105) = false := beq_eq_false_iff_ne.mpr c12
                      have c12b1 : (a0 != 105) = true := bne_iff_ne.mpr c12
                      have H' := Aside0.mk H
                      clear H
                      go_wp2
                      go_meet
                      case rel => exact ⟨_, ((a0 == 102)), (by first | rfl | (simp; done) | (simp [*]; done)), H', ⟨by have := HJ2.out; have := HJ6.out; first | omega | exact Nat.le_refl _⟩, by repeat (first | exact Drawn0.refl _ | apply Drawn0.step)⟩
                case rest =>
                  clear HC10
                  try clear c1
                  try clear c2
                  try clear c2b0
                  try clear c2b1
                  try clear p2
                  try clear c4
                  try clear c4b0
                  try clear c4b1
                  try clear c5
                  try clear c5b0
                  try clear c5b1
                  try clear c6
                  try clear c8
                  try clear c8b0
                  try clear c8b1
                  try clear c9
                  try clear c11
                  try clear c11b0
                  try clear c11b1
                  try clear c12
                  try clear c12b0
                  try clear c12b1
                  try clear p2
                  obtain ⟨kq, x30_9, rfl, HA, HJ9, ⟨mc9, rfl⟩⟩ := hcut
                  cases kq with
                  | zero => exact absurd HA.out (by simp [interchangeref03_size.j2])
                  | succ kj9 =>
                    have H := HA.out
                    clear HA
                    simp only [interchangeref03_size.j2] at H
                    by_cases c13 : x30_9 = true
                    · subst c13
                      have H1 : (some 4) = some r := by rw [if_pos rfl] at H; exact H
                      clear H
                      have H := H1
                      clear H1
                      obtain rfl := Option.some.inj H
                      go_wp2
                      go_ret
                      exact ⟨by first | rfl | (simp; done) | (simp [*]; done), by repeat (first | exact Drawn0.refl _ | apply Drawn0.step)⟩
                    · replace c13 := Bool.eq_false_iff.mpr c13
                      subst c13
                      have H1 : (if a0 = 68 then (some 5) else (if a0 = 108 then (some 8) else (if a0 = 100 then (some 8) else (if a0 = 84 then (some 8) else (some (-1)))))) = some r := by rw [if_neg (show ¬ (false = true) by decide)] at H; exact H
                      clear H
                      have H := H1
                      clear H1
                      by_cases c14 : a0 = 68
                      · rw [if_pos c14] at H
                        have c14b0 : (a0 == 68) = true := beq_iff_eq.mpr c14
                        have c14b1 : (a0 != 68) = false := bne_eq_false_iff_eq.mpr c14
                        clear c14
                        obtain rfl := Option.some.inj H
                        go_wp2
                        go_ret
                        exact ⟨by first | rfl | (simp; done) | (simp [*]; done), by repeat (first | exact Drawn0.refl _ | apply Drawn0.step)⟩
                      · rw [if_neg c14] at H
                        have c14b0 : (a0 == 68) = false := beq_eq_false_iff_ne.mpr c14
                        have c14b1 : (a0 != 68) = true := bne_iff_ne.mpr c14
                        by_cases c15 : a0 = 108
                        · rw [if_pos c15] at H
                          have c15b0 : (a0 == 108) = true := beq_iff_eq.mpr c15
                          have c15b1 : (a0 != 108) = false := bne_eq_false_iff_eq.mpr c15
                          clear c15
                          obtain rfl := Option.some.inj H
                          go_wp2
                          go_ret
                          exact ⟨by first | rfl | (simp; done) | (simp [*]; done), by repeat (first | exact Drawn0.refl _ | apply Drawn0.step)⟩
                        · rw [if_neg c15] at H
                          have c15b0 : (a0 == 108) = false := beq_eq_false_iff_ne.mpr c15
                          have c15b1 : (a0 != 108) = true := bne_iff_ne.mpr c15
                          by_cases c16 : a0 = 100
                          · rw [if_pos c16] at H
                            have c16b0 : (a0 == 100) = true := beq_iff_eq.mpr c16
                            have c16b1 : (a0 != 100) = false := bne_eq_false_iff_eq.mpr c16
                            clear c16
                            obtain rfl := Option.some.inj H
                            go_wp2
                            go_ret
                            exact ⟨by first | rfl | (simp; done) | (simp [*]; done), by repeat (first | exact Drawn0.refl _ | apply Drawn0.step)⟩
                          · rw [if_neg c16] at H
                            have c16b0 : (a0 == 100) = false := beq_eq_false_iff_ne.mpr c16
                            have c16b1 : (a0 != 100) = true := bne_iff_ne.mpr c16
                            by_cases c17 : a0 = 84
                            · rw [if_pos c17] at H
                              have c17b0 : (a0 == 84) = true := beq_iff_eq.mpr c17
                              have c17b1 : (a0 != 84) = false := bne_eq_false_iff_eq.mpr c17
                              clear c17
                              obtain rfl := Option.some.inj H
                              go_wp2
                              go_ret
                              exact ⟨by first | rfl | (simp; done) | (simp [*]; done), by repeat (first | exact Drawn0.refl _ | apply Drawn0.step)⟩
                            · rw [if_neg c17] at H
                              have c17b0 : (a0 == 84) = false := beq_eq_false_iff_ne.mpr c17
                              have c17b1 : (a0 != 84) = true := bne_iff_ne.mpr c17
                              obtain rfl := Option.some.inj H
                              go_wp2
                              go_ret
                              exact ⟨by first | rfl | (simp; done) | (simp [*]; done), by repeat (first | exact Drawn0.refl _ | apply Drawn0.step)⟩


end Go.Proofs.YthdkmohelampbaaDoor.F
namespace Go.Proofs.YthdkmohelampbaaDoor.F
open Go.RowKit Go.Proofs.YthdkmohelampbaaDoorW.PrintWords Go.Proofs.YthdkmohelampbaaDoorW.PrintLast Go.Proofs.YthdkmohelampbaaDoorW.PrintMore
set_option linter.unusedVariables false
set_option linter.unusedSimpArgs false

theorem take_four (s : ByteArray) : (takeR s 4).2.2 = 0 ∨ (takeR s 4).2.2 = 2 := by
  unfold takeR
  rw [if_pos isW4]
  split
  · exact .inr rfl
  · exact .inl rfl
theorem bt_zero (s : ByteArray) (h : 0 < s.size) : bt s 0 = ((s.data.toList.headD 0).toNat : Int) := by
  rw [show (0 : Int) = ((0 : Nat) : Int) from rfl, bt_get s 0 h]
  have : ∀ (l : List UInt8) (hl : 0 < l.length), ((l[0].toNat : Nat) : Int) = ((l.headD 0).toNat : Int) := by
    intro l hl
    cases l with
    | nil => simp at hl
    | cons b r => rfl
  exact this _ _
theorem take_one (s : ByteArray) (h : 0 < s.size) : takeR s 1 = (((s.data.toList.headD 0).toNat : Int), s.extract 1 s.size, 0) := by
  unfold takeR
  rw [if_pos isW1, if_neg (by omega)]
  have : beNum (s.data.toList.take 1) = (s.data.toList.headD 0).toNat := by
    cases e : s.data.toList with
    | nil => rw [← size_list, e] at h; simp at h
    | cons b r => simp [beNum]
  show (((beNum (s.data.toList.take 1) : Nat) : Int), s.extract 1 s.size, (0 : Int)) = _
  rw [this]
theorem rtshort_f (s : ByteArray) (hz : s.size ≤ 4611686018427387904) : interchangeref02_TakeShort.f s = some (ltakeR 1 s) := by
  unfold interchangeref02_TakeShort.f
  by_cases h : s.size = 0
  · rw [if_pos (by omega)]
    have ht : takeR s 1 = (0, ⟨#[]⟩, 2) := by
      unfold takeR
      rw [if_pos isW1, if_pos (by omega)]
    unfold ltakeR
    rw [ht]
    rfl
  · have hp : 0 < s.size := by omega
    have t1 := take_one s hp
    have hv := (s.data.toList.headD 0).toNat_lt
    rw [if_neg (by omega), if_pos (by omega), bt_zero s hp]
    unfold ltakeR
    rw [t1]
    generalize (s.data.toList.headD 0).toNat = v at hv
    have w1 : wrap64 (1 + wrap64 (v : Int)) = ((1 + v : Nat) : Int) := by unfold wrap64; omega
    have hrs : (s.extract 1 s.size).size = s.size - 1 := by rw [extract_drop, toBA_size, List.length_drop, size_list]
    rw [w1]
    simp only
    rw [if_pos trivial, hrs]
    by_cases l : s.size < 1 + v
    · rw [if_pos (by omega), if_neg (by omega)]
    · rw [if_neg (by omega), if_pos (by omega), if_pos (by omega), if_pos (by omega), if_pos (by omega)]
      rw [Int.toNat_natCast, Int.toNat_natCast]
      have a1 : s.extract 1 (1 + v) = (s.extract 1 s.size).extract 0 v := eq_of_list (by
        rw [Lib.extract_data, extract_take, toBA_list, extract_drop, toBA_list]; congr 1; omega)
      have a2 : s.extract (1 + v) s.size = (s.extract 1 s.size).extract v (s.size - 1) := eq_of_list (by
        conv => rhs; rw [← hrs]
        rw [extract_drop, toBA_list, extract_drop, toBA_list, extract_drop, toBA_list, List.drop_drop])
      rw [a1, a2]
/-- a length, and what stands within it -/
theorem rinside_k {k : Nat} (hk : 12 ≤ k) (s : ByteArray) (hz : s.size ≤ 4611686018427387904) : interchangeref03_inside.f k s = some (ltakeR 4 s) := by
  unfold interchangeref03_inside.f
  rw [rtake_k hk, Option.bind_some]
  have hb := (take_bound s 4).1
  have hr := take_rest s 4
  have h4 := take_four s
  unfold ltakeR
  generalize takeR s 4 = t at hb hr h4
  obtain ⟨t1, t2, t3⟩ := t
  simp only at hb hr h4 ⊢
  by_cases e : t3 = 0
  · rw [if_pos e, if_pos e, wrapU (by omega) (by omega)]
    by_cases l : t1 ≤ (t2.size : Int)
    · rw [if_neg (by omega), if_pos hb, if_pos l, if_pos l]
    · rw [if_pos (by omega), if_neg l]
  · rw [if_neg e, if_neg e]
    rcases h4 with h | h
    · exact absurd h e
    · rw [h]
def sizeI (c : Nat) : Int := match sizeU c with | some n => (n : Int) | none => -1
theorem rsize_at (c : UInt8) : interchangeref03_size.f 40 (c.toNat : Int) = some (sizeI c.toNat) := by
  have h : ∀ n : Fin 256, interchangeref03_size.f 40 (n.val : Int) = some (sizeI n.val) := by decide +kernel
  exact h ⟨c.toNat, c.toNat_lt⟩
theorem rsize_k {k : Nat} (hk : 40 ≤ k) (c : UInt8) : interchangeref03_size.f k (c.toNat : Int) = some (sizeI c.toNat) := at_rounds (interchangeref03_size.mono (c.toNat : Int)) hk (rsize_at c)
end Go.Proofs.YthdkmohelampbaaDoor.F
namespace Go.Proofs.YthdkmohelampbaaDoor.F
open Go.RowKit Go.Proofs.YthdkmohelampbaaDoorW.PrintWords Go.Proofs.YthdkmohelampbaaDoorW.PrintLast Go.Proofs.YthdkmohelampbaaDoorW.PrintMore
set_option linter.unusedVariables false
set_option linter.unusedSimpArgs false
open Go.Maps
/-- (what is left, how deep, why not) -/
abbrev Rk := ByteArray × Int × Int
def rItems (val : ByteArray → Int → Rk) (fields : Bool) (depth : Int) : Nat → ByteArray → Int → Int × Int
  | 0, _, dp => (dp, 0)
  | k + 1, s, dp => if s.size = 0 then (dp, 0) else
      if fields = true ∧ ¬ (ltakeR 1 s).2.2 = 0 then (0, 3) else
      if (if (val (if fields = true then (ltakeR 1 s).2.1 else s) depth).2.2 = 2 then 3 else (val (if fields = true then (ltakeR 1 s).2.1 else s) depth).2.2) = 0 then
        rItems val fields depth k (val (if fields = true then (ltakeR 1 s).2.1 else s) depth).1 (if dp < (val (if fields = true then (ltakeR 1 s).2.1 else s) depth).2.1 then (val (if fields = true then (ltakeR 1 s).2.1 else s) depth).2.1 else dp)
      else (0, if (val (if fields = true then (ltakeR 1 s).2.1 else s) depth).2.2 = 2 then 3 else (val (if fields = true then (ltakeR 1 s).2.1 else s) depth).2.2)
def rRow (val : ByteArray → Int → Rk) (s : ByteArray) (depth : Int) (fields : Bool) : Int × Int := rItems val fields depth s.size s depth
def rVal : Nat → ByteArray → Int → Rk
  | 0, _, _ => (⟨#[]⟩, 0, 2)
  | k + 1, s, depth => if s.size = 0 then (⟨#[]⟩, 0, 2) else
      match sizeU (kindOf s) with
      | some n => if s.size < 1 + n then (⟨#[]⟩, 0, 2) else (s.extract (1 + n) s.size, depth, 0)
      | none => if kindOf s = 83 ∨ kindOf s = 120 then (if (ltakeR 4 (tailOf s)).2.2 = 0 then ((ltakeR 4 (tailOf s)).2.1, depth, 0) else (⟨#[]⟩, 0, 2))
        else if kindOf s = 65 then (if (ltakeR 4 (tailOf s)).2.2 = 0 then (if 32 ≤ depth then (⟨#[]⟩, 0, 5) else ((ltakeR 4 (tailOf s)).2.1, (rRow (rVal k) (ltakeR 4 (tailOf s)).1 (depth + 1) false).1, (rRow (rVal k) (ltakeR 4 (tailOf s)).1 (depth + 1) false).2)) else (⟨#[]⟩, 0, 2))
        else if kindOf s = 70 then (if (ltakeR 4 (tailOf s)).2.2 = 0 then (if 32 ≤ depth then (⟨#[]⟩, 0, 5) else ((ltakeR 4 (tailOf s)).2.1, (rRow (rVal k) (ltakeR 4 (tailOf s)).1 (depth + 1) true).1, (rRow (rVal k) (ltakeR 4 (tailOf s)).1 (depth + 1) true).2)) else (⟨#[]⟩, 0, 2))
        else (⟨#[]⟩, 0, 3)
/-- what is taken is something -/
def RLess (val : ByteArray → Int → Rk) : Prop := ∀ s depth, (val s depth).2.2 = 0 → (val s depth).1.size < s.size
theorem rval_less (k : Nat) : RLess (rVal k) := by
  intro s depth h
  cases k with
  | zero => exact absurd h (show ¬ (2 : Int) = 0 by decide)
  | succ k =>
    have h2 : ¬ (2 : Int) = 0 := by decide
    have h5 : ¬ (5 : Int) = 0 := by decide
    have h3 : ¬ (3 : Int) = 0 := by decide
    simp only [rVal] at h ⊢
    by_cases h0 : s.size = 0
    · rw [if_pos h0] at h; exact absurd h h2
    rw [if_neg h0] at h ⊢
    have ht := tail_size h0
    have hl := ltake_less (n := 4) (t := tailOf s)
    cases hs : sizeU (kindOf s) with
    | some n =>
      rw [hs] at h
      simp only at h ⊢
      by_cases hn : s.size < 1 + n
      · rw [if_pos hn] at h; exact absurd h h2
      · rw [if_neg hn]
        simp only
        rw [extract_size']
        omega
    | none =>
      rw [hs] at h
      simp only at h ⊢
      by_cases e : (ltakeR 4 (tailOf s)).2.2 = 0
      · replace hl := hl e (by decide) isW4
        simp only [if_pos e] at h ⊢
        by_cases hd : 32 ≤ depth
        · simp only [if_pos hd] at h ⊢
          by_cases c1 : kindOf s = 83 ∨ kindOf s = 120
          · rw [if_pos c1]; simp only; omega
          · rw [if_neg c1] at h ⊢
            by_cases c2 : kindOf s = 65
            · rw [if_pos c2] at h; exact absurd h h5
            · rw [if_neg c2] at h ⊢
              by_cases c3 : kindOf s = 70
              · rw [if_pos c3] at h; exact absurd h h5
              · rw [if_neg c3] at h; exact absurd h h3
        · simp only [if_neg hd] at h ⊢
          by_cases c1 : kindOf s = 83 ∨ kindOf s = 120
          · rw [if_pos c1]; simp only; omega
          · rw [if_neg c1] at h ⊢
            by_cases c2 : kindOf s = 65
            · rw [if_pos c2]; simp only; omega
            · rw [if_neg c2] at h ⊢
              by_cases c3 : kindOf s = 70
              · rw [if_pos c3]; simp only; omega
              · rw [if_neg c3] at h; exact absurd h h3
      · simp only [if_neg e] at h
        by_cases c1 : kindOf s = 83 ∨ kindOf s = 120
        · rw [if_pos c1] at h; exact absurd h h2
        · rw [if_neg c1] at h
          by_cases c2 : kindOf s = 65
          · rw [if_pos c2] at h; exact absurd h h2
          · rw [if_neg c2] at h
            by_cases c3 : kindOf s = 70
            · rw [if_pos c3] at h; exact absurd h h2
            · rw [if_neg c3] at h; exact absurd h h3
set_option maxHeartbeats 4000000 in
set_option maxRecDepth 100000 in
theorem row_calls (val : ByteArray → Int → Rk) (hless : RLess val) (s : ByteArray) (hz : s.size ≤ 4611686018427387904) (depth : Int) (fields : Bool)
    (hval : ∀ (i : ByteArray) (W : World), i.size ≤ s.size → Calls Tryd.prog 35 #[.string i, .int .i64 depth] W fun e w' => e = .returned (.tuple #[.string (val i depth).1, .int .i64 (val i depth).2.1, .int .i64 (val i depth).2.2]) ∧ Drawn0 W w') (w : World) :
    Calls Tryd.prog 43 #[.string s, .int .i64 depth, .bool fields] w fun e w' => e = .returned (.tuple #[.int .i64 (rRow val s depth fields).1, .int .i64 (rRow val s depth fields).2]) ∧ Drawn0 w w' := by
  generalize hR : rRow val s depth fields = res
  unfold rRow at hR
  have HR := Aside0.mk hR
  clear hR
  go_enter Tryd.func43, Tryd.ntmps43
  go_wp2
  go_loopw [0, 8] (fun v0 v8 wr => ∃ (i : ByteArray) (dp : Int) (k : Nat), v0 = .string i ∧ v8 = .int .i64 dp ∧ Aside0 (i.size ≤ k) ∧ Aside0 (i.size ≤ s.size) ∧ Aside0 (rItems val fields depth k i dp = res) ∧ Drawn0 w wr) (fun v0 _ _ => match v0 with | .string i => i.size | _ => 0)
  case atStart => exact ⟨s, depth, s.size, rfl, rfl, ⟨Nat.le_refl _⟩, ⟨Nat.le_refl _⟩, HR, Drawn0.refl _⟩
  case round =>
    clear HR
    obtain ⟨i, dp, k, rfl, rfl, hk, hq, hit, ⟨nw, rfl⟩⟩ := hrel
    by_cases h0 : i.size = 0
    · have hri : rItems val fields depth k i dp = (dp, 0) := by
        cases k with
        | zero => rfl
        | succ k => rw [rItems, if_pos h0]
      have hres : res = (dp, 0) := by rw [← hit.out, hri]
      have hd0 : decide ((0 : Int) < (i.size : Int)) = false := by rw [h0]; rfl
      subst hres
      go_wp2
      go_ret2
      exact ⟨rfl, nw, rfl⟩
    · have hd0 : decide ((0 : Int) < (i.size : Int)) = true := decide_eq_true (by omega)
      obtain ⟨k, rfl⟩ : ∃ k', k = k' + 1 := ⟨k - 1, by have := hk.out; omega⟩
      have hit' := hit.out
      rw [rItems, if_neg h0] at hit'
      cases fields with
      | true =>
        have htk := Aside0.mk (rtshort_f i (by have := hq.out; omega))
        have hsm := ltake_less (n := 1) (t := i)
        simp only [if_true] at hit'
        generalize ltakeR 1 i = t at htk hsm hit'
        obtain ⟨t1, t2, t3⟩ := t
        simp only at hsm hit'
        by_cases e : t3 = 0
        · subst e
          replace hsm := hsm rfl (by decide) isW1
          rw [if_neg (fun h => h.2 rfl)] at hit'
          have hv := fun W => hval t2 W (by have := hq.out; omega)
          have hlo := hless t2 depth
          generalize val t2 depth = o at hit' hv hlo
          obtain ⟨o1, o2, o3⟩ := o
          simp only at hit' hlo hv
          by_cases e2 : o3 = 2
          · subst e2
            have hres : res = (0, 3) := by rw [← hit']; rfl
            subst hres
            clear hit'
            go_wp2_with (first | (go_at_call 47; refine (interchangeref02_TakeShort.calls _ _ _ _ _ htk.out).mono ?_; rintro e w' ⟨rfl, ⟨nd0, rfl⟩⟩) | (go_at_call 35; refine (hv _).mono ?_; rintro e w' ⟨rfl, ⟨nd, rfl⟩⟩))
            go_ret2
            exact ⟨rfl, ⟨_, rfl⟩⟩
          · rw [if_neg e2] at hit'
            have e2' : (o3 == 2) = false := by simpa using e2
            by_cases e0 : o3 = 0
            · subst e0
              rw [if_pos rfl] at hit'
              replace hlo := hlo rfl
              have HIT := Aside0.mk hit'
              clear hit'
              by_cases hdp : dp < o2
              · rw [if_pos hdp] at HIT
                have hdp' : decide (dp < o2) = true := decide_eq_true hdp
                go_wp2_with (first | (go_at_call 47; refine (interchangeref02_TakeShort.calls _ _ _ _ _ htk.out).mono ?_; rintro e w' ⟨rfl, ⟨nd0, rfl⟩⟩) | (go_at_call 35; refine (hv _).mono ?_; rintro e w' ⟨rfl, ⟨nd, rfl⟩⟩))
                exact ⟨⟨o1, o2, k, rfl, rfl, ⟨by have := hk.out; omega⟩, ⟨by have := hq.out; omega⟩, HIT, ⟨_, rfl⟩⟩, by show o1.size < i.size; omega⟩
              · rw [if_neg hdp] at HIT
                have hdp' : decide (dp < o2) = false := decide_eq_false hdp
                go_wp2_with (first | (go_at_call 47; refine (interchangeref02_TakeShort.calls _ _ _ _ _ htk.out).mono ?_; rintro e w' ⟨rfl, ⟨nd0, rfl⟩⟩) | (go_at_call 35; refine (hv _).mono ?_; rintro e w' ⟨rfl, ⟨nd, rfl⟩⟩))
                exact ⟨⟨o1, dp, k, rfl, rfl, ⟨by have := hk.out; omega⟩, ⟨by have := hq.out; omega⟩, HIT, ⟨_, rfl⟩⟩, by show o1.size < i.size; omega⟩
            · rw [if_neg e0] at hit'
              have e0' : (o3 != 0) = true := by simpa using e0
              subst hit'
              go_wp2_with (first | (go_at_call 47; refine (interchangeref02_TakeShort.calls _ _ _ _ _ htk.out).mono ?_; rintro e w' ⟨rfl, ⟨nd0, rfl⟩⟩) | (go_at_call 35; refine (hv _).mono ?_; rintro e w' ⟨rfl, ⟨nd, rfl⟩⟩))
              go_ret2
              exact ⟨rfl, ⟨_, rfl⟩⟩
        · have e' : (t3 != 0) = true := by simpa using e
          rw [if_pos ⟨trivial, e⟩] at hit'
          subst hit'
          clear hsm
          go_wp2_with (first | (go_at_call 47; refine (interchangeref02_TakeShort.calls _ _ _ _ _ htk.out).mono ?_; rintro e w' ⟨rfl, ⟨nd0, rfl⟩⟩) )
          go_ret2
          exact ⟨rfl, ⟨_, rfl⟩⟩
      | false =>
        rw [if_neg (fun h => Bool.noConfusion h.1)] at hit'
        simp only [Bool.false_eq_true, if_false] at hit'
        have hv := fun W => hval i W (by exact hq.out)
        have hlo := hless i depth
        generalize val i depth = o at hit' hv hlo
        obtain ⟨o1, o2, o3⟩ := o
        simp only at hit' hlo hv
        by_cases e2 : o3 = 2
        · subst e2
          have hres : res = (0, 3) := by rw [← hit']; rfl
          subst hres
          clear hit'
          go_wp2_with (first | (go_at_call 35; refine (hv _).mono ?_; rintro e w' ⟨rfl, ⟨nd, rfl⟩⟩))
          go_ret2
          exact ⟨rfl, ⟨_, rfl⟩⟩
        · rw [if_neg e2] at hit'
          have e2' : (o3 == 2) = false := by simpa using e2
          by_cases e0 : o3 = 0
          · subst e0
            rw [if_pos rfl] at hit'
            replace hlo := hlo rfl
            have HIT := Aside0.mk hit'
            clear hit'
            by_cases hdp : dp < o2
            · rw [if_pos hdp] at HIT
              have hdp' : decide (dp < o2) = true := decide_eq_true hdp
              go_wp2_with (first | (go_at_call 35; refine (hv _).mono ?_; rintro e w' ⟨rfl, ⟨nd, rfl⟩⟩))
              exact ⟨⟨o1, o2, k, rfl, rfl, ⟨by have := hk.out; omega⟩, ⟨by have := hq.out; omega⟩, HIT, ⟨_, rfl⟩⟩, by show o1.size < i.size; omega⟩
            · rw [if_neg hdp] at HIT
              have hdp' : decide (dp < o2) = false := decide_eq_false hdp
              go_wp2_with (first | (go_at_call 35; refine (hv _).mono ?_; rintro e w' ⟨rfl, ⟨nd, rfl⟩⟩))
              exact ⟨⟨o1, dp, k, rfl, rfl, ⟨by have := hk.out; omega⟩, ⟨by have := hq.out; omega⟩, HIT, ⟨_, rfl⟩⟩, by show o1.size < i.size; omega⟩
          · rw [if_neg e0] at hit'
            have e0' : (o3 != 0) = true := by simpa using e0
            subst hit'
            go_wp2_with (first | (go_at_call 35; refine (hv _).mono ?_; rintro e w' ⟨rfl, ⟨nd, rfl⟩⟩))
            go_ret2
            exact ⟨rfl, ⟨_, rfl⟩⟩
theorem sizeU_le {c n : Nat} (h : sizeU c = some n) : n ≤ 8 := by
  unfold sizeU at h
  repeat' split at h
  all_goals first | (cases h; decide) | cases h
theorem kind_at {s : ByteArray} (h : 0 < s.size) : (kindOf s : Int) = ((s[0]'h).toNat : Int) := by
  unfold kindOf
  obtain ⟨⟨l⟩⟩ := s
  cases l with
  | nil => exact absurd h (by decide)
  | cons a l => rfl
set_option maxHeartbeats 4000000 in
set_option maxRecDepth 100000 in
theorem rval_calls : ∀ (k : Nat) (s : ByteArray) (hz : s.size ≤ 4611686018427387904) (hk : s.size < k) (depth : Int) (hd0 : 0 ≤ depth) (hd1 : depth ≤ 32) (w : World),
    Calls Tryd.prog 35 #[.string s, .int .i64 depth] w fun e w' => e = .returned (.tuple #[.string (rVal k s depth).1, .int .i64 (rVal k s depth).2.1, .int .i64 (rVal k s depth).2.2]) ∧ Drawn0 w w' := by
  intro k
  induction k with
  | zero => intro s hz hk; omega
  | succ k ih =>
    intro s hz hk depth hd0 hd1 w
    generalize hw : rVal (k + 1) s depth = res
    rw [rVal] at hw
    by_cases h0 : s.size = 0
    · rw [if_pos h0] at hw
      subst hw
      have hd : ((s.size : Int) == 0) = true := by rw [h0]; rfl
      go_enter Tryd.func35, Tryd.ntmps35
      go_wp2
      refine bodyPost_ret (results_tmp3 rfl _ _ _) rfl ?_
      exact ⟨rfl, Drawn0.refl _⟩
    · rw [if_neg h0] at hw
      have hd : ((s.size : Int) == 0) = false := beq_eq_false_iff_ne.mpr (by omega)
      have hpos : 0 < s.size := by omega
      have hts := tail_size h0
      obtain ⟨b, hb⟩ : ∃ b : UInt8, kindOf s = b.toNat := ⟨_, rfl⟩
      have hx : ∀ h : 0 < s.size, ((s[0]'h).toNat : Int) = (b.toNat : Int) := by intro h; rw [← hb, kind_at h]
      have hsz := Aside0.mk (rsize_k (k := 40) (Nat.le_refl _) b)
      rw [hb] at hw
      clear hb
      generalize b.toNat = c at hx hsz hw
      unfold sizeI at hsz
      cases hs : sizeU c with
      | some n =>
        rw [hs] at hw hsz
        simp only at hw hsz
        have hn := sizeU_le hs
        have hn0 : decide ((0 : Int) ≤ (n : Int)) = true := decide_eq_true (by omega)
        have hwr : IntKind.i64.wrap (1 + (n : Int)) = 1 + (n : Int) := by rw [i64_w]; exact wrap64_of (by omega) (by omega)
        have hnt : (1 + (n : Int)).toNat = 1 + n := by omega
        by_cases hl : s.size < 1 + n
        · rw [if_pos hl] at hw
          subst hw
          have hl' : decide ((s.size : Int) < 1 + (n : Int)) = true := decide_eq_true (by omega)
          go_enter Tryd.func35, Tryd.ntmps35
          go_wp2_with (first | (go_at_call 46; refine (interchangeref03_size.calls _ _ _ _ hsz.out).mono ?_; rintro e w' ⟨rfl, ⟨nd0, rfl⟩⟩))
          refine bodyPost_ret (results_tmp3 rfl _ _ _) rfl ?_
          exact ⟨rfl, ⟨_, rfl⟩⟩
        · rw [if_neg hl] at hw
          subst hw
          have hl' : decide ((s.size : Int) < 1 + (n : Int)) = false := decide_eq_false (by omega)
          have hl2 : (1 + (n : Int)) ≤ (s.size : Int) := by omega
          have hl3 : (0 : Int) ≤ 1 + (n : Int) := by omega
          go_enter Tryd.func35, Tryd.ntmps35
          go_wp2_with (first | (go_at_call 46; refine (interchangeref03_size.calls _ _ _ _ hsz.out).mono ?_; rintro e w' ⟨rfl, ⟨nd0, rfl⟩⟩))
          refine bodyPost_ret (results_tmp3 rfl _ _ _) rfl ?_
          exact ⟨rfl, ⟨_, rfl⟩⟩
      | none =>
        rw [hs] at hw hsz
        simp only at hw hsz
        clear hs
        have hfl := ltake_fail (n := 4) (t := tailOf s)
        have hsm := ltake_less (n := 4) (t := tailOf s)
        by_cases e83 : c = 83
        · rw [if_pos (.inl e83)] at hw
          rw [show (c : Int) = 83 from by omega] at hx hsz
          have hin := Aside0.mk (rinside_k (k := 12) (by decide) (tailOf s) (by omega))
          generalize ltakeR 4 (tailOf s) = t at hin hw hfl hsm
          obtain ⟨t1, t2, t3⟩ := t
          simp only at hw hfl hsm
          by_cases e : t3 = 0
          · subst e
            rw [if_pos rfl] at hw
            subst hw
            clear hsm
            go_enter Tryd.func35, Tryd.ntmps35
            go_wp2_with (first | (go_at_call 46; refine (interchangeref03_size.calls _ _ _ _ hsz.out).mono ?_; rintro e w' ⟨rfl, ⟨nd0, rfl⟩⟩) | (go_at_call 42; refine (interchangeref03_inside.calls 12 (tailOf s) _ _ _ _ hin.out).mono ?_; rintro e w' ⟨rfl, ⟨nd1, rfl⟩⟩))
            repeat (go_quiet (fail); try go_wp2_with (first | (go_at_call 46; refine (interchangeref03_size.calls _ _ _ _ hsz.out).mono ?_; rintro e w' ⟨rfl, ⟨nd0, rfl⟩⟩) | (go_at_call 42; refine (interchangeref03_inside.calls 12 (tailOf s) _ _ _ _ hin.out).mono ?_; rintro e w' ⟨rfl, ⟨nd1, rfl⟩⟩)))
            refine bodyPost_ret (results_tmp3 rfl _ _ _) rfl ?_
            exact ⟨rfl, ⟨_, rfl⟩⟩
          · rw [if_neg e] at hw
            have e' : (t3 != 0) = true := by simpa using e
            obtain ⟨-, -, rfl⟩ := tup3 (hfl e isW4)
            subst hw
            clear hsm
            go_enter Tryd.func35, Tryd.ntmps35
            go_wp2_with (first | (go_at_call 46; refine (interchangeref03_size.calls _ _ _ _ hsz.out).mono ?_; rintro e w' ⟨rfl, ⟨nd0, rfl⟩⟩) | (go_at_call 42; refine (interchangeref03_inside.calls 12 (tailOf s) _ _ _ _ hin.out).mono ?_; rintro e w' ⟨rfl, ⟨nd1, rfl⟩⟩))
            repeat (go_quiet (fail); try go_wp2_with (first | (go_at_call 46; refine (interchangeref03_size.calls _ _ _ _ hsz.out).mono ?_; rintro e w' ⟨rfl, ⟨nd0, rfl⟩⟩) | (go_at_call 42; refine (interchangeref03_inside.calls 12 (tailOf s) _ _ _ _ hin.out).mono ?_; rintro e w' ⟨rfl, ⟨nd1, rfl⟩⟩)))
            refine bodyPost_ret (results_tmp3 rfl _ _ _) rfl ?_
            exact ⟨rfl, ⟨_, rfl⟩⟩
        by_cases e120 : c = 120
        · rw [if_pos (.inr e120)] at hw
          rw [show (c : Int) = 120 from by omega] at hx hsz
          have hin := Aside0.mk (rinside_k (k := 12) (by decide) (tailOf s) (by omega))
          generalize ltakeR 4 (tailOf s) = t at hin hw hfl hsm
          obtain ⟨t1, t2, t3⟩ := t
          simp only at hw hfl hsm
          by_cases e : t3 = 0
          · subst e
            rw [if_pos rfl] at hw
            subst hw
            clear hsm
            go_enter Tryd.func35, Tryd.ntmps35
            go_wp2_with (first | (go_at_call 46; refine (interchangeref03_size.calls _ _ _ _ hsz.out).mono ?_; rintro e w' ⟨rfl, ⟨nd0, rfl⟩⟩) | (go_at_call 42; refine (interchangeref03_inside.calls 12 (tailOf s) _ _ _ _ hin.out).mono ?_; rintro e w' ⟨rfl, ⟨nd1, rfl⟩⟩))
            repeat (go_quiet (fail); try go_wp2_with (first | (go_at_call 46; refine (interchangeref03_size.calls _ _ _ _ hsz.out).mono ?_; rintro e w' ⟨rfl, ⟨nd0, rfl⟩⟩) | (go_at_call 42; refine (interchangeref03_inside.calls 12 (tailOf s) _ _ _ _ hin.out).mono ?_; rintro e w' ⟨rfl, ⟨nd1, rfl⟩⟩)))
            refine bodyPost_ret (results_tmp3 rfl _ _ _) rfl ?_
            exact ⟨rfl, ⟨_, rfl⟩⟩
          · rw [if_neg e] at hw
            have e' : (t3 != 0) = true := by simpa using e
            obtain ⟨-, -, rfl⟩ := tup3 (hfl e isW4)
            subst hw
            clear hsm
            go_enter Tryd.func35, Tryd.ntmps35
            go_wp2_with (first | (go_at_call 46; refine (interchangeref03_size.calls _ _ _ _ hsz.out).mono ?_; rintro e w' ⟨rfl, ⟨nd0, rfl⟩⟩) | (go_at_call 42; refine (interchangeref03_inside.calls 12 (tailOf s) _ _ _ _ hin.out).mono ?_; rintro e w' ⟨rfl, ⟨nd1, rfl⟩⟩))
            repeat (go_quiet (fail); try go_wp2_with (first | (go_at_call 46; refine (interchangeref03_size.calls _ _ _ _ hsz.out).mono ?_; rintro e w' ⟨rfl, ⟨nd0, rfl⟩⟩) | (go_at_call 42; refine (interchangeref03_inside.calls 12 (tailOf s) _ _ _ _ hin.out).mono ?_; rintro e w' ⟨rfl, ⟨nd1, rfl⟩⟩)))
            refine bodyPost_ret (results_tmp3 rfl _ _ _) rfl ?_
            exact ⟨rfl, ⟨_, rfl⟩⟩
        rw [if_neg (by omega)] at hw
        by_cases e65 : c = 65
        · rw [if_pos e65] at hw
          rw [show (c : Int) = 65 from by omega] at hx hsz
          have hin := Aside0.mk (rinside_k (k := 12) (by decide) (tailOf s) (by omega))
          generalize ltakeR 4 (tailOf s) = t at hin hw hfl hsm
          obtain ⟨t1, t2, t3⟩ := t
          simp only at hw hfl hsm
          by_cases e : t3 = 0
          · subst e
            rw [if_pos rfl] at hw
            replace hsm := hsm rfl (by decide) isW4
            by_cases hdp : 32 ≤ depth
            · rw [if_pos hdp] at hw
              have hdp' : decide (32 ≤ depth) = true := decide_eq_true hdp
              subst hw
              go_enter Tryd.func35, Tryd.ntmps35
              go_wp2_with (first | (go_at_call 46; refine (interchangeref03_size.calls _ _ _ _ hsz.out).mono ?_; rintro e w' ⟨rfl, ⟨nd0, rfl⟩⟩) | (go_at_call 42; refine (interchangeref03_inside.calls 12 (tailOf s) _ _ _ _ hin.out).mono ?_; rintro e w' ⟨rfl, ⟨nd1, rfl⟩⟩))
              repeat (go_quiet (fail); try go_wp2_with (first | (go_at_call 46; refine (interchangeref03_size.calls _ _ _ _ hsz.out).mono ?_; rintro e w' ⟨rfl, ⟨nd0, rfl⟩⟩) | (go_at_call 42; refine (interchangeref03_inside.calls 12 (tailOf s) _ _ _ _ hin.out).mono ?_; rintro e w' ⟨rfl, ⟨nd1, rfl⟩⟩)))
              refine bodyPost_ret (results_tmp3 rfl _ _ _) rfl ?_
              exact ⟨rfl, ⟨_, rfl⟩⟩
            · rw [if_neg hdp] at hw
              have hdp' : decide (32 ≤ depth) = false := decide_eq_false hdp
              have hrow := row_calls (rVal k) (rval_less k) t1 (by omega) (depth + 1) false (fun i W hi => ih i (by omega) (by omega) (depth + 1) (by omega) (by omega) W)
              generalize rRow (rVal k) t1 (depth + 1) false = r at hrow hw
              subst hw
              have hdw : IntKind.i64.wrap (depth + 1) = depth + 1 := by rw [i64_w]; exact wrap64_of (by omega) (by omega)
              go_enter Tryd.func35, Tryd.ntmps35
              go_wp2_with (first | (go_at_call 46; refine (interchangeref03_size.calls _ _ _ _ hsz.out).mono ?_; rintro e w' ⟨rfl, ⟨nd0, rfl⟩⟩) | (go_at_call 42; refine (interchangeref03_inside.calls 12 (tailOf s) _ _ _ _ hin.out).mono ?_; rintro e w' ⟨rfl, ⟨nd1, rfl⟩⟩) | (go_at_call 43; refine (hrow _).mono ?_; rintro e w' ⟨rfl, ⟨nd2, rfl⟩⟩))
              repeat (go_quiet (fail); try go_wp2_with (first | (go_at_call 46; refine (interchangeref03_size.calls _ _ _ _ hsz.out).mono ?_; rintro e w' ⟨rfl, ⟨nd0, rfl⟩⟩) | (go_at_call 42; refine (interchangeref03_inside.calls 12 (tailOf s) _ _ _ _ hin.out).mono ?_; rintro e w' ⟨rfl, ⟨nd1, rfl⟩⟩) | (go_at_call 43; refine (hrow _).mono ?_; rintro e w' ⟨rfl, ⟨nd2, rfl⟩⟩)))
              refine bodyPost_ret (results_tmp3 rfl _ _ _) rfl ?_
              exact ⟨rfl, ⟨_, rfl⟩⟩
          · rw [if_neg e] at hw
            have e' : (t3 != 0) = true := by simpa using e
            obtain ⟨-, -, rfl⟩ := tup3 (hfl e isW4)
            subst hw
            clear hsm
            go_enter Tryd.func35, Tryd.ntmps35
            go_wp2_with (first | (go_at_call 46; refine (interchangeref03_size.calls _ _ _ _ hsz.out).mono ?_; rintro e w' ⟨rfl, ⟨nd0, rfl⟩⟩) | (go_at_call 42; refine (interchangeref03_inside.calls 12 (tailOf s) _ _ _ _ hin.out).mono ?_; rintro e w' ⟨rfl, ⟨nd1, rfl⟩⟩))
            repeat (go_quiet (fail); try go_wp2_with (first | (go_at_call 46; refine (interchangeref03_size.calls _ _ _ _ hsz.out).mono ?_; rintro e w' ⟨rfl, ⟨nd0, rfl⟩⟩) | (go_at_call 42; refine (interchangeref03_inside.calls 12 (tailOf s) _ _ _ _ hin.out).mono ?_; rintro e w' ⟨rfl, ⟨nd1, rfl⟩⟩)))
            refine bodyPost_ret (results_tmp3 rfl _ _ _) rfl ?_
            exact ⟨rfl, ⟨_, rfl⟩⟩
        rw [if_neg e65] at hw
        by_cases e70 : c = 70
        · rw [if_pos e70] at hw
          rw [show (c : Int) = 70 from by omega] at hx hsz
          have hin := Aside0.mk (rinside_k (k := 12) (by decide) (tailOf s) (by omega))
          generalize ltakeR 4 (tailOf s) = t at hin hw hfl hsm
          obtain ⟨t1, t2, t3⟩ := t
          simp only at hw hfl hsm
          by_cases e : t3 = 0
          · subst e
            rw [if_pos rfl] at hw
            replace hsm := hsm rfl (by decide) isW4
            by_cases hdp : 32 ≤ depth
            · rw [if_pos hdp] at hw
              have hdp' : decide (32 ≤ depth) = true := decide_eq_true hdp
              subst hw
              go_enter Tryd.func35, Tryd.ntmps35
              go_wp2_with (first | (go_at_call 46; refine (interchangeref03_size.calls _ _ _ _ hsz.out).mono ?_; rintro e w' ⟨rfl, ⟨nd0, rfl⟩⟩) | (go_at_call 42; refine (interchangeref03_inside.calls 12 (tailOf s) _ _ _ _ hin.out).mono ?_; rintro e w' ⟨rfl, ⟨nd1, rfl⟩⟩))
              repeat (go_quiet (fail); try go_wp2_with (first | (go_at_call 46; refine (interchangeref03_size.calls _ _ _ _ hsz.out).mono ?_; rintro e w' ⟨rfl, ⟨nd0, rfl⟩⟩) | (go_at_call 42; refine (interchangeref03_inside.calls 12 (tailOf s) _ _ _ _ hin.out).mono ?_; rintro e w' ⟨rfl, ⟨nd1, rfl⟩⟩)))
              refine bodyPost_ret (results_tmp3 rfl _ _ _) rfl ?_
              exact ⟨rfl, ⟨_, rfl⟩⟩
            · rw [if_neg hdp] at hw
              have hdp' : decide (32 ≤ depth) = false := decide_eq_false hdp
              have hrow := row_calls (rVal k) (rval_less k) t1 (by omega) (depth + 1) true (fun i W hi => ih i (by omega) (by omega) (depth + 1) (by omega) (by omega) W)
              generalize rRow (rVal k) t1 (depth + 1) true = r at hrow hw
              subst hw
              have hdw : IntKind.i64.wrap (depth + 1) = depth + 1 := by rw [i64_w]; exact wrap64_of (by omega) (by omega)
              go_enter Tryd.func35, Tryd.ntmps35
              go_wp2_with (first | (go_at_call 46; refine (interchangeref03_size.calls _ _ _ _ hsz.out).mono ?_; rintro e w' ⟨rfl, ⟨nd0, rfl⟩⟩) | (go_at_call 42; refine (interchangeref03_inside.calls 12 (tailOf s) _ _ _ _ hin.out).mono ?_; rintro e w' ⟨rfl, ⟨nd1, rfl⟩⟩) | (go_at_call 43; refine (hrow _).mono ?_; rintro e w' ⟨rfl, ⟨nd2, rfl⟩⟩))
              repeat (go_quiet (fail); try go_wp2_with (first | (go_at_call 46; refine (interchangeref03_size.calls _ _ _ _ hsz.out).mono ?_; rintro e w' ⟨rfl, ⟨nd0, rfl⟩⟩) | (go_at_call 42; refine (interchangeref03_inside.calls 12 (tailOf s) _ _ _ _ hin.out).mono ?_; rintro e w' ⟨rfl, ⟨nd1, rfl⟩⟩) | (go_at_call 43; refine (hrow _).mono ?_; rintro e w' ⟨rfl, ⟨nd2, rfl⟩⟩)))
              refine bodyPost_ret (results_tmp3 rfl _ _ _) rfl ?_
              exact ⟨rfl, ⟨_, rfl⟩⟩
          · rw [if_neg e] at hw
            have e' : (t3 != 0) = true := by simpa using e
            obtain ⟨-, -, rfl⟩ := tup3 (hfl e isW4)
            subst hw
            clear hsm
            go_enter Tryd.func35, Tryd.ntmps35
            go_wp2_with (first | (go_at_call 46; refine (interchangeref03_size.calls _ _ _ _ hsz.out).mono ?_; rintro e w' ⟨rfl, ⟨nd0, rfl⟩⟩) | (go_at_call 42; refine (interchangeref03_inside.calls 12 (tailOf s) _ _ _ _ hin.out).mono ?_; rintro e w' ⟨rfl, ⟨nd1, rfl⟩⟩))
            repeat (go_quiet (fail); try go_wp2_with (first | (go_at_call 46; refine (interchangeref03_size.calls _ _ _ _ hsz.out).mono ?_; rintro e w' ⟨rfl, ⟨nd0, rfl⟩⟩) | (go_at_call 42; refine (interchangeref03_inside.calls 12 (tailOf s) _ _ _ _ hin.out).mono ?_; rintro e w' ⟨rfl, ⟨nd1, rfl⟩⟩)))
            refine bodyPost_ret (results_tmp3 rfl _ _ _) rfl ?_
            exact ⟨rfl, ⟨_, rfl⟩⟩
        rw [if_neg e70] at hw
        subst hw
        clear hfl hsm
        have c83 : ((c : Int) != 83) = true := bne_iff_ne.mpr (by omega)
        have c120 : ((c : Int) != 120) = true := bne_iff_ne.mpr (by omega)
        have c65 : ((c : Int) != 65) = true := bne_iff_ne.mpr (by omega)
        have c70 : ((c : Int) != 70) = true := bne_iff_ne.mpr (by omega)
        go_enter Tryd.func35, Tryd.ntmps35
        go_wp2_with (first | (go_at_call 46; refine (interchangeref03_size.calls _ _ _ _ hsz.out).mono ?_; rintro e w' ⟨rfl, ⟨nd0, rfl⟩⟩))
        repeat (go_quiet (fail); try go_wp2)
        refine bodyPost_ret (results_tmp3 rfl _ _ _) rfl ?_
        exact ⟨rfl, ⟨_, rfl⟩⟩
def interchangeref03_value.f (a0 : ByteArray) (a1 : Int) : Option (ByteArray × Int × Int) := if a0.size ≤ 4611686018427387904 ∧ 0 ≤ a1 ∧ a1 ≤ 32 then some (rVal (a0.size + 1) a0 a1) else none
def interchangeref03_row.f (a0 : ByteArray) (a1 : Int) (a2 : Bool) : Option (Int × Int) := if a0.size ≤ 4611686018427387904 ∧ 0 ≤ a1 ∧ a1 ≤ 32 then some (rRow (rVal (a0.size + 1)) a0 a1 a2) else none
theorem interchangeref03_value.calls (a0 : ByteArray) (a1 : Int) (r1 : ByteArray) (r2 r3 : Int) (w : World) (h : interchangeref03_value.f a0 a1 = some (r1, r2, r3)) :
    Calls Tryd.prog 35 #[.string a0, .int .i64 a1] w fun e w' => e = .returned (.tuple #[.string r1, .int .i64 r2, .int .i64 r3]) ∧ Drawn0 w w' := by
  unfold interchangeref03_value.f at h
  by_cases e : a0.size ≤ 4611686018427387904 ∧ 0 ≤ a1 ∧ a1 ≤ 32
  · rw [if_pos e] at h
    have := rval_calls (a0.size + 1) a0 e.1 (by omega) a1 e.2.1 e.2.2 w
    rw [Option.some.inj h] at this
    exact this
  · rw [if_neg e] at h; cases h
theorem interchangeref03_row.calls (a0 : ByteArray) (a1 : Int) (a2 : Bool) (r1 r2 : Int) (w : World) (h : interchangeref03_row.f a0 a1 a2 = some (r1, r2)) :
    Calls Tryd.prog 43 #[.string a0, .int .i64 a1, .bool a2] w fun e w' => e = .returned (.tuple #[.int .i64 r1, .int .i64 r2]) ∧ Drawn0 w w' := by
  unfold interchangeref03_row.f at h
  by_cases e : a0.size ≤ 4611686018427387904 ∧ 0 ≤ a1 ∧ a1 ≤ 32
  · rw [if_pos e] at h
    have := row_calls (rVal (a0.size + 1)) (rval_less _) a0 e.1 a1 a2 (fun i W hi => rval_calls (a0.size + 1) i (by omega) (by omega) a1 e.2.1 e.2.2 W) w
    rw [Option.some.inj h] at this
    exact this
  · rw [if_neg e] at h; cases h
end Go.Proofs.YthdkmohelampbaaDoor.F
namespace Go.Proofs.YthdkmohelampbaaDoor.F
open Go.RowKit Go.Proofs.YthdkmohelampbaaDoorW.PrintWords Go.Proofs.YthdkmohelampbaaDoorW.PrintLast Go.Proofs.YthdkmohelampbaaDoorW.PrintMore
attribute [local go_sem] max2_int min2_int max_two min_two max_three min_three max_four min_four
set_option linter.unusedVariables false
set_option linter.unusedSimpArgs false

/-! ### interchangeref03_table: function 32 -/
def interchangeref03_table.f (k : Nat) (a0 : ByteArray) : Option (ByteArray × Int × Int) := (interchangeref03_inside.f k a0).bind fun bt138 => (if bt138.2.2 = 0 then ((interchangeref03_row.f bt138.1 1 true).bind fun bt141 => (some (bt138.2.1, bt141.1, bt141.2))) else (some ((⟨#[]⟩ : ByteArray), 0, bt138.2.2)))
theorem interchangeref03_table.mono : ∀ a0 k, LeO (interchangeref03_table.f k a0) (interchangeref03_table.f (k + 1) a0) := by
  intro a0 k
  unfold interchangeref03_table.f
  repeat' first
      | (with_reducible exact interchangeref03_inside.mono _ _)
      | (with_reducible exact LeO.refl _)
      | (with_reducible exact LeO.none _)
      | (with_reducible refine LeO.ite ?_ ?_)
      | (with_reducible refine LeO.bind ?_ (fun _ => ?_))
      | exact interchangeref03_inside.mono _ _
      | exact LeO.none _
      | refine LeO.ite ?_ ?_
      | refine LeO.bind ?_ (fun _ => ?_)
set_option maxHeartbeats 8000000 in
set_option maxRecDepth 100000 in
theorem interchangeref03_table.calls (k : Nat) (a0 : ByteArray) (r1 : ByteArray) (r2 : Int) (r3 : Int) (w : World) (h : interchangeref03_table.f k a0 = some (r1, r2, r3)) :
    Calls Tryd.prog 32 #[.string a0] w fun e w' => e = .returned (.tuple #[.string r1, .int .i64 r2, .int .i64 r3]) ∧ Drawn0 w w' := by
  have H : ((interchangeref03_inside.f k a0).bind fun bt138 => (if bt138.2.2 = 0 then ((interchangeref03_row.f bt138.1 1 true).bind fun bt141 => (some (bt138.2.1, bt141.1, bt141.2))) else (some ((⟨#[]⟩ : ByteArray), 0, bt138.2.2)))) = some (r1, r2, r3) := h
  clear h
  replace H := Option.bind_eq_some_iff.mp H
  obtain ⟨⟨t138, t139, t140⟩, A20, H⟩ := H
  replace H : (if t140 = 0 then ((interchangeref03_row.f t138 1 true).bind fun bt141 => (some (t139, bt141.1, bt141.2))) else (some ((⟨#[]⟩ : ByteArray), 0, t140))) = some (r1, r2, r3) := H
  have A2 := Aside0.mk A20
  clear A20
  by_cases c3 : t140 = 0
  · rw [if_pos c3] at H
    have c3b0 : (t140 == 0) = true := beq_iff_eq.mpr c3
    have c3b1 : (t140 != 0) = false := bne_eq_false_iff_eq.mpr c3
    clear c3
    replace H := Option.bind_eq_some_iff.mp H
    obtain ⟨⟨t141, t142⟩, A40, H⟩ := H
    replace H : (some (t139, t141, t142)) = some (r1, r2, r3) := H
    have A4 := Aside0.mk A40
    clear A40
    simp only [Option.some.injEq, Prod.mk.injEq] at H
    obtain ⟨rfl, rfl, rfl⟩ := H
    go_enter Tryd.func32, Tryd.ntmps32
    go_wp2_with (first | ((with_reducible refine gate_callee (f := 42) rfl ?_); refine goesL_ (some 12) rfl rfl Tryd.func42 (by kernel_rfl) rfl #[.string a0] rfl (by (try simp only [List.map_toArray, List.map_cons, List.map_nil]); first | done | rfl | (simp only [List.length_drop, List.length_take]; rfl)) ?_; (with_reducible refine (interchangeref03_inside.calls k a0 t138 t139 t140 _ A2.out).mono ?_); rintro e w' ⟨rfl, ⟨nd, rfl⟩⟩; refine ⟨_, rfl, ?_⟩) | ((with_reducible refine gate_callee (f := 43) rfl ?_); refine goesL_ (some 21) rfl rfl Tryd.func43 (by kernel_rfl) rfl #[.string t138, .int .i64 1, .bool true] rfl (by (try simp only [List.map_toArray, List.map_cons, List.map_nil]); first | done | rfl | (simp only [List.length_drop, List.length_take]; rfl)) ?_; (with_reducible refine (interchangeref03_row.calls t138 1 true t141 t142 _ A4.out).mono ?_); rintro e w' ⟨rfl, ⟨nd, rfl⟩⟩; refine ⟨_, rfl, ?_⟩))
    go_ret3
    exact ⟨by first | rfl | (simp; done) | (simp [*]; done), by repeat (first | exact Drawn0.refl _ | apply Drawn0.step)⟩
  · rw [if_neg c3] at H
    have c3b0 : (t140 == 0) = false := beq_eq_false_iff_ne.mpr c3
    have c3b1 : (t140 != 0) = true := bne_iff_ne.mpr c3
    simp only [Option.some.injEq, Prod.mk.injEq] at H
    obtain ⟨rfl, rfl, rfl⟩ := H
    go_enter Tryd.func32, Tryd.ntmps32
    go_wp2_with (first | ((with_reducible refine gate_callee (f := 42) rfl ?_); refine goesL_ (some 12) rfl rfl Tryd.func42 (by kernel_rfl) rfl #[.string a0] rfl (by (try simp only [List.map_toArray, List.map_cons, List.map_nil]); first | done | rfl | (simp only [List.length_drop, List.length_take]; rfl)) ?_; (with_reducible refine (interchangeref03_inside.calls k a0 t138 t139 t140 _ A2.out).mono ?_); rintro e w' ⟨rfl, ⟨nd, rfl⟩⟩; refine ⟨_, rfl, ?_⟩))
    go_ret3
    exact ⟨by first | rfl | (simp; done) | (simp [*]; done), by repeat (first | exact Drawn0.refl _ | apply Drawn0.step)⟩


end Go.Proofs.YthdkmohelampbaaDoor.F
namespace Go.Proofs.YthdkmohelampbaaDoor.F
open Go.RowKit Go.Proofs.YthdkmohelampbaaDoorW.PrintWords Go.Proofs.YthdkmohelampbaaDoorW.PrintLast Go.Proofs.YthdkmohelampbaaDoorW.PrintMore
attribute [local go_sem] max2_int min2_int max_two min_two max_three min_three max_four min_four
set_option linter.unusedVariables false
set_option linter.unusedSimpArgs false

/-! ### interchangeref03_Deep: function 13 -/
def interchangeref03_Deep.f (k : Nat) (a0 : ByteArray) : Option (Int × Int) := (interchangeref03_table.f k a0).bind fun bt143 => (if bt143.2.2 = 0 then (if (bt143.1.size : Int) > 0 then (some (0, 3)) else (some (bt143.2.1, 0))) else (some (0, bt143.2.2)))
theorem interchangeref03_Deep.mono : ∀ a0 k, LeO (interchangeref03_Deep.f k a0) (interchangeref03_Deep.f (k + 1) a0) := by
  intro a0 k
  unfold interchangeref03_Deep.f
  repeat' first
      | (with_reducible exact interchangeref03_table.mono _ _)
      | (with_reducible exact LeO.refl _)
      | (with_reducible exact LeO.none _)
      | (with_reducible refine LeO.ite ?_ ?_)
      | (with_reducible refine LeO.bind ?_ (fun _ => ?_))
      | exact interchangeref03_table.mono _ _
      | exact LeO.none _
      | refine LeO.ite ?_ ?_
      | refine LeO.bind ?_ (fun _ => ?_)
set_option maxHeartbeats 8000000 in
set_option maxRecDepth 100000 in
theorem interchangeref03_Deep.calls (k : Nat) (a0 : ByteArray) (r1 : Int) (r2 : Int) (w : World) (h : interchangeref03_Deep.f k a0 = some (r1, r2)) :
    Calls Tryd.prog 13 #[.string a0] w fun e w' => e = .returned (.tuple #[.int .i64 r1, .int .i64 r2]) ∧ Drawn0 w w' := by
  have H : ((interchangeref03_table.f k a0).bind fun bt143 => (if bt143.2.2 = 0 then (if (bt143.1.size : Int) > 0 then (some (0, 3)) else (some (bt143.2.1, 0))) else (some (0, bt143.2.2)))) = some (r1, r2) := h
  clear h
  replace H := Option.bind_eq_some_iff.mp H
  obtain ⟨⟨t143, t144, t145⟩, A20, H⟩ := H
  replace H : (if t145 = 0 then (if (t143.size : Int) > 0 then (some (0, 3)) else (some (t144, 0))) else (some (0, t145))) = some (r1, r2) := H
  have A2 := Aside0.mk A20
  clear A20
  by_cases c3 : t145 = 0
  · rw [if_pos c3] at H
    have c3b0 : (t145 == 0) = true := beq_iff_eq.mpr c3
    have c3b1 : (t145 != 0) = false := bne_eq_false_iff_eq.mpr c3
    clear c3
    by_cases c4 : (t143.size : Int) > 0
    · rw [if_pos c4] at H
      have c4b0 : decide (0 < (t143.size : Int)) = true := decide_eq_true c4
      have c4b1 : decide (0 < t143.size) = true := decide_eq_true (by omega)
      clear c4
      simp only [Option.some.injEq, Prod.mk.injEq] at H
      obtain ⟨rfl, rfl⟩ := H
      go_enter Tryd.func13, Tryd.ntmps13
      go_wp2_with (first | ((with_reducible refine gate_callee (f := 32) rfl ?_); refine goesL_ (some 9) rfl rfl Tryd.func32 (by kernel_rfl) rfl #[.string a0] rfl (by (try simp only [List.map_toArray, List.map_cons, List.map_nil]); first | done | rfl | (simp only [List.length_drop, List.length_take]; rfl)) ?_; (with_reducible refine (interchangeref03_table.calls k a0 t143 t144 t145 _ A2.out).mono ?_); rintro e w' ⟨rfl, ⟨nd, rfl⟩⟩; refine ⟨_, rfl, ?_⟩))
      go_ret2
      exact ⟨by first | rfl | (simp; done) | (simp [*]; done), by repeat (first | exact Drawn0.refl _ | apply Drawn0.step)⟩
    · rw [if_neg c4] at H
      have c4b0 : decide (0 < (t143.size : Int)) = false := decide_eq_false c4
      have c4b1 : decide (0 < t143.size) = false := decide_eq_false (by omega)
      clear c4
      simp only [Option.some.injEq, Prod.mk.injEq] at H
      obtain ⟨rfl, rfl⟩ := H
      go_enter Tryd.func13, Tryd.ntmps13
      go_wp2_with (first | ((with_reducible refine gate_callee (f := 32) rfl ?_); refine goesL_ (some 9) rfl rfl Tryd.func32 (by kernel_rfl) rfl #[.string a0] rfl (by (try simp only [List.map_toArray, List.map_cons, List.map_nil]); first | done | rfl | (simp only [List.length_drop, List.length_take]; rfl)) ?_; (with_reducible refine (interchangeref03_table.calls k a0 t143 t144 t145 _ A2.out).mono ?_); rintro e w' ⟨rfl, ⟨nd, rfl⟩⟩; refine ⟨_, rfl, ?_⟩))
      go_ret2
      exact ⟨by first | rfl | (simp; done) | (simp [*]; done), by repeat (first | exact Drawn0.refl _ | apply Drawn0.step)⟩
  · rw [if_neg c3] at H
    have c3b0 : (t145 == 0) = false := beq_eq_false_iff_ne.mpr c3
    have c3b1 : (t145 != 0) = true := bne_iff_ne.mpr c3
    simp only [Option.some.injEq, Prod.mk.injEq] at H
    obtain ⟨rfl, rfl⟩ := H
    go_enter Tryd.func13, Tryd.ntmps13
    go_wp2_with (first | ((with_reducible refine gate_callee (f := 32) rfl ?_); refine goesL_ (some 9) rfl rfl Tryd.func32 (by kernel_rfl) rfl #[.string a0] rfl (by (try simp only [List.map_toArray, List.map_cons, List.map_nil]); first | done | rfl | (simp only [List.length_drop, List.length_take]; rfl)) ?_; (with_reducible refine (interchangeref03_table.calls k a0 t143 t144 t145 _ A2.out).mono ?_); rintro e w' ⟨rfl, ⟨nd, rfl⟩⟩; refine ⟨_, rfl, ?_⟩))
    go_ret2
    exact ⟨by first | rfl | (simp; done) | (simp [*]; done), by repeat (first | exact Drawn0.refl _ | apply Drawn0.step)⟩


end Go.Proofs.YthdkmohelampbaaDoor.F
namespace Go.Proofs.YthdkmohelampbaaDoor.F
open Go.RowKit Go.Proofs.YthdkmohelampbaaDoorW.PrintWords Go.Proofs.YthdkmohelampbaaDoorW.PrintLast Go.Proofs.YthdkmohelampbaaDoorW.PrintMore
attribute [local go_sem] max2_int min2_int max_two min_two max_three min_three max_four min_four
set_option linter.unusedVariables false
set_option linter.unusedSimpArgs false

/-! ### interchangeref03_Value: function 20 -/
def interchangeref03_Value.f (a0 : ByteArray) : Option (ByteArray × ByteArray × Int) := (interchangeref03_value.f a0 0).bind fun bt227 => (if bt227.2.2 = 0 then (if 0 ≤ (wrap64 ((a0.size : Int) - (bt227.1.size : Int))) then (if (wrap64 ((a0.size : Int) - (bt227.1.size : Int))) ≤ (a0.size : Int) then (some (a0.extract 0 ((wrap64 ((a0.size : Int) - (bt227.1.size : Int))) : Int).toNat, bt227.1, 0)) else (none)) else (none)) else (some ((⟨#[]⟩ : ByteArray), (⟨#[]⟩ : ByteArray), bt227.2.2)))
set_option maxHeartbeats 8000000 in
set_option maxRecDepth 100000 in
theorem interchangeref03_Value.calls (a0 : ByteArray) (r1 : ByteArray) (r2 : ByteArray) (r3 : Int) (w : World) (h : interchangeref03_Value.f a0 = some (r1, r2, r3)) :
    Calls Tryd.prog 20 #[.string a0] w fun e w' => e = .returned (.tuple #[.string r1, .string r2, .int .i64 r3]) ∧ Drawn0 w w' := by
  have H : ((interchangeref03_value.f a0 0).bind fun bt227 => (if bt227.2.2 = 0 then (if 0 ≤ (wrap64 ((a0.size : Int) - (bt227.1.size : Int))) then (if (wrap64 ((a0.size : Int) - (bt227.1.size : Int))) ≤ (a0.size : Int) then (some (a0.extract 0 ((wrap64 ((a0.size : Int) - (bt227.1.size : Int))) : Int).toNat, bt227.1, 0)) else (none)) else (none)) else (some ((⟨#[]⟩ : ByteArray), (⟨#[]⟩ : ByteArray), bt227.2.2)))) = some (r1, r2, r3) := h
  clear h
  replace H := Option.bind_eq_some_iff.mp H
  obtain ⟨⟨t227, t228, t229⟩, A20, H⟩ := H
  replace H : (if t229 = 0 then (if 0 ≤ (wrap64 ((a0.size : Int) - (t227.size : Int))) then (if (wrap64 ((a0.size : Int) - (t227.size : Int))) ≤ (a0.size : Int) then (some (a0.extract 0 ((wrap64 ((a0.size : Int) - (t227.size : Int))) : Int).toNat, t227, 0)) else (none)) else (none)) else (some ((⟨#[]⟩ : ByteArray), (⟨#[]⟩ : ByteArray), t229))) = some (r1, r2, r3) := H
  have A2 := Aside0.mk A20
  clear A20
  by_cases c3 : t229 = 0
  · rw [if_pos c3] at H
    have c3b0 : (t229 == 0) = true := beq_iff_eq.mpr c3
    have c3b1 : (t229 != 0) = false := bne_eq_false_iff_eq.mpr c3
    clear c3
    obtain ⟨ji4, hji4⟩ : ∃ j_ : Int, (wrap64 ((a0.size : Int) - (t227.size : Int))) = j_ := ⟨_, rfl⟩
    replace H : (if 0 ≤ (ji4) then (if (ji4) ≤ (a0.size : Int) then (some (a0.extract 0 ((ji4) : Int).toNat, t227, 0)) else (none)) else (none)) = some (r1, r2, r3) := by first | (rw [hji4] at H; exact H) | (simp only [hji4] at H ⊢; exact H)
    (try rw [hji4] at A2)
    have hji4w : (IntKind.i64.wrap ((a0.size : Int) - (t227.size : Int))) = ji4 := (i64_w _).trans hji4
    by_cases c5 : 0 ≤ (ji4)
    · rw [if_pos c5] at H
      have c5b0 := eq_true c5
      have c5b1 : decide (0 ≤ (ji4)) = true := decide_eq_true c5
      clear c5
      by_cases c6 : (ji4) ≤ (a0.size : Int)
      · rw [if_pos c6] at H
        have c6b0 := eq_true c6
        have c6b1 : decide ((ji4) ≤ (a0.size : Int)) = true := decide_eq_true c6
        clear c6
        simp only [Option.some.injEq, Prod.mk.injEq] at H
        obtain ⟨rfl, rfl, rfl⟩ := H
        go_enter Tryd.func20, Tryd.ntmps20
        go_wp2_with (first | ((with_reducible refine gate_callee (f := 35) rfl ?_); refine goesL_ (some 10) rfl rfl Tryd.func35 (by kernel_rfl) rfl #[.string a0, .int .i64 0] rfl (by (try simp only [List.map_toArray, List.map_cons, List.map_nil]); first | done | rfl | (simp only [List.length_drop, List.length_take]; rfl)) ?_; (with_reducible refine (interchangeref03_value.calls a0 0 t227 t228 t229 _ A2.out).mono ?_); rintro e w' ⟨rfl, ⟨nd, rfl⟩⟩; refine ⟨_, rfl, ?_⟩))
        go_ret3
        exact ⟨by first | rfl | (simp; done) | (simp only [← hji4] <;> (first | rfl | simp)) | (simp [*]; done), by repeat (first | exact Drawn0.refl _ | apply Drawn0.step)⟩
      · rw [if_neg c6] at H
        exact absurd H (by simp)
    · rw [if_neg c5] at H
      exact absurd H (by simp)
  · rw [if_neg c3] at H
    have c3b0 : (t229 == 0) = false := beq_eq_false_iff_ne.mpr c3
    have c3b1 : (t229 != 0) = true := bne_iff_ne.mpr c3
    simp only [Option.some.injEq, Prod.mk.injEq] at H
    obtain ⟨rfl, rfl, rfl⟩ := H
    go_enter Tryd.func20, Tryd.ntmps20
    go_wp2_with (first | ((with_reducible refine gate_callee (f := 35) rfl ?_); refine goesL_ (some 10) rfl rfl Tryd.func35 (by kernel_rfl) rfl #[.string a0, .int .i64 0] rfl (by (try simp only [List.map_toArray, List.map_cons, List.map_nil]); first | done | rfl | (simp only [List.length_drop, List.length_take]; rfl)) ?_; (with_reducible refine (interchangeref03_value.calls a0 0 t227 t228 t229 _ A2.out).mono ?_); rintro e w' ⟨rfl, ⟨nd, rfl⟩⟩; refine ⟨_, rfl, ?_⟩))
    go_ret3
    exact ⟨by first | rfl | (simp; done) | (simp [*]; done), by repeat (first | exact Drawn0.refl _ | apply Drawn0.step)⟩


end Go.Proofs.YthdkmohelampbaaDoor.F
namespace Go.Proofs.YthdkmohelampbaaDoor.F
open Go.RowKit Go.Proofs.YthdkmohelampbaaDoorW.PrintWords Go.Proofs.YthdkmohelampbaaDoorW.PrintLast Go.Proofs.YthdkmohelampbaaDoorW.PrintMore
attribute [local go_sem] max2_int min2_int max_two min_two max_three min_three max_four min_four
set_option linter.unusedVariables false
set_option linter.unusedSimpArgs false

/-! ### interchangeref03_both: function 36 -/
def interchangeref03_both.l0 : Nat → ByteArray → List ByteArray → List ByteArray → Option (List ByteArray × List ByteArray)
  | 0, _, _, _ => none
  | k + 1, x4, x5, x6 => if (x4.size : Int) > 0 then ((interchangeref02_TakeShort.f x4).bind fun bt230 => ((interchangeref03_Value.f bt230.2.1).bind fun bt233 => (if x5.length < 8796093022208 then (if x6.length < 8796093022208 then (interchangeref03_both.l0 k bt233.2.1 (x5 ++ [bt230.1]) (x6 ++ [bt233.1])) else (none)) else (none)))) else (some (x5, x6))
def interchangeref03_both.f (k : Nat) (a0 : ByteArray) : Option (List ByteArray × List ByteArray) := if 4 ≤ (a0.size : Int) then (interchangeref03_both.l0 k (a0.extract 4 a0.size) ([] : List ByteArray) ([] : List ByteArray)) else (none)
theorem interchangeref03_both.mono_l : ∀ k, (∀ y0 y1 y2, LeO (interchangeref03_both.l0 k y0 y1 y2) (interchangeref03_both.l0 (k + 1) y0 y1 y2))
  | 0 => fun _ _ _ r h => by simp [interchangeref03_both.l0] at h
  | k + 1 => by
    have ih0 := interchangeref03_both.mono_l k
    · intro y0 y1 y2
      unfold interchangeref03_both.l0
      repeat' first
      | (with_reducible exact ih0 _ _ _)
      | (with_reducible exact LeO.refl _)
      | (with_reducible exact LeO.none _)
      | (with_reducible refine LeO.ite ?_ ?_)
      | (with_reducible refine LeO.bind ?_ (fun _ => ?_))
      | exact ih0 _ _ _
      | exact LeO.none _
      | refine LeO.ite ?_ ?_
      | refine LeO.bind ?_ (fun _ => ?_)
theorem interchangeref03_both.mono : ∀ a0 k, LeO (interchangeref03_both.f k a0) (interchangeref03_both.f (k + 1) a0) := by
  intro a0 k
  have ih0 := interchangeref03_both.mono_l k
  unfold interchangeref03_both.f
  repeat' first
      | (with_reducible exact ih0 _ _ _)
      | (with_reducible exact LeO.refl _)
      | (with_reducible exact LeO.none _)
      | (with_reducible refine LeO.ite ?_ ?_)
      | (with_reducible refine LeO.bind ?_ (fun _ => ?_))
      | exact ih0 _ _ _
      | exact LeO.none _
      | refine LeO.ite ?_ ?_
      | refine LeO.bind ?_ (fun _ => ?_)
set_option maxHeartbeats 8000000 in
set_option maxRecDepth 100000 in
theorem interchangeref03_both.calls (k : Nat) (a0 : ByteArray) (r1 : List ByteArray) (r2 : List ByteArray) (w : World) (h : interchangeref03_both.f k a0 = some (r1, r2)) :
    Calls Tryd.prog 36 #[.string a0] w fun e w' => ∃ v0_ v1_ : Value, e = .returned (.tuple #[v0_, v1_]) ∧ Kd.R Kd.string 9 w' w.heap.size (fun k_ => some k_ ≠ (v1_ : Value).ownBlock) v0_ r1 ∧ Kd.R Kd.string 9 w' w.heap.size (fun k_ => some k_ ≠ (v0_ : Value).ownBlock) v1_ r2 ∧ Below w.heap.size w w' := by
  have HB := Aside0.mk (Below.refl w.heap.size w)
  have H : (if 4 ≤ (a0.size : Int) then (interchangeref03_both.l0 k (a0.extract 4 a0.size) ([] : List ByteArray) ([] : List ByteArray)) else (none)) = some (r1, r2) := h
  clear h
  by_cases c2 : 4 ≤ (a0.size : Int)
  · rw [if_pos c2] at H
    have c2b0 := eq_true c2
    have c2b1 : decide (4 ≤ (a0.size : Int)) = true := decide_eq_true c2
    clear c2
    have H' := Aside0.mk H
    clear H
    go_enter Tryd.func36, Tryd.ntmps36
    go_wp2
    go_loopg [4, 5, 6] k (fun kq v4 v5 v6 w' => ∃ (x4_1 : ByteArray) (x5_1 : List ByteArray) (x6_1 : List ByteArray), v4 = .string x4_1 ∧ Aside0 (interchangeref03_both.l0 kq x4_1 x5_1 x6_1 = some (r1, r2)) ∧ Aside0 (kq ≤ k) ∧ Aside0 (Kd.R Kd.string 9 w' w.heap.size (fun k_ => some k_ ≠ (v6 : Value).ownBlock) v5 x5_1) ∧ Aside0 (Kd.R Kd.string 9 w' w.heap.size (fun k_ => some k_ ≠ (v5 : Value).ownBlock) v6 x6_1) ∧ Aside0 (Below w.heap.size w w'))
    case atStart => exact ⟨(a0.extract 4 a0.size), (([] : List ByteArray)), (([] : List ByteArray)), (by first | rfl | (simp; done) | (simp [*]; done)), H', ⟨Nat.le_refl _⟩, ⟨by first | exact Kd.R_nil _ _ _ _ _ | exact Kd.N_nil _ _ _ _ _ | exact Kd.V_nil _ _ _ _ _ | exact Kd.Q_nil _ _ _ _ _ | exact Kd.S_nil _ _ _ _ _⟩, ⟨by first | exact Kd.R_nil _ _ _ _ _ | exact Kd.N_nil _ _ _ _ _ | exact Kd.V_nil _ _ _ _ _ | exact Kd.Q_nil _ _ _ _ _ | exact Kd.S_nil _ _ _ _ _⟩, ⟨by repeat (first | (with_reducible first | exact HB.out | apply below_alloc | apply pw_below_drewN | apply below_drew1) | exact HB.out)⟩⟩
    case round =>
      clear H'
      try clear c2
      try clear c2b0
      try clear c2b1
      try clear p2
      obtain ⟨x4_1, x5_1, x6_1, rfl, HA, HK1, HO_5, HO_6, HB⟩ := hrel
      cases gk with
      | zero => exact absurd HA.out (by simp [interchangeref03_both.l0])
      | succ k1 =>
        have H := HA.out
        clear HA
        simp only [interchangeref03_both.l0] at H
        by_cases c3 : (x4_1.size : Int) > 0
        · rw [if_pos c3] at H
          have c3b0 : decide (0 < (x4_1.size : Int)) = true := decide_eq_true c3
          have c3b1 : decide (0 < x4_1.size) = true := decide_eq_true (by omega)
          clear c3
          replace H := Option.bind_eq_some_iff.mp H
          obtain ⟨⟨t230, t231, t232⟩, A40, H⟩ := H
          replace H : ((interchangeref03_Value.f t231).bind fun bt233 => (if x5_1.length < 8796093022208 then (if x6_1.length < 8796093022208 then (interchangeref03_both.l0 k1 bt233.2.1 (x5_1 ++ [t230]) (x6_1 ++ [bt233.1])) else (none)) else (none))) = some (r1, r2) := H
          have A4 := Aside0.mk A40
          clear A40
          replace H := Option.bind_eq_some_iff.mp H
          obtain ⟨⟨t233, t234, t235⟩, A50, H⟩ := H
          replace H : (if x5_1.length < 8796093022208 then (if x6_1.length < 8796093022208 then (interchangeref03_both.l0 k1 t234 (x5_1 ++ [t230]) (x6_1 ++ [t233])) else (none)) else (none)) = some (r1, r2) := H
          have A5 := Aside0.mk A50
          clear A50
          by_cases c6 : x5_1.length < 8796093022208
          · rw [if_pos c6] at H
            have LMc6 := Aside0.mk c6
            clear c6
            obtain ⟨y236, hy236⟩ : ∃ y_ : List ByteArray, y_ = (x5_1 ++ [t230]) := ⟨_, rfl⟩
            replace H : (if x6_1.length < 8796093022208 then (interchangeref03_both.l0 k1 t234 y236 (x6_1 ++ [t233])) else (none)) = some (r1, r2) := by first | (rw [hy236]; with_reducible exact H) | (have H2_ := (Option.bind_some _ _).symm.trans H; rw [hy236]; with_reducible exact H2_) | (have H2_ := (Option.bind_some _ _).symm.trans H; with_reducible exact H2_) | with_reducible exact H | (rw [hy236]; exact H) | exact H
            have Ny236 := Aside0.mk hy236
            clear hy236
            by_cases c7 : x6_1.length < 8796093022208
            · rw [if_pos c7] at H
              have LMc7 := Aside0.mk c7
              clear c7
              obtain ⟨y239, hy239⟩ : ∃ y_ : List ByteArray, y_ = (x6_1 ++ [t233]) := ⟨_, rfl⟩
              replace H : (interchangeref03_both.l0 k1 t234 y236 y239) = some (r1, r2) := by first | (rw [hy239]; with_reducible exact H) | (have H2_ := (Option.bind_some _ _).symm.trans H; rw [hy239]; with_reducible exact H2_) | (have H2_ := (Option.bind_some _ _).symm.trans H; with_reducible exact H2_) | with_reducible exact H | (rw [hy239]; exact H) | exact H
              have Ny239 := Aside0.mk hy239
              clear hy239
              have H' := Aside0.mk H
              clear H
              go_wp2_with (first | ((with_reducible refine gate_callee (f := 47) rfl ?_); refine goesL_ (some 20) rfl rfl Tryd.func47 (by kernel_rfl) rfl #[.string x4_1] rfl (by (try simp only [List.map_toArray, List.map_cons, List.map_nil]); first | done | rfl | (simp only [List.length_drop, List.length_take]; rfl)) ?_; (with_reducible refine (interchangeref02_TakeShort.calls x4_1 t230 t231 t232 _ A4.out).mono ?_); rintro e w' ⟨rfl, ⟨nd, rfl⟩⟩; refine ⟨_, rfl, ?_⟩) | ((with_reducible refine gate_callee (f := 20) rfl ?_); refine goesL_ (some 26) rfl rfl Tryd.func20 (by kernel_rfl) rfl #[.string t231] rfl (by (try simp only [List.map_toArray, List.map_cons, List.map_nil]); first | done | rfl | (simp only [List.length_drop, List.length_take]; rfl)) ?_; (with_reducible refine (interchangeref03_Value.calls t231 t233 t234 t235 _ A5.out).mono ?_); rintro e w' ⟨rfl, ⟨nd, rfl⟩⟩; refine ⟨_, rfl, ?_⟩) | ((with_reducible refine gate_builtin (b := .append) (xs := #[.tmp 30, .tmp 32]) rfl ?_); at_builtin; refine Kd.R_append Kd.string (w0 := w) w.heap.size rfl (.tmp 30) (.tmp 32) 27 9 (.string ⟨#[]⟩) 16 rfl Tryd.underlying27 info9 rfl (by decide) (by omega) u5 x5_1 t230 [.string t230] (fun k_ => some k_ ≠ (u6 : Value).ownBlock) (fun _ => False) rfl rfl ?aP (fun _ hk => hk.elim) ?aF ?aO ?aB ?aS ?aL ?_; (case aP => exact rfl); (case aB => exact (by repeat (first | (with_reducible first | exact HB.out | apply below_alloc | apply pw_below_drewN | apply below_drew1) | exact HB.out))); (case aF => exact (fun k_ hk => Kd.fresh' (Kd.R_lt (by (with_reducible repeat (first | apply Kd.R_alloc | apply Kd.R_drewN | apply Kd.R_drew)); exact HO_6.out)) k_ hk)); (case aO => exact (by (with_reducible repeat (first | apply Kd.R_alloc | apply Kd.R_drewN | apply Kd.R_drew)); exact HO_5.out)); (case aS => exact (below_size (by repeat (first | (with_reducible first | exact HB.out | apply below_alloc | apply pw_below_drewN | apply below_drew1) | exact HB.out)))); (case aL => have := LMc6.out; omega); intro v237 w8 ho hb hg hat; rw [← Ny236.out] at ho; have n0_ := Aside0.mk (Kd.R_after (ok := (fun _ => True)) (by (with_reducible repeat (first | apply Kd.R_alloc | apply Kd.R_drewN | apply Kd.R_drew)); exact Kd.R_mono HO_6.out (fun _ hk => ⟨trivial, hk⟩)) hg hat); have n1_ := Aside0.mk (hb); have n2_ := Aside0.mk (ho); clear HO_6; clear HB; clear HO_5; have HO_6 := n0_; have HB := n1_; have HO238 := n2_; clear n0_ n1_ n2_; clear ho hb hg hat) | ((with_reducible refine gate_builtin (b := .append) (xs := #[.tmp 34, .tmp 36]) rfl ?_); at_builtin; refine Kd.R_append Kd.string (w0 := w) w.heap.size rfl (.tmp 34) (.tmp 36) 27 9 (.string ⟨#[]⟩) 16 rfl Tryd.underlying27 info9 rfl (by decide) (by omega) u6 x6_1 t233 [.string t233] (fun k_ => some k_ ≠ (v237 : Value).ownBlock) (fun _ => False) rfl rfl ?aP (fun _ hk => hk.elim) ?aF ?aO ?aB ?aS ?aL ?_; (case aP => exact rfl); (case aB => exact (by repeat (first | (with_reducible first | exact HB.out | apply below_alloc | apply pw_below_drewN | apply below_drew1) | exact HB.out))); (case aF => exact (fun k_ hk => Kd.fresh' (Kd.R_lt (by (with_reducible repeat (first | apply Kd.R_alloc | apply Kd.R_drewN | apply Kd.R_drew)); exact HO238.out)) k_ hk)); (case aO => exact (by (with_reducible repeat (first | apply Kd.R_alloc | apply Kd.R_drewN | apply Kd.R_drew)); exact Kd.R_mono HO_6.out (fun _ hk => hk.2))); (case aS => exact (below_size (by repeat (first | (with_reducible first | exact HB.out | apply below_alloc | apply pw_below_drewN | apply below_drew1) | exact HB.out)))); (case aL => have := LMc7.out; omega); intro v240 w9 ho hb hg hat; rw [← Ny239.out] at ho; have n0_ := Aside0.mk (Kd.R_after (ok := (fun _ => True)) (by (with_reducible repeat (first | apply Kd.R_alloc | apply Kd.R_drewN | apply Kd.R_drew)); exact Kd.R_mono HO238.out (fun _ hk => ⟨trivial, hk⟩)) hg hat); have n1_ := Aside0.mk (hb); have n2_ := Aside0.mk (ho); clear HO238; clear HB; clear HO_6; have HO238 := n0_; have HB := n1_; have HO241 := n2_; clear n0_ n1_ n2_; clear ho hb hg hat))
              go_roundg k1
              case measure => have := HK1.out; omega
              case rel => exact ⟨(t234), (y236), (y239), (by first | rfl | (simp; done) | (simp [*]; done)), H', ⟨by have := HK1.out; omega⟩, ⟨by (with_reducible repeat (first | apply Kd.R_alloc | apply Kd.R_drewN | apply Kd.R_drew)); exact Kd.R_mono HO238.out (fun _ hk => hk.2)⟩, ⟨by (with_reducible repeat (first | apply Kd.R_alloc | apply Kd.R_drewN | apply Kd.R_drew)); exact HO241.out⟩, ⟨by repeat (first | (with_reducible first | exact HB.out | apply below_alloc | apply pw_below_drewN | apply below_drew1) | exact HB.out)⟩⟩
            · rw [if_neg c7] at H
              exact absurd H (by simp)
          · rw [if_neg c6] at H
            exact absurd H (by simp)
        · rw [if_neg c3] at H
          have c3b0 : decide (0 < (x4_1.size : Int)) = false := decide_eq_false c3
          have c3b1 : decide (0 < x4_1.size) = false := decide_eq_false (by omega)
          clear c3
          simp only [Option.some.injEq, Prod.mk.injEq] at H
          obtain ⟨rfl, rfl⟩ := H
          go_wp2
          go_ret2
          exact ⟨_, _, by first | rfl | (simp [errW_none, errW_some] <;> rfl) | (simp [*, errW_none, errW_some] <;> rfl), by (with_reducible repeat (first | apply Kd.R_alloc | apply Kd.R_drewN | apply Kd.R_drew)); exact HO_5.out, by (with_reducible repeat (first | apply Kd.R_alloc | apply Kd.R_drewN | apply Kd.R_drew)); exact HO_6.out, by repeat (first | (with_reducible first | exact HB.out | apply below_alloc | apply pw_below_drewN | apply below_drew1) | exact HB.out)⟩
  · rw [if_neg c2] at H
    exact absurd H (by simp)


end Go.Proofs.YthdkmohelampbaaDoor.F
namespace Go.Proofs.YthdkmohelampbaaDoor.F
open Go.RowKit Go.Proofs.YthdkmohelampbaaDoorW.PrintWords Go.Proofs.YthdkmohelampbaaDoorW.PrintLast Go.Proofs.YthdkmohelampbaaDoorW.PrintMore
attribute [local go_sem] max2_int min2_int max_two min_two max_three min_three max_four min_four
set_option linter.unusedVariables false
set_option linter.unusedSimpArgs false

/-! ### interchangeref03_Find: function 22 -/
def interchangeref03_Find.l0 : Nat → ByteArray → List ByteArray → List ByteArray → Int → Option (ByteArray × Bool)
  | 0, _, _, _, _ => none
  | k + 1, x1, x8, x9, x10 => if x10 < (x8.length : Int) then (if 0 ≤ x10 then (if (rdOf ByteArray.empty x8 x10).toList = x1.toList then (if x10 < (x9.length : Int) then (some (rdOf ByteArray.empty x9 x10, true)) else (none)) else (interchangeref03_Find.l0 k x1 x8 x9 (wrap64 (x10 + 1)))) else (none)) else (some ((⟨#[]⟩ : ByteArray), false))
def interchangeref03_Find.f (k : Nat) (a0 : ByteArray) (a1 : ByteArray) : Option (ByteArray × Bool) := (interchangeref03_Deep.f k a0).bind fun bt250 => (if bt250.2 = 0 then ((interchangeref03_both.f k a0).bind fun bt252 => (interchangeref03_Find.l0 k a1 bt252.1 bt252.2 0)) else (some ((⟨#[]⟩ : ByteArray), false)))
theorem interchangeref03_Find.mono_l : ∀ k, (∀ y0 y1 y2 y3, LeO (interchangeref03_Find.l0 k y0 y1 y2 y3) (interchangeref03_Find.l0 (k + 1) y0 y1 y2 y3))
  | 0 => fun _ _ _ _ r h => by simp [interchangeref03_Find.l0] at h
  | k + 1 => by
    have ih0 := interchangeref03_Find.mono_l k
    · intro y0 y1 y2 y3
      unfold interchangeref03_Find.l0
      repeat' first
      | (with_reducible exact ih0 _ _ _ _)
      | (with_reducible exact interchangeref03_Deep.mono _ _)
      | (with_reducible exact interchangeref03_both.mono _ _)
      | (with_reducible exact LeO.refl _)
      | (with_reducible exact LeO.none _)
      | (with_reducible refine LeO.ite ?_ ?_)
      | (with_reducible refine LeO.bind ?_ (fun _ => ?_))
      | exact ih0 _ _ _ _
      | exact interchangeref03_Deep.mono _ _
      | exact interchangeref03_both.mono _ _
      | exact LeO.none _
      | refine LeO.ite ?_ ?_
      | refine LeO.bind ?_ (fun _ => ?_)
theorem interchangeref03_Find.mono : ∀ a0 a1 k, LeO (interchangeref03_Find.f k a0 a1) (interchangeref03_Find.f (k + 1) a0 a1) := by
  intro a0 a1 k
  have ih0 := interchangeref03_Find.mono_l k
  unfold interchangeref03_Find.f
  repeat' first
      | (with_reducible exact ih0 _ _ _ _)
      | (with_reducible exact interchangeref03_Deep.mono _ _)
      | (with_reducible exact interchangeref03_both.mono _ _)
      | (with_reducible exact LeO.refl _)
      | (with_reducible exact LeO.none _)
      | (with_reducible refine LeO.ite ?_ ?_)
      | (with_reducible refine LeO.bind ?_ (fun _ => ?_))
      | exact ih0 _ _ _ _
      | exact interchangeref03_Deep.mono _ _
      | exact interchangeref03_both.mono _ _
      | exact LeO.none _
      | refine LeO.ite ?_ ?_
      | refine LeO.bind ?_ (fun _ => ?_)
set_option maxHeartbeats 8000000 in
set_option maxRecDepth 100000 in
theorem interchangeref03_Find.calls (k : Nat) (a0 : ByteArray) (a1 : ByteArray) (r1 : ByteArray) (r2 : Bool) (w : World) (h : interchangeref03_Find.f k a0 a1 = some (r1, r2)) :
    Calls Tryd.prog 22 #[.string a0, .string a1] w fun e w' => e = .returned (.tuple #[.string r1, .bool r2]) ∧ Below w.heap.size w w' := by
  have HB := Aside0.mk (Below.refl w.heap.size w)
  have H : ((interchangeref03_Deep.f k a0).bind fun bt250 => (if bt250.2 = 0 then ((interchangeref03_both.f k a0).bind fun bt252 => (interchangeref03_Find.l0 k a1 bt252.1 bt252.2 0)) else (some ((⟨#[]⟩ : ByteArray), false)))) = some (r1, r2) := h
  clear h
  replace H := Option.bind_eq_some_iff.mp H
  obtain ⟨⟨t250, t251⟩, A30, H⟩ := H
  replace H : (if t251 = 0 then ((interchangeref03_both.f k a0).bind fun bt252 => (interchangeref03_Find.l0 k a1 bt252.1 bt252.2 0)) else (some ((⟨#[]⟩ : ByteArray), false))) = some (r1, r2) := H
  have A3 := Aside0.mk A30
  clear A30
  by_cases c4 : t251 = 0
  · rw [if_pos c4] at H
    have c4b0 : (t251 == 0) = true := beq_iff_eq.mpr c4
    have c4b1 : (t251 != 0) = false := bne_eq_false_iff_eq.mpr c4
    clear c4
    replace H := Option.bind_eq_some_iff.mp H
    obtain ⟨⟨t252, t253⟩, A50, H⟩ := H
    replace H : (interchangeref03_Find.l0 k a1 t252 t253 0) = some (r1, r2) := H
    have A5 := Aside0.mk A50
    clear A50
    have H' := Aside0.mk H
    clear H
    go_enter Tryd.func22, Tryd.ntmps22
    go_wp2_with (first | ((with_reducible refine gate_callee (f := 13) rfl ?_); refine goesL_ (some 13) rfl rfl Tryd.func13 (by kernel_rfl) rfl #[.string a0] rfl (by (try simp only [List.map_toArray, List.map_cons, List.map_nil]); first | done | rfl | (simp only [List.length_drop, List.length_take]; rfl)) ?_; (with_reducible refine (interchangeref03_Deep.calls k a0 t250 t251 _ A3.out).mono ?_); rintro e w' ⟨rfl, ⟨nd, rfl⟩⟩; refine ⟨_, rfl, ?_⟩) | ((with_reducible refine gate_callee (f := 36) rfl ?_); refine goesL_ (some 20) rfl rfl Tryd.func36 (by kernel_rfl) rfl #[.string a0] rfl (by (try simp only [List.map_toArray, List.map_cons, List.map_nil]); first | done | rfl | (simp only [List.length_drop, List.length_take]; rfl)) ?_; (with_reducible refine (interchangeref03_both.calls k a0 t252 t253 _ A5.out).mono ?_); rintro e w6 ⟨v254, v256, rfl, ho0, ho1, hb⟩; refine ⟨_, rfl, ?_⟩; have n0_ := Aside0.mk (Kd.R_lower ho0 (below_size (by repeat (first | (with_reducible first | exact HB.out | apply below_alloc | apply pw_below_drewN | apply below_drew1) | exact HB.out)))); have n1_ := Aside0.mk (Kd.R_lower ho1 (below_size (by repeat (first | (with_reducible first | exact HB.out | apply below_alloc | apply pw_below_drewN | apply below_drew1) | exact HB.out)))); have n2_ := Aside0.mk (below_step (by repeat (first | (with_reducible first | exact HB.out | apply below_alloc | apply pw_below_drewN | apply below_drew1) | exact HB.out)) hb); clear HB; have HO255 := n0_; have HO257 := n1_; have HB := n2_; clear n0_ n1_ n2_; (try clear hb); (try clear hb2); (try clear hk); (try clear hi); (try clear ho0); (try clear ho1)))
    go_loopg [10] k (fun kq v10 w' => ∃ (x10_1 : Int), v10 = .int .i64 x10_1 ∧ Aside0 (interchangeref03_Find.l0 kq a1 t252 t253 x10_1 = some (r1, r2)) ∧ Aside0 (kq ≤ k) ∧ Aside0 (Kd.R Kd.string 9 w' w.heap.size (fun k_ => some k_ ≠ (v256 : Value).ownBlock) v254 t252) ∧ Aside0 (Kd.R Kd.string 9 w' w.heap.size (fun k_ => some k_ ≠ (v254 : Value).ownBlock) v256 t253) ∧ Aside0 (Below w.heap.size w w'))
    case atStart => exact ⟨(0), (by first | rfl | (simp; done) | (simp [*]; done)), H', ⟨Nat.le_refl _⟩, ⟨by (with_reducible repeat (first | apply Kd.R_alloc | apply Kd.R_drewN | apply Kd.R_drew)); exact HO255.out⟩, ⟨by (with_reducible repeat (first | apply Kd.R_alloc | apply Kd.R_drewN | apply Kd.R_drew)); exact HO257.out⟩, ⟨by repeat (first | (with_reducible first | exact HB.out | apply below_alloc | apply pw_below_drewN | apply below_drew1) | exact HB.out)⟩⟩
    case round =>
      clear H'
      try clear c1
      try clear c2
      try clear p2
      try clear c3
      try clear c4
      try clear c4b0
      try clear c4b1
      obtain ⟨x10_1, rfl, HA, HK1, HO_8, HO_9, HB⟩ := hrel
      cases gk with
      | zero => exact absurd HA.out (by simp [interchangeref03_Find.l0])
      | succ k1 =>
        have H := HA.out
        clear HA
        simp only [interchangeref03_Find.l0] at H
        by_cases c7 : x10_1 < (t252.length : Int)
        · rw [if_pos c7] at H
          have c7b0 : decide (x10_1 < (t252.length : Int)) = true := decide_eq_true c7
          clear c7
          by_cases c8 : 0 ≤ x10_1
          · rw [if_pos c8] at H
            have c8b0 : decide (0 ≤ x10_1) = true := decide_eq_true c8
            clear c8
            by_cases c9 : (rdOf ByteArray.empty t252 x10_1).toList = a1.toList
            · rw [if_pos c9] at H
              have c9b0 : ((rdOf ByteArray.empty t252 x10_1).toList == a1.toList) = true := beq_iff_eq.mpr c9
              have c9b1 : ((rdOf ByteArray.empty t252 x10_1).toList != a1.toList) = false := bne_eq_false_iff_eq.mpr c9
              clear c9
              by_cases c10 : x10_1 < (t253.length : Int)
              · rw [if_pos c10] at H
                have c10b0 : decide (x10_1 < (t253.length : Int)) = true := decide_eq_true c10
                clear c10
                simp only [Option.some.injEq, Prod.mk.injEq] at H
                obtain ⟨rfl, rfl⟩ := H
                obtain ⟨Ao11, co11, eo11⟩ := Kd.R_slice HO_8.out
                subst eo11
                have p258 : 0 ≤ (x10_1 : Int) := of_decide_eq_true (by first | (with_reducible assumption) | assumption)
                have q258 : x10_1 < (t252.length : Int) := of_decide_eq_true (by first | (with_reducible assumption) | assumption)
                obtain ⟨ad258, e258, hx258_0⟩ := Kd.at_string (Kd.R_reads' HO_8.out).2.2 x10_1 p258 q258
                cases e258
                replace p258 := eq_true p258
                replace q258 := eq_true q258
                obtain ⟨Ao12, co12, eo12⟩ := Kd.R_slice HO_9.out
                subst eo12
                have p259 : 0 ≤ (x10_1 : Int) := of_decide_eq_true (by first | (with_reducible assumption) | assumption)
                have q259 : x10_1 < (t253.length : Int) := of_decide_eq_true (by first | (with_reducible assumption) | assumption)
                obtain ⟨ad259, e259, hx259_0⟩ := Kd.at_string (Kd.R_reads' HO_9.out).2.2 x10_1 p259 q259
                cases e259
                replace p259 := eq_true p259
                replace q259 := eq_true q259
                go_wp2
                go_ret2
                exact ⟨by first | rfl | (simp [errW_none, errW_some] <;> rfl) | (simp [*, errW_none, errW_some] <;> rfl), by repeat (first | (with_reducible first | exact HB.out | apply below_alloc | apply pw_below_drewN | apply below_drew1) | exact HB.out)⟩
              · rw [if_neg c10] at H
                exact absurd H (by simp)
            · rw [if_neg c9] at H
              have c9b0 : ((rdOf ByteArray.empty t252 x10_1).toList == a1.toList) = false := beq_eq_false_iff_ne.mpr c9
              have c9b1 : ((rdOf ByteArray.empty t252 x10_1).toList != a1.toList) = true := bne_iff_ne.mpr c9
              have H' := Aside0.mk H
              clear H
              obtain ⟨Ao13, co13, eo13⟩ := Kd.R_slice HO_8.out
              subst eo13
              have p258 : 0 ≤ (x10_1 : Int) := of_decide_eq_true (by first | (with_reducible assumption) | assumption)
              have q258 : x10_1 < (t252.length : Int) := of_decide_eq_true (by first | (with_reducible assumption) | assumption)
              obtain ⟨ad258, e258, hx258_0⟩ := Kd.at_string (Kd.R_reads' HO_8.out).2.2 x10_1 p258 q258
              cases e258
              replace p258 := eq_true p258
              replace q258 := eq_true q258
              go_wp2
              go_roundg k1
              case measure => have := HK1.out; omega
              case rel => exact ⟨(wrap64 (x10_1 + 1)), (by first | rfl | (simp; done) | (simp [*]; done)), H', ⟨by have := HK1.out; omega⟩, ⟨by (with_reducible repeat (first | apply Kd.R_alloc | apply Kd.R_drewN | apply Kd.R_drew)); exact HO_8.out⟩, ⟨by (with_reducible repeat (first | apply Kd.R_alloc | apply Kd.R_drewN | apply Kd.R_drew)); exact HO_9.out⟩, ⟨by repeat (first | (with_reducible first | exact HB.out | apply below_alloc | apply pw_below_drewN | apply below_drew1) | exact HB.out)⟩⟩
          · rw [if_neg c8] at H
            exact absurd H (by simp)
        · rw [if_neg c7] at H
          have c7b0 : decide (x10_1 < (t252.length : Int)) = false := decide_eq_false c7
          clear c7
          simp only [Option.some.injEq, Prod.mk.injEq] at H
          obtain ⟨rfl, rfl⟩ := H
          obtain ⟨Ao14, co14, eo14⟩ := Kd.R_slice HO_8.out
          subst eo14
          go_wp2
          go_ret2
          exact ⟨by first | rfl | (simp [errW_none, errW_some] <;> rfl) | (simp [*, errW_none, errW_some] <;> rfl), by repeat (first | (with_reducible first | exact HB.out | apply below_alloc | apply pw_below_drewN | apply below_drew1) | exact HB.out)⟩
  · rw [if_neg c4] at H
    have c4b0 : (t251 == 0) = false := beq_eq_false_iff_ne.mpr c4
    have c4b1 : (t251 != 0) = true := bne_iff_ne.mpr c4
    simp only [Option.some.injEq, Prod.mk.injEq] at H
    obtain ⟨rfl, rfl⟩ := H
    go_enter Tryd.func22, Tryd.ntmps22
    go_wp2_with (first | ((with_reducible refine gate_callee (f := 13) rfl ?_); refine goesL_ (some 13) rfl rfl Tryd.func13 (by kernel_rfl) rfl #[.string a0] rfl (by (try simp only [List.map_toArray, List.map_cons, List.map_nil]); first | done | rfl | (simp only [List.length_drop, List.length_take]; rfl)) ?_; (with_reducible refine (interchangeref03_Deep.calls k a0 t250 t251 _ A3.out).mono ?_); rintro e w' ⟨rfl, ⟨nd, rfl⟩⟩; refine ⟨_, rfl, ?_⟩))
    go_ret2
    exact ⟨by first | rfl | (simp [errW_none, errW_some] <;> rfl) | (simp [*, errW_none, errW_some] <;> rfl), by repeat (first | (with_reducible first | exact HB.out | apply below_alloc | apply pw_below_drewN | apply below_drew1) | exact HB.out)⟩


end Go.Proofs.YthdkmohelampbaaDoor.F
namespace Go.Proofs.YthdkmohelampbaaDoor.F
open Go.RowKit Go.Proofs.YthdkmohelampbaaDoorW.PrintWords Go.Proofs.YthdkmohelampbaaDoorW.PrintLast Go.Proofs.YthdkmohelampbaaDoorW.PrintMore
attribute [local go_sem] max2_int min2_int max_two min_two max_three min_three max_four min_four
set_option linter.unusedVariables false
set_option linter.unusedSimpArgs false

/-! ### interchangeref03_Keys: function 21 -/
def interchangeref03_Keys.f (k : Nat) (a0 : ByteArray) : Option (List ByteArray × Int) := (interchangeref03_Deep.f k a0).bind fun bt242 => (if bt242.2 = 0 then ((interchangeref03_both.f k a0).bind fun bt244 => (some (bt244.1, 0))) else (some (([] : List ByteArray), bt242.2)))
theorem interchangeref03_Keys.mono : ∀ a0 k, LeO (interchangeref03_Keys.f k a0) (interchangeref03_Keys.f (k + 1) a0) := by
  intro a0 k
  unfold interchangeref03_Keys.f
  repeat' first
      | (with_reducible exact interchangeref03_Deep.mono _ _)
      | (with_reducible exact interchangeref03_both.mono _ _)
      | (with_reducible exact LeO.refl _)
      | (with_reducible exact LeO.none _)
      | (with_reducible refine LeO.ite ?_ ?_)
      | (with_reducible refine LeO.bind ?_ (fun _ => ?_))
      | exact interchangeref03_Deep.mono _ _
      | exact interchangeref03_both.mono _ _
      | exact LeO.none _
      | refine LeO.ite ?_ ?_
      | refine LeO.bind ?_ (fun _ => ?_)
set_option maxHeartbeats 8000000 in
set_option maxRecDepth 100000 in
theorem interchangeref03_Keys.calls (k : Nat) (a0 : ByteArray) (r1 : List ByteArray) (r2 : Int) (w : World) (h : interchangeref03_Keys.f k a0 = some (r1, r2)) :
    Calls Tryd.prog 21 #[.string a0] w fun e w' => ∃ v0_ : Value, e = .returned (.tuple #[v0_, .int .i64 r2]) ∧ Kd.R Kd.string 9 w' w.heap.size (fun _ => True) v0_ r1 ∧ Below w.heap.size w w' := by
  have HB := Aside0.mk (Below.refl w.heap.size w)
  have H : ((interchangeref03_Deep.f k a0).bind fun bt242 => (if bt242.2 = 0 then ((interchangeref03_both.f k a0).bind fun bt244 => (some (bt244.1, 0))) else (some (([] : List ByteArray), bt242.2)))) = some (r1, r2) := h
  clear h
  replace H := Option.bind_eq_some_iff.mp H
  obtain ⟨⟨t242, t243⟩, A20, H⟩ := H
  replace H : (if t243 = 0 then ((interchangeref03_both.f k a0).bind fun bt244 => (some (bt244.1, 0))) else (some (([] : List ByteArray), t243))) = some (r1, r2) := H
  have A2 := Aside0.mk A20
  clear A20
  by_cases c3 : t243 = 0
  · rw [if_pos c3] at H
    have c3b0 : (t243 == 0) = true := beq_iff_eq.mpr c3
    have c3b1 : (t243 != 0) = false := bne_eq_false_iff_eq.mpr c3
    clear c3
    replace H := Option.bind_eq_some_iff.mp H
    obtain ⟨⟨t244, t245⟩, A40, H⟩ := H
    replace H : (some (t244, 0)) = some (r1, r2) := H
    have A4 := Aside0.mk A40
    clear A40
    simp only [Option.some.injEq, Prod.mk.injEq] at H
    obtain ⟨rfl, rfl⟩ := H
    go_enter Tryd.func21, Tryd.ntmps21
    go_wp2_with (first | ((with_reducible refine gate_callee (f := 13) rfl ?_); refine goesL_ (some 10) rfl rfl Tryd.func13 (by kernel_rfl) rfl #[.string a0] rfl (by (try simp only [List.map_toArray, List.map_cons, List.map_nil]); first | done | rfl | (simp only [List.length_drop, List.length_take]; rfl)) ?_; (with_reducible refine (interchangeref03_Deep.calls k a0 t242 t243 _ A2.out).mono ?_); rintro e w' ⟨rfl, ⟨nd, rfl⟩⟩; refine ⟨_, rfl, ?_⟩) | ((with_reducible refine gate_callee (f := 36) rfl ?_); refine goesL_ (some 18) rfl rfl Tryd.func36 (by kernel_rfl) rfl #[.string a0] rfl (by (try simp only [List.map_toArray, List.map_cons, List.map_nil]); first | done | rfl | (simp only [List.length_drop, List.length_take]; rfl)) ?_; (with_reducible refine (interchangeref03_both.calls k a0 t244 t245 _ A4.out).mono ?_); rintro e w5 ⟨v246, v248, rfl, ho0, ho1, hb⟩; refine ⟨_, rfl, ?_⟩; have n0_ := Aside0.mk (Kd.R_lower ho0 (below_size (by repeat (first | (with_reducible first | exact HB.out | apply below_alloc | apply pw_below_drewN | apply below_drew1) | exact HB.out)))); have n1_ := Aside0.mk (Kd.R_lower ho1 (below_size (by repeat (first | (with_reducible first | exact HB.out | apply below_alloc | apply pw_below_drewN | apply below_drew1) | exact HB.out)))); have n2_ := Aside0.mk (below_step (by repeat (first | (with_reducible first | exact HB.out | apply below_alloc | apply pw_below_drewN | apply below_drew1) | exact HB.out)) hb); clear HB; have HO247 := n0_; have HO249 := n1_; have HB := n2_; clear n0_ n1_ n2_; (try clear hb); (try clear hb2); (try clear hk); (try clear hi); (try clear ho0); (try clear ho1)))
    go_ret2
    exact ⟨_, by first | rfl | (simp [errW_none, errW_some] <;> rfl) | (simp [*, errW_none, errW_some] <;> rfl), by (with_reducible repeat (first | apply Kd.R_alloc | apply Kd.R_drewN | apply Kd.R_drew)); exact Kd.R_mono HO247.out (fun _ hk => trivial), by repeat (first | (with_reducible first | exact HB.out | apply below_alloc | apply pw_below_drewN | apply below_drew1) | exact HB.out)⟩
  · rw [if_neg c3] at H
    have c3b0 : (t243 == 0) = false := beq_eq_false_iff_ne.mpr c3
    have c3b1 : (t243 != 0) = true := bne_iff_ne.mpr c3
    simp only [Option.some.injEq, Prod.mk.injEq] at H
    obtain ⟨rfl, rfl⟩ := H
    go_enter Tryd.func21, Tryd.ntmps21
    go_wp2_with (first | ((with_reducible refine gate_callee (f := 13) rfl ?_); refine goesL_ (some 10) rfl rfl Tryd.func13 (by kernel_rfl) rfl #[.string a0] rfl (by (try simp only [List.map_toArray, List.map_cons, List.map_nil]); first | done | rfl | (simp only [List.length_drop, List.length_take]; rfl)) ?_; (with_reducible refine (interchangeref03_Deep.calls k a0 t242 t243 _ A2.out).mono ?_); rintro e w' ⟨rfl, ⟨nd, rfl⟩⟩; refine ⟨_, rfl, ?_⟩))
    go_ret2
    exact ⟨_, by first | rfl | (simp [errW_none, errW_some] <;> rfl) | (simp [*, errW_none, errW_some] <;> rfl), by first | exact Kd.R_nil _ _ _ _ _ | exact Kd.N_nil _ _ _ _ _ | exact Kd.V_nil _ _ _ _ _ | exact Kd.Q_nil _ _ _ _ _ | exact Kd.S_nil _ _ _ _ _, by repeat (first | (with_reducible first | exact HB.out | apply below_alloc | apply pw_below_drewN | apply below_drew1) | exact HB.out)⟩


end Go.Proofs.YthdkmohelampbaaDoor.F
namespace Go.Proofs.YthdkmohelampbaaDoor.F
open Go.RowKit Go.Proofs.YthdkmohelampbaaDoorW.PrintWords Go.Proofs.YthdkmohelampbaaDoorW.PrintLast Go.Proofs.YthdkmohelampbaaDoorW.PrintMore
attribute [local go_sem] max2_int min2_int max_two min_two max_three min_three max_four min_four
set_option linter.unusedVariables false
set_option linter.unusedSimpArgs false

/-! ### interchangeref03_Take: function 19 -/
def interchangeref03_Take.f (k : Nat) (a0 : ByteArray) : Option (ByteArray × ByteArray × Int) := (interchangeref03_table.f k a0).bind fun bt224 => (if bt224.2.2 = 0 then (if 0 ≤ (wrap64 ((a0.size : Int) - (bt224.1.size : Int))) then (if (wrap64 ((a0.size : Int) - (bt224.1.size : Int))) ≤ (a0.size : Int) then (some (a0.extract 0 ((wrap64 ((a0.size : Int) - (bt224.1.size : Int))) : Int).toNat, bt224.1, 0)) else (none)) else (none)) else (some ((⟨#[]⟩ : ByteArray), (⟨#[]⟩ : ByteArray), bt224.2.2)))
theorem interchangeref03_Take.mono : ∀ a0 k, LeO (interchangeref03_Take.f k a0) (interchangeref03_Take.f (k + 1) a0) := by
  intro a0 k
  unfold interchangeref03_Take.f
  repeat' first
      | (with_reducible exact interchangeref03_table.mono _ _)
      | (with_reducible exact LeO.refl _)
      | (with_reducible exact LeO.none _)
      | (with_reducible refine LeO.ite ?_ ?_)
      | (with_reducible refine LeO.bind ?_ (fun _ => ?_))
      | exact interchangeref03_table.mono _ _
      | exact LeO.none _
      | refine LeO.ite ?_ ?_
      | refine LeO.bind ?_ (fun _ => ?_)
set_option maxHeartbeats 8000000 in
set_option maxRecDepth 100000 in
theorem interchangeref03_Take.calls (k : Nat) (a0 : ByteArray) (r1 : ByteArray) (r2 : ByteArray) (r3 : Int) (w : World) (h : interchangeref03_Take.f k a0 = some (r1, r2, r3)) :
    Calls Tryd.prog 19 #[.string a0] w fun e w' => e = .returned (.tuple #[.string r1, .string r2, .int .i64 r3]) ∧ Drawn0 w w' := by
  have H : ((interchangeref03_table.f k a0).bind fun bt224 => (if bt224.2.2 = 0 then (if 0 ≤ (wrap64 ((a0.size : Int) - (bt224.1.size : Int))) then (if (wrap64 ((a0.size : Int) - (bt224.1.size : Int))) ≤ (a0.size : Int) then (some (a0.extract 0 ((wrap64 ((a0.size : Int) - (bt224.1.size : Int))) : Int).toNat, bt224.1, 0)) else (none)) else (none)) else (some ((⟨#[]⟩ : ByteArray), (⟨#[]⟩ : ByteArray), bt224.2.2)))) = some (r1, r2, r3) := h
  clear h
  replace H := Option.bind_eq_some_iff.mp H
  obtain ⟨⟨t224, t225, t226⟩, A20, H⟩ := H
  replace H : (if t226 = 0 then (if 0 ≤ (wrap64 ((a0.size : Int) - (t224.size : Int))) then (if (wrap64 ((a0.size : Int) - (t224.size : Int))) ≤ (a0.size : Int) then (some (a0.extract 0 ((wrap64 ((a0.size : Int) - (t224.size : Int))) : Int).toNat, t224, 0)) else (none)) else (none)) else (some ((⟨#[]⟩ : ByteArray), (⟨#[]⟩ : ByteArray), t226))) = some (r1, r2, r3) := H
  have A2 := Aside0.mk A20
  clear A20
  by_cases c3 : t226 = 0
  · rw [if_pos c3] at H
    have c3b0 : (t226 == 0) = true := beq_iff_eq.mpr c3
    have c3b1 : (t226 != 0) = false := bne_eq_false_iff_eq.mpr c3
    clear c3
    obtain ⟨ji4, hji4⟩ : ∃ j_ : Int, (wrap64 ((a0.size : Int) - (t224.size : Int))) = j_ := ⟨_, rfl⟩
    replace H : (if 0 ≤ (ji4) then (if (ji4) ≤ (a0.size : Int) then (some (a0.extract 0 ((ji4) : Int).toNat, t224, 0)) else (none)) else (none)) = some (r1, r2, r3) := by first | (rw [hji4] at H; exact H) | (simp only [hji4] at H ⊢; exact H)
    (try rw [hji4] at A2)
    have hji4w : (IntKind.i64.wrap ((a0.size : Int) - (t224.size : Int))) = ji4 := (i64_w _).trans hji4
    by_cases c5 : 0 ≤ (ji4)
    · rw [if_pos c5] at H
      have c5b0 := eq_true c5
      have c5b1 : decide (0 ≤ (ji4)) = true := decide_eq_true c5
      clear c5
      by_cases c6 : (ji4) ≤ (a0.size : Int)
      · rw [if_pos c6] at H
        have c6b0 := eq_true c6
        have c6b1 : decide ((ji4) ≤ (a0.size : Int)) = true := decide_eq_true c6
        clear c6
        simp only [Option.some.injEq, Prod.mk.injEq] at H
        obtain ⟨rfl, rfl, rfl⟩ := H
        go_enter Tryd.func19, Tryd.ntmps19
        go_wp2_with (first | ((with_reducible refine gate_callee (f := 32) rfl ?_); refine goesL_ (some 10) rfl rfl Tryd.func32 (by kernel_rfl) rfl #[.string a0] rfl (by (try simp only [List.map_toArray, List.map_cons, List.map_nil]); first | done | rfl | (simp only [List.length_drop, List.length_take]; rfl)) ?_; (with_reducible refine (interchangeref03_table.calls k a0 t224 t225 t226 _ A2.out).mono ?_); rintro e w' ⟨rfl, ⟨nd, rfl⟩⟩; refine ⟨_, rfl, ?_⟩))
        go_ret3
        exact ⟨by first | rfl | (simp; done) | (simp only [← hji4] <;> (first | rfl | simp)) | (simp [*]; done), by repeat (first | exact Drawn0.refl _ | apply Drawn0.step)⟩
      · rw [if_neg c6] at H
        exact absurd H (by simp)
    · rw [if_neg c5] at H
      exact absurd H (by simp)
  · rw [if_neg c3] at H
    have c3b0 : (t226 == 0) = false := beq_eq_false_iff_ne.mpr c3
    have c3b1 : (t226 != 0) = true := bne_iff_ne.mpr c3
    simp only [Option.some.injEq, Prod.mk.injEq] at H
    obtain ⟨rfl, rfl, rfl⟩ := H
    go_enter Tryd.func19, Tryd.ntmps19
    go_wp2_with (first | ((with_reducible refine gate_callee (f := 32) rfl ?_); refine goesL_ (some 10) rfl rfl Tryd.func32 (by kernel_rfl) rfl #[.string a0] rfl (by (try simp only [List.map_toArray, List.map_cons, List.map_nil]); first | done | rfl | (simp only [List.length_drop, List.length_take]; rfl)) ?_; (with_reducible refine (interchangeref03_table.calls k a0 t224 t225 t226 _ A2.out).mono ?_); rintro e w' ⟨rfl, ⟨nd, rfl⟩⟩; refine ⟨_, rfl, ?_⟩))
    go_ret3
    exact ⟨by first | rfl | (simp; done) | (simp [*]; done), by repeat (first | exact Drawn0.refl _ | apply Drawn0.step)⟩


end Go.Proofs.YthdkmohelampbaaDoor.F
