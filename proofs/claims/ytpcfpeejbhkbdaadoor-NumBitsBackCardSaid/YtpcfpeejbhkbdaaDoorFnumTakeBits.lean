-- Printed by this session's program pf.py out of the kit's print.
import Derived.Test.YtpcfpeejbhkbdaaDoorFbase
namespace Go.Proofs.YtpcfpeejbhkbdaaDoor.F
open Go.RowKit Go.Proofs.YtpcfpeejbhkbdaaDoorW.PrintWords Go.Proofs.YtpcfpeejbhkbdaaDoorW.PrintLast Go.Proofs.YtpcfpeejbhkbdaaDoorW.PrintMore
attribute [local go_sem] max2_int min2_int max_two min_two max_three min_three max_four min_four
set_option linter.unusedVariables false
set_option linter.unusedSimpArgs false

/-! ### num_TakeBits: function 19 -/
mutual
def num_TakeBits.j0 : Nat → ByteArray → Int → Int → Bool → Option (List Bool × ByteArray × Int)
  | 0, _, _, _, _ => none
  | k + 1, x0, x1, x7, x14 => if x14 = true then (some (([] : List Bool), (⟨#[]⟩ : ByteArray), 1)) else (if (x0.size : Int) < x7 then (some (([] : List Bool), (⟨#[]⟩ : ByteArray), 2)) else (num_TakeBits.l0 k x0 x1 x7 ([] : List Bool) (wrap64 (8 * x7)) 0))
def num_TakeBits.l0 : Nat → ByteArray → Int → Int → List Bool → Int → Int → Option (List Bool × ByteArray × Int)
  | 0, _, _, _, _, _, _ => none
  | k + 1, x0, x1, x7, x8, x27, x28 => if x28 < x27 then (if 0 ≤ (wrap64 (Int.tdiv x28 8)) then (if (wrap64 (Int.tdiv x28 8)) < (x0.size : Int) then (if 0 ≤ (Int.tmod x28 8) then (if x28 ≥ x1 then (num_TakeBits.j2 k x0 x1 x7 x8 x28 ((Go.bits .and .u8 (shr .u8 (bt x0 (wrap64 (Int.tdiv x28 8))) (Int.tmod x28 8)) 1) == 1) x27 x28 ((Go.bits .and .u8 (shr .u8 (bt x0 (wrap64 (Int.tdiv x28 8))) (Int.tmod x28 8)) 1) == 1)) else (num_TakeBits.j2 k x0 x1 x7 x8 x28 ((Go.bits .and .u8 (shr .u8 (bt x0 (wrap64 (Int.tdiv x28 8))) (Int.tmod x28 8)) 1) == 1) x27 x28 false)) else (none)) else (none)) else (none)) else (if 0 ≤ x7 then (if x7 ≤ (x0.size : Int) then (some (x8, x0.extract (x7 : Int).toNat x0.size, 0)) else (none)) else (none))
def num_TakeBits.j2 : Nat → ByteArray → Int → Int → List Bool → Int → Bool → Int → Int → Bool → Option (List Bool × ByteArray × Int)
  | 0, _, _, _, _, _, _, _, _, _ => none
  | k + 1, x0, x1, x7, x8, x9, x10, x27, x28, x45 => if x45 = true then (some (([] : List Bool), (⟨#[]⟩ : ByteArray), 3)) else (if x9 < x1 then (if x8.length < 140737488355328 then (num_TakeBits.l0 k x0 x1 x7 (x8 ++ [x10]) x27 (wrap64 (x28 + 1))) else (none)) else (num_TakeBits.l0 k x0 x1 x7 x8 x27 (wrap64 (x28 + 1))))
end
def num_TakeBits.f (k : Nat) (a0 : ByteArray) (a1 : Int) : Option (List Bool × ByteArray × Int) := if a1 < 0 then (num_TakeBits.j0 k a0 a1 (wrap64 (Int.tdiv (wrap64 (a1 + 7)) 8)) true) else (num_TakeBits.j0 k a0 a1 (wrap64 (Int.tdiv (wrap64 (a1 + 7)) 8)) (decide (a1 > 64)))
theorem num_TakeBits.mono_l : ∀ k, (∀ y0 y1 y2 y3, LeO (num_TakeBits.j0 k y0 y1 y2 y3) (num_TakeBits.j0 (k + 1) y0 y1 y2 y3)) ∧ (∀ y0 y1 y2 y3 y4 y5, LeO (num_TakeBits.l0 k y0 y1 y2 y3 y4 y5) (num_TakeBits.l0 (k + 1) y0 y1 y2 y3 y4 y5)) ∧ (∀ y0 y1 y2 y3 y4 y5 y6 y7 y8, LeO (num_TakeBits.j2 k y0 y1 y2 y3 y4 y5 y6 y7 y8) (num_TakeBits.j2 (k + 1) y0 y1 y2 y3 y4 y5 y6 y7 y8))
  | 0 => ⟨fun _ _ _ _ r h => by simp [num_TakeBits.j0] at h, fun _ _ _ _ _ _ r h => by simp [num_TakeBits.l0] at h, fun _ _ _ _ _ _ _ _ _ r h => by simp [num_TakeBits.j2] at h⟩
  | k + 1 => by
    obtain ⟨ih0, ih1, ih2⟩ := num_TakeBits.mono_l k
    refine ⟨?_, ?_, ?_⟩
    · intro y0 y1 y2 y3
      unfold num_TakeBits.j0
      repeat' first
      | (with_reducible exact ih0 _ _ _ _)
      | (with_reducible exact ih1 _ _ _ _ _ _)
      | (with_reducible exact ih2 _ _ _ _ _ _ _ _ _)
      | (with_reducible exact LeO.refl _)
      | (with_reducible exact LeO.none _)
      | (with_reducible refine LeO.ite ?_ ?_)
      | (with_reducible refine LeO.bind ?_ (fun _ => ?_))
      | exact ih0 _ _ _ _
      | exact ih1 _ _ _ _ _ _
      | exact ih2 _ _ _ _ _ _ _ _ _
      | exact LeO.none _
      | refine LeO.ite ?_ ?_
      | refine LeO.bind ?_ (fun _ => ?_)
    · intro y0 y1 y2 y3 y4 y5
      unfold num_TakeBits.l0
      repeat' first
      | (with_reducible exact ih0 _ _ _ _)
      | (with_reducible exact ih1 _ _ _ _ _ _)
      | (with_reducible exact ih2 _ _ _ _ _ _ _ _ _)
      | (with_reducible exact LeO.refl _)
      | (with_reducible exact LeO.none _)
      | (with_reducible refine LeO.ite ?_ ?_)
      | (with_reducible refine LeO.bind ?_ (fun _ => ?_))
      | exact ih0 _ _ _ _
      | exact ih1 _ _ _ _ _ _
      | exact ih2 _ _ _ _ _ _ _ _ _
      | exact LeO.none _
      | refine LeO.ite ?_ ?_
      | refine LeO.bind ?_ (fun _ => ?_)
    · intro y0 y1 y2 y3 y4 y5 y6 y7 y8
      unfold num_TakeBits.j2
      repeat' first
      | (with_reducible exact ih0 _ _ _ _)
      | (with_reducible exact ih1 _ _ _ _ _ _)
      | (with_reducible exact ih2 _ _ _ _ _ _ _ _ _)
      | (with_reducible exact LeO.refl _)
      | (with_reducible exact LeO.none _)
      | (with_reducible refine LeO.ite ?_ ?_)
      | (with_reducible refine LeO.bind ?_ (fun _ => ?_))
      | exact ih0 _ _ _ _
      | exact ih1 _ _ _ _ _ _
      | exact ih2 _ _ _ _ _ _ _ _ _
      | exact LeO.none _
      | refine LeO.ite ?_ ?_
      | refine LeO.bind ?_ (fun _ => ?_)
theorem num_TakeBits.mono : ∀ a0 a1 k, LeO (num_TakeBits.f k a0 a1) (num_TakeBits.f (k + 1) a0 a1) := by
  intro a0 a1 k
  obtain ⟨ih0, ih1, ih2⟩ := num_TakeBits.mono_l k
  unfold num_TakeBits.f
  repeat' first
      | (with_reducible exact ih0 _ _ _ _)
      | (with_reducible exact ih1 _ _ _ _ _ _)
      | (with_reducible exact ih2 _ _ _ _ _ _ _ _ _)
      | (with_reducible exact LeO.refl _)
      | (with_reducible exact LeO.none _)
      | (with_reducible refine LeO.ite ?_ ?_)
      | (with_reducible refine LeO.bind ?_ (fun _ => ?_))
      | exact ih0 _ _ _ _
      | exact ih1 _ _ _ _ _ _
      | exact ih2 _ _ _ _ _ _ _ _ _
      | exact LeO.none _
      | refine LeO.ite ?_ ?_
      | refine LeO.bind ?_ (fun _ => ?_)
set_option maxHeartbeats 8000000 in
set_option maxRecDepth 100000 in
theorem num_TakeBits.calls (k : Nat) (a0 : ByteArray) (a1 : Int) (r1 : List Bool) (r2 : ByteArray) (r3 : Int) (w : World) (h : num_TakeBits.f k a0 a1 = some (r1, r2, r3)) :
    Calls Tryd.prog 19 #[.string a0, .int .i64 a1] w fun e w' => ∃ v0_ : Value, e = .returned (.tuple #[v0_, .string r2, .int .i64 r3]) ∧ Kd.R Kd.bool 4 w' w.heap.size (fun _ => True) v0_ r1 ∧ Below w.heap.size w w' := by
  have HB := Aside0.mk (Below.refl w.heap.size w)
  have H : (if a1 < 0 then (num_TakeBits.j0 k a0 a1 (wrap64 (Int.tdiv (wrap64 (a1 + 7)) 8)) true) else (num_TakeBits.j0 k a0 a1 (wrap64 (Int.tdiv (wrap64 (a1 + 7)) 8)) (decide (a1 > 64)))) = some (r1, r2, r3) := h
  clear h
  have HC3 := Aside0.mk H
  clear H
  go_enter Tryd.func19, Tryd.ntmps19
  go_upto_region 2 with (fail)
  repeat (go_quiet (fail); go_upto_region 2 with (fail))
  go_cut [14] (fun v14 wc => ∃ (kq : Nat) (x14_2 : Bool), v14 = .bool x14_2 ∧ Aside0 (num_TakeBits.j0 kq a0 a1 (wrap64 (Int.tdiv (wrap64 (a1 + 7)) 8)) x14_2 = some (r1, r2, r3)) ∧ Aside0 (kq ≤ k) ∧ Aside0 (Below w.heap.size w wc))
  case first =>
    have H := HC3.out
    clear HC3
    by_cases c4 : a1 < 0
    · rw [if_pos c4] at H
      have c4b0 : decide (a1 < 0) = true := decide_eq_true c4
      clear c4
      (first | rw [c4b0] | (simp only [i64_w, i32_w]; rw [c4b0]) | skip)
      have H' := Aside0.mk H
      clear H
      go_wp2
      repeat (go_quiet (fail); try go_wp2)
      go_meet
      case rel => exact ⟨_, (true), (by first | rfl | (simp; done) | (simp [*]; done)), H', ⟨by first | omega | exact Nat.le_refl _⟩, ⟨by repeat (first | (with_reducible first | exact HB.out | apply below_alloc | apply pw_below_drewN | apply below_drew1) | exact HB.out)⟩⟩
    · rw [if_neg c4] at H
      have c4b0 : decide (a1 < 0) = false := decide_eq_false c4
      clear c4
      (first | rw [c4b0] | (simp only [i64_w, i32_w]; rw [c4b0]) | skip)
      have H' := Aside0.mk H
      clear H
      go_wp2
      repeat (go_quiet (fail); try go_wp2)
      go_meet
      case rel => exact ⟨_, (decide (a1 > 64)), (by first | rfl | (simp; done) | (simp [*]; done)), H', ⟨by first | omega | exact Nat.le_refl _⟩, ⟨by repeat (first | (with_reducible first | exact HB.out | apply below_alloc | apply pw_below_drewN | apply below_drew1) | exact HB.out)⟩⟩
  case rest =>
    clear HC3
    try clear c1
    try clear p2
    try clear c4
    try clear c4b0
    obtain ⟨kq, x14_2, rfl, HA, HJ2, HB⟩ := hcut
    cases kq with
    | zero => exact absurd HA.out (by simp [num_TakeBits.j0])
    | succ kj2 =>
      have H := HA.out
      clear HA
      simp only [num_TakeBits.j0] at H
      by_cases c5 : x14_2 = true
      · subst c5
        have H1 : (some (([] : List Bool), (⟨#[]⟩ : ByteArray), 1)) = some (r1, r2, r3) := by rw [if_pos rfl] at H; exact H
        clear H
        have H := H1
        clear H1
        simp only [Option.some.injEq, Prod.mk.injEq] at H
        obtain ⟨rfl, rfl, rfl⟩ := H
        go_wp2
        repeat (go_quiet (fail); try go_wp2)
        go_ret3
        exact ⟨_, by first | rfl | (simp [errW_none, errW_some] <;> rfl) | (simp [*, errW_none, errW_some] <;> rfl), by first | exact Kd.R_nil _ _ _ _ _ | exact Kd.N_nil _ _ _ _ _ | exact Kd.V_nil _ _ _ _ _ | exact Kd.Q_nil _ _ _ _ _ | exact Kd.S_nil _ _ _ _ _, by repeat (first | (with_reducible first | exact HB.out | apply below_alloc | apply pw_below_drewN | apply below_drew1) | exact HB.out)⟩
      · replace c5 := Bool.eq_false_iff.mpr c5
        subst c5
        have H1 : (if (a0.size : Int) < (wrap64 (Int.tdiv (wrap64 (a1 + 7)) 8)) then (some (([] : List Bool), (⟨#[]⟩ : ByteArray), 2)) else (num_TakeBits.l0 kj2 a0 a1 (wrap64 (Int.tdiv (wrap64 (a1 + 7)) 8)) ([] : List Bool) (wrap64 (8 * (wrap64 (Int.tdiv (wrap64 (a1 + 7)) 8)))) 0)) = some (r1, r2, r3) := by rw [if_neg (show ¬ (false = true) by decide)] at H; exact H
        clear H
        have H := H1
        clear H1
        by_cases c6 : (a0.size : Int) < (wrap64 (Int.tdiv (wrap64 (a1 + 7)) 8))
        · rw [if_pos c6] at H
          have c6b0 : decide ((a0.size : Int) < (wrap64 (Int.tdiv (wrap64 (a1 + 7)) 8))) = true := decide_eq_true c6
          clear c6
          simp only [Option.some.injEq, Prod.mk.injEq] at H
          obtain ⟨rfl, rfl, rfl⟩ := H
          go_wp2
          repeat (go_quiet (fail); try go_wp2)
          go_ret3
          exact ⟨_, by first | rfl | (simp [errW_none, errW_some] <;> rfl) | (simp [*, errW_none, errW_some] <;> rfl), by first | exact Kd.R_nil _ _ _ _ _ | exact Kd.N_nil _ _ _ _ _ | exact Kd.V_nil _ _ _ _ _ | exact Kd.Q_nil _ _ _ _ _ | exact Kd.S_nil _ _ _ _ _, by repeat (first | (with_reducible first | exact HB.out | apply below_alloc | apply pw_below_drewN | apply below_drew1) | exact HB.out)⟩
        · rw [if_neg c6] at H
          have c6b0 : decide ((a0.size : Int) < (wrap64 (Int.tdiv (wrap64 (a1 + 7)) 8))) = false := decide_eq_false c6
          clear c6
          have H' := Aside0.mk H
          clear H
          go_wp2
          repeat (go_quiet (fail); try go_wp2)
          go_loopg [8, 28] kj2 (fun kq v8 v28 w' => ∃ (x8_2 : List Bool) (x28_2 : Int), v28 = .int .i64 x28_2 ∧ Aside0 (num_TakeBits.l0 kq a0 a1 (wrap64 (Int.tdiv (wrap64 (a1 + 7)) 8)) x8_2 (wrap64 (8 * (wrap64 (Int.tdiv (wrap64 (a1 + 7)) 8)))) x28_2 = some (r1, r2, r3)) ∧ Aside0 (kq ≤ kj2) ∧ Aside0 (Kd.R Kd.bool 4 w' w.heap.size (fun _ => True) v8 x8_2) ∧ Aside0 (Below w.heap.size w w'))
          case atStart => exact ⟨(([] : List Bool)), (0), (by first | rfl | (simp; done) | (simp [*]; done)), H', ⟨Nat.le_refl _⟩, ⟨by first | exact Kd.R_nil _ _ _ _ _ | exact Kd.N_nil _ _ _ _ _ | exact Kd.V_nil _ _ _ _ _ | exact Kd.Q_nil _ _ _ _ _ | exact Kd.S_nil _ _ _ _ _⟩, ⟨by repeat (first | (with_reducible first | exact HB.out | apply below_alloc | apply pw_below_drewN | apply below_drew1) | exact HB.out)⟩⟩
          case round =>
            clear H'
            try clear c1
            try clear p2
            try clear c4
            try clear c4b0
            try clear c5
            try clear c6
            try clear c6b0
            try clear p6
            try clear p2
            obtain ⟨x8_2, x28_2, rfl, HA, HK2, HO_8, HB⟩ := hrel
            cases gk with
            | zero => exact absurd HA.out (by simp [num_TakeBits.l0])
            | succ k2 =>
              have H := HA.out
              clear HA
              simp only [num_TakeBits.l0] at H
              by_cases c7 : x28_2 < (wrap64 (8 * (wrap64 (Int.tdiv (wrap64 (a1 + 7)) 8))))
              · rw [if_pos c7] at H
                have c7b0 : decide (x28_2 < (wrap64 (8 * (wrap64 (Int.tdiv (wrap64 (a1 + 7)) 8))))) = true := decide_eq_true c7
                clear c7
                obtain ⟨ji8, hji8⟩ : ∃ j_ : Int, (wrap64 (Int.tdiv x28_2 8)) = j_ := ⟨_, rfl⟩
                replace H : (if 0 ≤ (ji8) then (if (ji8) < (a0.size : Int) then (if 0 ≤ (Int.tmod x28_2 8) then (if x28_2 ≥ a1 then (num_TakeBits.j2 k2 a0 a1 (wrap64 (Int.tdiv (wrap64 (a1 + 7)) 8)) x8_2 x28_2 ((Go.bits .and .u8 (shr .u8 (bt a0 (ji8)) (Int.tmod x28_2 8)) 1) == 1) (wrap64 (8 * (wrap64 (Int.tdiv (wrap64 (a1 + 7)) 8)))) x28_2 ((Go.bits .and .u8 (shr .u8 (bt a0 (ji8)) (Int.tmod x28_2 8)) 1) == 1)) else (num_TakeBits.j2 k2 a0 a1 (wrap64 (Int.tdiv (wrap64 (a1 + 7)) 8)) x8_2 x28_2 ((Go.bits .and .u8 (shr .u8 (bt a0 (ji8)) (Int.tmod x28_2 8)) 1) == 1) (wrap64 (8 * (wrap64 (Int.tdiv (wrap64 (a1 + 7)) 8)))) x28_2 false)) else (none)) else (none)) else (none)) = some (r1, r2, r3) := by first | (rw [hji8] at H; exact H) | (simp only [hji8] at H ⊢; exact H)
                have hji8w : (IntKind.i64.wrap (Int.tdiv x28_2 8)) = ji8 := (i64_w _).trans hji8
                by_cases c9 : 0 ≤ (ji8)
                · rw [if_pos c9] at H
                  have c9b0 : decide (0 ≤ (ji8)) = true := decide_eq_true c9
                  clear c9
                  by_cases c10 : (ji8) < (a0.size : Int)
                  · rw [if_pos c10] at H
                    have c10b0 : decide ((ji8) < (a0.size : Int)) = true := decide_eq_true c10
                    clear c10
                    obtain ⟨ji12, hji12⟩ : ∃ j_ : Int, (Int.tmod x28_2 8) = j_ := ⟨_, rfl⟩
                    replace H : (if 0 ≤ (ji12) then (if x28_2 ≥ a1 then (num_TakeBits.j2 k2 a0 a1 (wrap64 (Int.tdiv (wrap64 (a1 + 7)) 8)) x8_2 x28_2 ((Go.bits .and .u8 (shr .u8 (bt a0 (ji8)) (ji12)) 1) == 1) (wrap64 (8 * (wrap64 (Int.tdiv (wrap64 (a1 + 7)) 8)))) x28_2 ((Go.bits .and .u8 (shr .u8 (bt a0 (ji8)) (ji12)) 1) == 1)) else (num_TakeBits.j2 k2 a0 a1 (wrap64 (Int.tdiv (wrap64 (a1 + 7)) 8)) x8_2 x28_2 ((Go.bits .and .u8 (shr .u8 (bt a0 (ji8)) (ji12)) 1) == 1) (wrap64 (8 * (wrap64 (Int.tdiv (wrap64 (a1 + 7)) 8)))) x28_2 false)) else (none)) = some (r1, r2, r3) := by first | (rw [hji12] at H; exact H) | (simp only [hji12] at H ⊢; exact H)
                    by_cases c13 : 0 ≤ (ji12)
                    · rw [if_pos c13] at H
                      have c13b0 := eq_true c13
                      have c13b1 : decide (0 ≤ (ji12)) = true := decide_eq_true c13
                      clear c13
                      obtain ⟨ji14, hji14⟩ : ∃ j_ : Int, (shr .u8 (bt a0 (ji8)) (ji12)) = j_ := ⟨_, rfl⟩
                      replace H : (if x28_2 ≥ a1 then (num_TakeBits.j2 k2 a0 a1 (wrap64 (Int.tdiv (wrap64 (a1 + 7)) 8)) x8_2 x28_2 ((Go.bits .and .u8 (ji14) 1) == 1) (wrap64 (8 * (wrap64 (Int.tdiv (wrap64 (a1 + 7)) 8)))) x28_2 ((Go.bits .and .u8 (ji14) 1) == 1)) else (num_TakeBits.j2 k2 a0 a1 (wrap64 (Int.tdiv (wrap64 (a1 + 7)) 8)) x8_2 x28_2 ((Go.bits .and .u8 (ji14) 1) == 1) (wrap64 (8 * (wrap64 (Int.tdiv (wrap64 (a1 + 7)) 8)))) x28_2 false)) = some (r1, r2, r3) := by first | (rw [hji14] at H; exact H) | (simp only [hji14] at H ⊢; exact H)
                      have hji14_ : ((bt a0 (ji8)) / 2 ^ min (ji12).toNat 8) = ji14 := hji14
                      have hji14z : (ji12) ≤ 8 → ((bt a0 (ji8)) / 2 ^ (ji12).toNat) = ji14 := shr_small hji14
                      have HC15 := Aside0.mk H
                      clear H
                      have p11 : 0 ≤ ((ji8) : Int) := of_decide_eq_true (by first | (with_reducible assumption) | assumption)
                      have q11 : (ji8) < (a0.size : Int) := of_decide_eq_true (by first | (with_reducible assumption) | assumption)
                      have hx11 := bt_at a0 (ji8)
                      replace p11 := eq_true p11
                      replace q11 := eq_true q11
                      go_upto_region 11 with (fail)
                      repeat (go_quiet (fail); go_upto_region 11 with (fail))
                      go_cut [45] (fun v45 wc => ∃ (kq : Nat) (x45_14 : Bool), v45 = .bool x45_14 ∧ Aside0 (num_TakeBits.j2 kq a0 a1 (wrap64 (Int.tdiv (wrap64 (a1 + 7)) 8)) x8_2 x28_2 ((Go.bits .and .u8 (ji14) 1) == 1) (wrap64 (8 * (wrap64 (Int.tdiv (wrap64 (a1 + 7)) 8)))) x28_2 x45_14 = some (r1, r2, r3)) ∧ Aside0 (kq ≤ k2) ∧ Aside0 (Kd.R Kd.bool 4 wc w.heap.size (fun _ => True) u8 x8_2) ∧ Aside0 (Below w.heap.size w wc))
                      case first =>
                        have H := HC15.out
                        clear HC15
                        by_cases c16 : x28_2 ≥ a1
                        · rw [if_pos c16] at H
                          have c16b0 : decide (a1 ≤ x28_2) = true := decide_eq_true c16
                          clear c16
                          (first | rw [c16b0] | (simp only [i64_w, i32_w]; rw [c16b0]) | skip)
                          have H' := Aside0.mk H
                          clear H
                          go_wp2
                          repeat (go_quiet (fail); try go_wp2)
                          go_meet
                          case rel => exact ⟨_, (((Go.bits .and .u8 (ji14) 1) == 1)), (by first | rfl | (simp; done) | (simp only [← hji14] <;> (first | rfl | simp)) | (simp [*]; done)), H', ⟨by have := HJ2.out; have := HK2.out; first | omega | exact Nat.le_refl _⟩, ⟨by (with_reducible repeat (first | apply Kd.R_alloc | apply Kd.R_drewN | apply Kd.R_drew)); exact HO_8.out⟩, ⟨by repeat (first | (with_reducible first | exact HB.out | apply below_alloc | apply pw_below_drewN | apply below_drew1) | exact HB.out)⟩⟩
                        · rw [if_neg c16] at H
                          have c16b0 : decide (a1 ≤ x28_2) = false := decide_eq_false c16
                          clear c16
                          (first | rw [c16b0] | (simp only [i64_w, i32_w]; rw [c16b0]) | skip)
                          have H' := Aside0.mk H
                          clear H
                          go_wp2
                          repeat (go_quiet (fail); try go_wp2)
                          go_meet
                          case rel => exact ⟨_, (false), (by first | rfl | (simp; done) | (simp [*]; done)), H', ⟨by have := HJ2.out; have := HK2.out; first | omega | exact Nat.le_refl _⟩, ⟨by (with_reducible repeat (first | apply Kd.R_alloc | apply Kd.R_drewN | apply Kd.R_drew)); exact HO_8.out⟩, ⟨by repeat (first | (with_reducible first | exact HB.out | apply below_alloc | apply pw_below_drewN | apply below_drew1) | exact HB.out)⟩⟩
                      case rest =>
                        clear HC15
                        try clear c1
                        try clear p1
                        try clear q1
                        try clear hx1
                        try clear p2
                        try clear c4
                        try clear c4b0
                        try clear c5
                        try clear c6
                        try clear c6b0
                        try clear p6
                        try clear c7
                        try clear c7b0
                        try clear c9
                        try clear c9b0
                        try clear c10
                        try clear c10b0
                        try clear p11
                        try clear q11
                        try clear hx11
                        try clear c13
                        try clear c13b0
                        try clear c13b1
                        try clear c16
                        try clear c16b0
                        try clear p11
                        try clear p2
                        try clear p6
                        try clear q11
                        obtain ⟨kq, x45_14, rfl, HA, HJ14, HO_8, HB⟩ := hcut
                        cases kq with
                        | zero => exact absurd HA.out (by simp [num_TakeBits.j2])
                        | succ kj14 =>
                          have H := HA.out
                          clear HA
                          simp only [num_TakeBits.j2] at H
                          by_cases c17 : x45_14 = true
                          · subst c17
                            have H1 : (some (([] : List Bool), (⟨#[]⟩ : ByteArray), 3)) = some (r1, r2, r3) := by rw [if_pos rfl] at H; exact H
                            clear H
                            have H := H1
                            clear H1
                            simp only [Option.some.injEq, Prod.mk.injEq] at H
                            obtain ⟨rfl, rfl, rfl⟩ := H
                            go_wp2
                            repeat (go_quiet (fail); try go_wp2)
                            go_ret3
                            exact ⟨_, by first | rfl | (simp [errW_none, errW_some] <;> rfl) | (simp only [← hji8, ← hji12, ← hji14]; first | rfl | (simp [errW_none, errW_some] <;> rfl)) | (simp [*, errW_none, errW_some] <;> rfl), by first | exact Kd.R_nil _ _ _ _ _ | exact Kd.N_nil _ _ _ _ _ | exact Kd.V_nil _ _ _ _ _ | exact Kd.Q_nil _ _ _ _ _ | exact Kd.S_nil _ _ _ _ _, by repeat (first | (with_reducible first | exact HB.out | apply below_alloc | apply pw_below_drewN | apply below_drew1) | exact HB.out)⟩
                          · replace c17 := Bool.eq_false_iff.mpr c17
                            subst c17
                            have H1 : (if x28_2 < a1 then (if x8_2.length < 140737488355328 then (num_TakeBits.l0 kj14 a0 a1 (wrap64 (Int.tdiv (wrap64 (a1 + 7)) 8)) (x8_2 ++ [((Go.bits .and .u8 (ji14) 1) == 1)]) (wrap64 (8 * (wrap64 (Int.tdiv (wrap64 (a1 + 7)) 8)))) (wrap64 (x28_2 + 1))) else (none)) else (num_TakeBits.l0 kj14 a0 a1 (wrap64 (Int.tdiv (wrap64 (a1 + 7)) 8)) x8_2 (wrap64 (8 * (wrap64 (Int.tdiv (wrap64 (a1 + 7)) 8)))) (wrap64 (x28_2 + 1)))) = some (r1, r2, r3) := by rw [if_neg (show ¬ (false = true) by decide)] at H; exact H
                            clear H
                            have H := H1
                            clear H1
                            by_cases c18 : x28_2 < a1
                            · rw [if_pos c18] at H
                              have c18b0 : decide (x28_2 < a1) = true := decide_eq_true c18
                              clear c18
                              by_cases c19 : x8_2.length < 140737488355328
                              · rw [if_pos c19] at H
                                have LMc19 := Aside0.mk c19
                                clear c19
                                obtain ⟨y182, hy182⟩ : ∃ y_ : List Bool, y_ = (x8_2 ++ [((Go.bits .and .u8 (ji14) 1) == 1)]) := ⟨_, rfl⟩
                                replace H : (num_TakeBits.l0 kj14 a0 a1 (wrap64 (Int.tdiv (wrap64 (a1 + 7)) 8)) y182 (wrap64 (8 * (wrap64 (Int.tdiv (wrap64 (a1 + 7)) 8)))) (wrap64 (x28_2 + 1))) = some (r1, r2, r3) := by first | (rw [hy182]; with_reducible exact H) | (have H2_ := (Option.bind_some _ _).symm.trans H; rw [hy182]; with_reducible exact H2_) | (have H2_ := (Option.bind_some _ _).symm.trans H; with_reducible exact H2_) | with_reducible exact H | (rw [hy182]; exact H) | exact H
                                have Ny182 := Aside0.mk hy182
                                clear hy182
                                have H' := Aside0.mk H
                                clear H
                                go_wp2_with (first | ((with_reducible refine gate_builtin (b := .append) (xs := #[.tmp 49, .tmp 51]) rfl ?_); at_builtin; refine Kd.R_append Kd.bool (w0 := w) w.heap.size rfl (.tmp 49) (.tmp 51) 28 4 (.bool false) 1 rfl Tryd.underlying28 info4 rfl (by decide) (by omega) u8 x8_2 ((Go.bits .and .u8 (ji14) 1) == 1) [.bool ((Go.bits .and .u8 (ji14) 1) == 1)] (fun _ => True) (fun _ => False) rfl rfl ?aP (fun _ hk => hk.elim) ?aF ?aO ?aB ?aS ?aL ?_; (case aP => exact rfl); (case aB => exact (by repeat (first | (with_reducible first | exact HB.out | apply below_alloc | apply pw_below_drewN | apply below_drew1) | exact HB.out))); (case aF => exact (fun _ _ => trivial)); (case aO => exact (by (with_reducible repeat (first | apply Kd.R_alloc | apply Kd.R_drewN | apply Kd.R_drew)); exact HO_8.out)); (case aS => exact (below_size (by repeat (first | (with_reducible first | exact HB.out | apply below_alloc | apply pw_below_drewN | apply below_drew1) | exact HB.out)))); (case aL => have := LMc19.out; omega); intro v183 w20 ho hb hg hat; rw [← Ny182.out] at ho; have n0_ := Aside0.mk (hb); have n1_ := Aside0.mk (ho); clear HB; clear HO_8; have HB := n0_; have HO184 := n1_; clear n0_ n1_; clear ho hb hg hat))
                                repeat (go_quiet (first | ((with_reducible refine gate_builtin (b := .append) (xs := #[.tmp 49, .tmp 51]) rfl ?_); at_builtin; refine Kd.R_append Kd.bool (w0 := w) w.heap.size rfl (.tmp 49) (.tmp 51) 28 4 (.bool false) 1 rfl Tryd.underlying28 info4 rfl (by decide) (by omega) u8 x8_2 ((Go.bits .and .u8 (ji14) 1) == 1) [.bool ((Go.bits .and .u8 (ji14) 1) == 1)] (fun _ => True) (fun _ => False) rfl rfl ?aP (fun _ hk => hk.elim) ?aF ?aO ?aB ?aS ?aL ?_; (case aP => exact rfl); (case aB => exact (by repeat (first | (with_reducible first | exact HB.out | apply below_alloc | apply pw_below_drewN | apply below_drew1) | exact HB.out))); (case aF => exact (fun _ _ => trivial)); (case aO => exact (by (with_reducible repeat (first | apply Kd.R_alloc | apply Kd.R_drewN | apply Kd.R_drew)); exact HO_8.out)); (case aS => exact (below_size (by repeat (first | (with_reducible first | exact HB.out | apply below_alloc | apply pw_below_drewN | apply below_drew1) | exact HB.out)))); (case aL => have := LMc19.out; omega); intro v183 w20 ho hb hg hat; rw [← Ny182.out] at ho; have n0_ := Aside0.mk (hb); have n1_ := Aside0.mk (ho); clear HB; clear HO_8; have HB := n0_; have HO184 := n1_; clear n0_ n1_; clear ho hb hg hat)); try go_wp2_with (first | ((with_reducible refine gate_builtin (b := .append) (xs := #[.tmp 49, .tmp 51]) rfl ?_); at_builtin; refine Kd.R_append Kd.bool (w0 := w) w.heap.size rfl (.tmp 49) (.tmp 51) 28 4 (.bool false) 1 rfl Tryd.underlying28 info4 rfl (by decide) (by omega) u8 x8_2 ((Go.bits .and .u8 (ji14) 1) == 1) [.bool ((Go.bits .and .u8 (ji14) 1) == 1)] (fun _ => True) (fun _ => False) rfl rfl ?aP (fun _ hk => hk.elim) ?aF ?aO ?aB ?aS ?aL ?_; (case aP => exact rfl); (case aB => exact (by repeat (first | (with_reducible first | exact HB.out | apply below_alloc | apply pw_below_drewN | apply below_drew1) | exact HB.out))); (case aF => exact (fun _ _ => trivial)); (case aO => exact (by (with_reducible repeat (first | apply Kd.R_alloc | apply Kd.R_drewN | apply Kd.R_drew)); exact HO_8.out)); (case aS => exact (below_size (by repeat (first | (with_reducible first | exact HB.out | apply below_alloc | apply pw_below_drewN | apply below_drew1) | exact HB.out)))); (case aL => have := LMc19.out; omega); intro v183 w20 ho hb hg hat; rw [← Ny182.out] at ho; have n0_ := Aside0.mk (hb); have n1_ := Aside0.mk (ho); clear HB; clear HO_8; have HB := n0_; have HO184 := n1_; clear n0_ n1_; clear ho hb hg hat)))
                                go_roundg kj14
                                case measure => have := HJ2.out; have := HK2.out; have := HJ14.out; omega
                                case rel => exact ⟨(y182), (wrap64 (x28_2 + 1)), (by first | rfl | (simp; done) | (simp [*]; done)), H', ⟨by have := HJ2.out; have := HK2.out; have := HJ14.out; omega⟩, ⟨by (with_reducible repeat (first | apply Kd.R_alloc | apply Kd.R_drewN | apply Kd.R_drew)); exact HO184.out⟩, ⟨by repeat (first | (with_reducible first | exact HB.out | apply below_alloc | apply pw_below_drewN | apply below_drew1) | exact HB.out)⟩⟩
                              · rw [if_neg c19] at H
                                exact absurd H (by simp)
                            · rw [if_neg c18] at H
                              have c18b0 : decide (x28_2 < a1) = false := decide_eq_false c18
                              clear c18
                              have H' := Aside0.mk H
                              clear H
                              go_wp2
                              repeat (go_quiet (fail); try go_wp2)
                              go_roundg kj14
                              case measure => have := HJ2.out; have := HK2.out; have := HJ14.out; omega
                              case rel => exact ⟨(x8_2), (wrap64 (x28_2 + 1)), (by first | rfl | (simp; done) | (simp [*]; done)), H', ⟨by have := HJ2.out; have := HK2.out; have := HJ14.out; omega⟩, ⟨by (with_reducible repeat (first | apply Kd.R_alloc | apply Kd.R_drewN | apply Kd.R_drew)); exact HO_8.out⟩, ⟨by repeat (first | (with_reducible first | exact HB.out | apply below_alloc | apply pw_below_drewN | apply below_drew1) | exact HB.out)⟩⟩
                    · rw [if_neg c13] at H
                      exact absurd H (by simp)
                  · rw [if_neg c10] at H
                    exact absurd H (by simp)
                · rw [if_neg c9] at H
                  exact absurd H (by simp)
              · rw [if_neg c7] at H
                have c7b0 : decide (x28_2 < (wrap64 (8 * (wrap64 (Int.tdiv (wrap64 (a1 + 7)) 8))))) = false := decide_eq_false c7
                clear c7
                obtain ⟨ji21, hji21⟩ : ∃ j_ : Int, (wrap64 (Int.tdiv (wrap64 (a1 + 7)) 8)) = j_ := ⟨_, rfl⟩
                replace H : (if 0 ≤ (ji21) then (if (ji21) ≤ (a0.size : Int) then (some (x8_2, a0.extract ((ji21) : Int).toNat a0.size, 0)) else (none)) else (none)) = some (r1, r2, r3) := by first | (rw [hji21] at H; exact H) | (simp only [hji21] at H ⊢; exact H)
                (try rw [hji21] at c6b0)
                (try rw [hji21] at c7b0)
                have hji21w : (IntKind.i64.wrap (Int.tdiv (wrap64 (a1 + 7)) 8)) = ji21 := (i64_w _).trans hji21
                by_cases c22 : 0 ≤ (ji21)
                · rw [if_pos c22] at H
                  have c22b0 := eq_true c22
                  have c22b1 : decide (0 ≤ (ji21)) = true := decide_eq_true c22
                  clear c22
                  by_cases c23 : (ji21) ≤ (a0.size : Int)
                  · rw [if_pos c23] at H
                    have c23b0 := eq_true c23
                    have c23b1 : decide ((ji21) ≤ (a0.size : Int)) = true := decide_eq_true c23
                    clear c23
                    simp only [Option.some.injEq, Prod.mk.injEq] at H
                    obtain ⟨rfl, rfl, rfl⟩ := H
                    go_wp2
                    repeat (go_quiet (fail); try go_wp2)
                    go_ret3
                    exact ⟨_, by first | rfl | (simp [errW_none, errW_some] <;> rfl) | (simp only [← hji21]; first | rfl | (simp [errW_none, errW_some] <;> rfl)) | (simp [*, errW_none, errW_some] <;> rfl), by (with_reducible repeat (first | apply Kd.R_alloc | apply Kd.R_drewN | apply Kd.R_drew)); exact HO_8.out, by repeat (first | (with_reducible first | exact HB.out | apply below_alloc | apply pw_below_drewN | apply below_drew1) | exact HB.out)⟩
                  · rw [if_neg c23] at H
                    exact absurd H (by simp)
                · rw [if_neg c22] at H
                  exact absurd H (by simp)


end Go.Proofs.YtpcfpeejbhkbdaaDoor.F
