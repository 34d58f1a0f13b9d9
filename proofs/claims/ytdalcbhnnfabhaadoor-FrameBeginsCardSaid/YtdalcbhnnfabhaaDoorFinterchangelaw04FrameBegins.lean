-- Printed by this session's program pf.py out of the kit's print.
import Derived.Test.YtdalcbhnnfabhaaDoorFbase
import Derived.Test.YtdalcbhnnfabhaaDoorFframeBegins
import Derived.Test.YtdalcbhnnfabhaaDoorFframeHeader
import Derived.Test.YtdalcbhnnfabhaaDoorFinterchangelaw04shown
namespace Go.Proofs.YtdalcbhnnfabhaaDoor.F
open Go.RowKit Go.Proofs.YtdalcbhnnfabhaaDoorW.PrintWords Go.Proofs.YtdalcbhnnfabhaaDoorW.PrintLast Go.Proofs.YtdalcbhnnfabhaaDoorW.PrintMore
attribute [local go_sem] max2_int min2_int max_two min_two max_three min_three max_four min_four
set_option linter.unusedVariables false
set_option linter.unusedSimpArgs false

/-! ### interchangelaw04_FrameBegins: function 3 -/
mutual
def interchangelaw04_FrameBegins.j0 : Nat → ByteArray → Bool → ByteArray → Bool → Option (Bool)
  | 0, _, _, _, _ => none
  | k + 1, x0, x5, x6, x32 => if x32 = true then (some false) else ((frame_Begins.f x0).bind fun bt133 => (interchangelaw04_FrameBegins.l0 k x0 x5 x6 bt133.2 0))
def interchangelaw04_FrameBegins.l0 : Nat → ByteArray → Bool → ByteArray → Int → Int → Option (Bool)
  | 0, _, _, _, _, _ => none
  | k + 1, x0, x5, x6, x10, x11 => if x11 < (x0.size : Int) then (if x11 < (x6.size : Int) then (if 0 ≤ x11 then (if (bt x0 x11) = (bt x6 x11) then (interchangelaw04_FrameBegins.l0 k x0 x5 x6 x10 (wrap64 (x11 + 1))) else (if x5 = true then (if ((x10 == 3) == true) = true then (if x11 = (x0.size : Int) then (some ((x10 == 2) == true)) else (some ((x10 == 2) == false))) else (some false)) else (some false))) else (none)) else (if x5 = true then (if ((x10 == 3) == false) = true then (if x11 = (x0.size : Int) then (some ((x10 == 2) == false)) else (some ((x10 == 2) == false))) else (some false)) else (some false))) else (if x5 = true then (if ((x10 == 3) == false) = true then (if x11 = (x0.size : Int) then (some ((x10 == 2) == (decide (x11 < (x6.size : Int))))) else (some ((x10 == 2) == false))) else (some false)) else (some false))
end
def interchangelaw04_FrameBegins.f (k : Nat) (a0 : ByteArray) (a1 : ByteArray) : Option (Bool) := (interchangelaw04_shown.f k).bind fun t129 => ((frame_Header.f).bind fun t130 => (if t130.size + a1.size ≤ 9223372036854775807 then ((frame_Begins.f (t130 ++ a1)).bind fun bt131 => (if bt131.2 = 0 then (if bt131.1.toList = a1.toList then (interchangelaw04_FrameBegins.j0 k a0 t129 t130 ((t130.size : Int) != 8)) else (interchangelaw04_FrameBegins.j0 k a0 t129 t130 true)) else (interchangelaw04_FrameBegins.j0 k a0 t129 t130 true))) else (none)))
theorem interchangelaw04_FrameBegins.mono_l : ∀ k, (∀ y0 y1 y2 y3, LeO (interchangelaw04_FrameBegins.j0 k y0 y1 y2 y3) (interchangelaw04_FrameBegins.j0 (k + 1) y0 y1 y2 y3)) ∧ (∀ y0 y1 y2 y3 y4, LeO (interchangelaw04_FrameBegins.l0 k y0 y1 y2 y3 y4) (interchangelaw04_FrameBegins.l0 (k + 1) y0 y1 y2 y3 y4))
  | 0 => ⟨fun _ _ _ _ r h => by simp [interchangelaw04_FrameBegins.j0] at h, fun _ _ _ _ _ r h => by simp [interchangelaw04_FrameBegins.l0] at h⟩
  | k + 1 => by
    obtain ⟨ih0, ih1⟩ := interchangelaw04_FrameBegins.mono_l k
    refine ⟨?_, ?_⟩
    · intro y0 y1 y2 y3
      unfold interchangelaw04_FrameBegins.j0
      repeat' first
      | (with_reducible exact ih0 _ _ _ _)
      | (with_reducible exact ih1 _ _ _ _ _)
      | (with_reducible exact interchangelaw04_shown.mono _)
      | (with_reducible exact LeO.refl _)
      | (with_reducible exact LeO.none _)
      | (with_reducible refine LeO.ite ?_ ?_)
      | (with_reducible refine LeO.bind ?_ (fun _ => ?_))
      | exact ih0 _ _ _ _
      | exact ih1 _ _ _ _ _
      | exact interchangelaw04_shown.mono _
      | exact LeO.none _
      | refine LeO.ite ?_ ?_
      | refine LeO.bind ?_ (fun _ => ?_)
    · intro y0 y1 y2 y3 y4
      unfold interchangelaw04_FrameBegins.l0
      repeat' first
      | (with_reducible exact ih0 _ _ _ _)
      | (with_reducible exact ih1 _ _ _ _ _)
      | (with_reducible exact interchangelaw04_shown.mono _)
      | (with_reducible exact LeO.refl _)
      | (with_reducible exact LeO.none _)
      | (with_reducible refine LeO.ite ?_ ?_)
      | (with_reducible refine LeO.bind ?_ (fun _ => ?_))
      | exact ih0 _ _ _ _
      | exact ih1 _ _ _ _ _
      | exact interchangelaw04_shown.mono _
      | exact LeO.none _
      | refine LeO.ite ?_ ?_
      | refine LeO.bind ?_ (fun _ => ?_)
theorem interchangelaw04_FrameBegins.mono : ∀ a0 a1 k, LeO (interchangelaw04_FrameBegins.f k a0 a1) (interchangelaw04_FrameBegins.f (k + 1) a0 a1) := by
  intro a0 a1 k
  obtain ⟨ih0, ih1⟩ := interchangelaw04_FrameBegins.mono_l k
  unfold interchangelaw04_FrameBegins.f
  repeat' first
      | (with_reducible exact ih0 _ _ _ _)
      | (with_reducible exact ih1 _ _ _ _ _)
      | (with_reducible exact interchangelaw04_shown.mono _)
      | (with_reducible exact LeO.refl _)
      | (with_reducible exact LeO.none _)
      | (with_reducible refine LeO.ite ?_ ?_)
      | (with_reducible refine LeO.bind ?_ (fun _ => ?_))
      | exact ih0 _ _ _ _
      | exact ih1 _ _ _ _ _
      | exact interchangelaw04_shown.mono _
      | exact LeO.none _
      | refine LeO.ite ?_ ?_
      | refine LeO.bind ?_ (fun _ => ?_)
set_option maxHeartbeats 8000000 in
set_option maxRecDepth 100000 in
theorem interchangelaw04_FrameBegins.calls (k : Nat) (a0 : ByteArray) (a1 : ByteArray) (r : Bool) (w : World) (hg : Laid w) (h : interchangelaw04_FrameBegins.f k a0 a1 = some r) :
    Calls Tryd.prog 3 #[.string a0, .string a1] w fun e w' => e = .returned (.bool r) ∧ Below w.heap.size w w' := by
  have HG := Aside0.mk hg
  clear hg
  have HB := Aside0.mk (Below.refl w.heap.size w)
  have H : ((interchangelaw04_shown.f k).bind fun t129 => ((frame_Header.f).bind fun t130 => (if t130.size + a1.size ≤ 9223372036854775807 then ((frame_Begins.f (t130 ++ a1)).bind fun bt131 => (if bt131.2 = 0 then (if bt131.1.toList = a1.toList then (interchangelaw04_FrameBegins.j0 k a0 t129 t130 ((t130.size : Int) != 8)) else (interchangelaw04_FrameBegins.j0 k a0 t129 t130 true)) else (interchangelaw04_FrameBegins.j0 k a0 t129 t130 true))) else (none)))) = some r := h
  clear h
  replace H := Option.bind_eq_some_iff.mp H
  obtain ⟨t129, A30, H⟩ := H
  replace H : ((frame_Header.f).bind fun t130 => (if t130.size + a1.size ≤ 9223372036854775807 then ((frame_Begins.f (t130 ++ a1)).bind fun bt131 => (if bt131.2 = 0 then (if bt131.1.toList = a1.toList then (interchangelaw04_FrameBegins.j0 k a0 t129 t130 ((t130.size : Int) != 8)) else (interchangelaw04_FrameBegins.j0 k a0 t129 t130 true)) else (interchangelaw04_FrameBegins.j0 k a0 t129 t130 true))) else (none))) = some r := H
  have A3 := Aside0.mk A30
  clear A30
  replace H := Option.bind_eq_some_iff.mp H
  obtain ⟨t130, A40, H⟩ := H
  replace H : (if t130.size + a1.size ≤ 9223372036854775807 then ((frame_Begins.f (t130 ++ a1)).bind fun bt131 => (if bt131.2 = 0 then (if bt131.1.toList = a1.toList then (interchangelaw04_FrameBegins.j0 k a0 t129 t130 ((t130.size : Int) != 8)) else (interchangelaw04_FrameBegins.j0 k a0 t129 t130 true)) else (interchangelaw04_FrameBegins.j0 k a0 t129 t130 true))) else (none)) = some r := H
  have A4 := Aside0.mk A40
  clear A40
  by_cases c5 : t130.size + a1.size ≤ 9223372036854775807
  · rw [if_pos c5] at H
    have c5b0 := eq_true c5
    have c5b1 : decide (t130.size + a1.size ≤ 9223372036854775807) = true := decide_eq_true c5
    try have c5b2 : (9223372036854775807 < t130.size + a1.size) = False := eq_false (Nat.not_lt.2 c5)
    replace H := Option.bind_eq_some_iff.mp H
    obtain ⟨⟨t131, t132⟩, A60, H⟩ := H
    replace H : (if t132 = 0 then (if t131.toList = a1.toList then (interchangelaw04_FrameBegins.j0 k a0 t129 t130 ((t130.size : Int) != 8)) else (interchangelaw04_FrameBegins.j0 k a0 t129 t130 true)) else (interchangelaw04_FrameBegins.j0 k a0 t129 t130 true)) = some r := H
    have A6 := Aside0.mk A60
    clear A60
    have HC7 := Aside0.mk H
    clear H
    go_enter Tryd.func3, Tryd.ntmps3
    go_upto_region 4 with (first | (go_at_call 10; (with_reducible refine (interchangelaw04_shown.calls k t129 _ ?lg A3.out).mono ?_); (case lg => exact (HG.out.below (by repeat (first | (with_reducible first | exact HB.out | apply below_alloc | apply pw_below_drewN | apply below_drew1) | exact HB.out)))); rintro e w8 ⟨rfl, hb⟩; have n0_ := Aside0.mk (below_step (by repeat (first | (with_reducible first | exact HB.out | apply below_alloc | apply pw_below_drewN | apply below_drew1) | exact HB.out)) hb); clear HB; have HB := n0_; clear n0_; (try clear hb); (try clear hb2); (try clear hk); (try clear hi)) | (go_at_call 11; (with_reducible refine (frame_Header.calls  t130 _ A4.out).mono ?_); rintro e w' ⟨rfl, ⟨nd, rfl⟩⟩; (try first | exact ⟨rfl, _, World.drewN_drewN _ _ _⟩ | exact ⟨rfl, _, Eq.trans (World.drewN_drewN _ _ _) (congrArg (World.drewN _) (Nat.add_assoc _ _ _))⟩)) | (go_at_call 12; (with_reducible refine (frame_Begins.calls (t130 ++ a1) t131 t132 _ A6.out).mono ?_); rintro e w' ⟨rfl, ⟨nd, rfl⟩⟩; (try first | exact ⟨rfl, _, World.drewN_drewN _ _ _⟩ | exact ⟨rfl, _, Eq.trans (World.drewN_drewN _ _ _) (congrArg (World.drewN _) (Nat.add_assoc _ _ _))⟩)))
    repeat (go_quiet (first | (go_at_call 10; (with_reducible refine (interchangelaw04_shown.calls k t129 _ ?lg A3.out).mono ?_); (case lg => exact (HG.out.below (by repeat (first | (with_reducible first | exact HB.out | apply below_alloc | apply pw_below_drewN | apply below_drew1) | exact HB.out)))); rintro e w8 ⟨rfl, hb⟩; have n0_ := Aside0.mk (below_step (by repeat (first | (with_reducible first | exact HB.out | apply below_alloc | apply pw_below_drewN | apply below_drew1) | exact HB.out)) hb); clear HB; have HB := n0_; clear n0_; (try clear hb); (try clear hb2); (try clear hk); (try clear hi)) | (go_at_call 11; (with_reducible refine (frame_Header.calls  t130 _ A4.out).mono ?_); rintro e w' ⟨rfl, ⟨nd, rfl⟩⟩; (try first | exact ⟨rfl, _, World.drewN_drewN _ _ _⟩ | exact ⟨rfl, _, Eq.trans (World.drewN_drewN _ _ _) (congrArg (World.drewN _) (Nat.add_assoc _ _ _))⟩)) | (go_at_call 12; (with_reducible refine (frame_Begins.calls (t130 ++ a1) t131 t132 _ A6.out).mono ?_); rintro e w' ⟨rfl, ⟨nd, rfl⟩⟩; (try first | exact ⟨rfl, _, World.drewN_drewN _ _ _⟩ | exact ⟨rfl, _, Eq.trans (World.drewN_drewN _ _ _) (congrArg (World.drewN _) (Nat.add_assoc _ _ _))⟩))); go_upto_region 4 with (first | (go_at_call 10; (with_reducible refine (interchangelaw04_shown.calls k t129 _ ?lg A3.out).mono ?_); (case lg => exact (HG.out.below (by repeat (first | (with_reducible first | exact HB.out | apply below_alloc | apply pw_below_drewN | apply below_drew1) | exact HB.out)))); rintro e w8 ⟨rfl, hb⟩; have n0_ := Aside0.mk (below_step (by repeat (first | (with_reducible first | exact HB.out | apply below_alloc | apply pw_below_drewN | apply below_drew1) | exact HB.out)) hb); clear HB; have HB := n0_; clear n0_; (try clear hb); (try clear hb2); (try clear hk); (try clear hi)) | (go_at_call 11; (with_reducible refine (frame_Header.calls  t130 _ A4.out).mono ?_); rintro e w' ⟨rfl, ⟨nd, rfl⟩⟩; (try first | exact ⟨rfl, _, World.drewN_drewN _ _ _⟩ | exact ⟨rfl, _, Eq.trans (World.drewN_drewN _ _ _) (congrArg (World.drewN _) (Nat.add_assoc _ _ _))⟩)) | (go_at_call 12; (with_reducible refine (frame_Begins.calls (t130 ++ a1) t131 t132 _ A6.out).mono ?_); rintro e w' ⟨rfl, ⟨nd, rfl⟩⟩; (try first | exact ⟨rfl, _, World.drewN_drewN _ _ _⟩ | exact ⟨rfl, _, Eq.trans (World.drewN_drewN _ _ _) (congrArg (World.drewN _) (Nat.add_assoc _ _ _))⟩))))
    (try simp only [Act.put, List.setIfInBounds_toArray, List.set_cons_zero, List.set_cons_succ])
    go_cut [32] (fun v32 wc => ∃ (kq : Nat) (x32_6 : Bool), v32 = .bool x32_6 ∧ Aside0 (interchangelaw04_FrameBegins.j0 kq a0 t129 t130 x32_6 = some r) ∧ Aside0 (kq ≤ k) ∧ Aside0 (Below w.heap.size w wc))
    case first =>
      have H := HC7.out
      clear HC7
      by_cases c9 : t132 = 0
      · rw [if_pos c9] at H
        have c9b0 : (t132 == 0) = true := beq_iff_eq.mpr c9
        have c9b1 : (t132 != 0) = false := bne_eq_false_iff_eq.mpr c9
        clear c9
        (first | rw [c9b0] | (simp only [i64_w, i32_w]; rw [c9b0]) | skip)
        by_cases c10 : t131.toList = a1.toList
        · rw [if_pos c10] at H
          have c10b0 : (t131.toList == a1.toList) = true := beq_iff_eq.mpr c10
          have c10b1 : (t131.toList != a1.toList) = false := bne_eq_false_iff_eq.mpr c10
          clear c10
          have H' := Aside0.mk H
          clear H
          go_wp2
          repeat (go_quiet (fail); try go_wp2)
          go_meet
          case rel => exact ⟨_, (((t130.size : Int) != 8)), (by first | rfl | (simp; done) | (simp [*]; done)), H', ⟨by first | omega | exact Nat.le_refl _⟩, ⟨by repeat (first | (with_reducible first | exact HB.out | apply below_alloc | apply pw_below_drewN | apply below_drew1) | exact HB.out)⟩⟩
        · rw [if_neg c10] at H
          have c10b0 : (t131.toList == a1.toList) = false := beq_eq_false_iff_ne.mpr c10
          have c10b1 : (t131.toList != a1.toList) = true := bne_iff_ne.mpr c10
          have H' := Aside0.mk H
          clear H
          go_wp2
          repeat (go_quiet (fail); try go_wp2)
          go_meet
          case rel => exact ⟨_, (true), (by first | rfl | (simp; done) | (simp [*]; done)), H', ⟨by first | omega | exact Nat.le_refl _⟩, ⟨by repeat (first | (with_reducible first | exact HB.out | apply below_alloc | apply pw_below_drewN | apply below_drew1) | exact HB.out)⟩⟩
      · rw [if_neg c9] at H
        have c9b0 : (t132 == 0) = false := beq_eq_false_iff_ne.mpr c9
        have c9b1 : (t132 != 0) = true := bne_iff_ne.mpr c9
        (first | rw [c9b0] | (simp only [i64_w, i32_w]; rw [c9b0]) | skip)
        have H' := Aside0.mk H
        clear H
        go_wp2
        repeat (go_quiet (fail); try go_wp2)
        go_meet
        case rel => exact ⟨_, (true), (by first | rfl | (simp; done) | (simp [*]; done)), H', ⟨by first | omega | exact Nat.le_refl _⟩, ⟨by repeat (first | (with_reducible first | exact HB.out | apply below_alloc | apply pw_below_drewN | apply below_drew1) | exact HB.out)⟩⟩
    case rest =>
      clear HC7
      try clear c1
      try clear p2
      try clear c3
      try clear c5
      try clear c5b0
      try clear c5b1
      try clear c5b2
      try clear c9
      try clear c9b0
      try clear c9b1
      try clear c10
      try clear c10b0
      try clear c10b1
      obtain ⟨kq, x32_6, rfl, HA, HJ6, HB⟩ := hcut
      cases kq with
      | zero => exact absurd HA.out (by simp [interchangelaw04_FrameBegins.j0])
      | succ kj6 =>
        have H := HA.out
        clear HA
        simp only [interchangelaw04_FrameBegins.j0] at H
        by_cases c11 : x32_6 = true
        · subst c11
          have H1 : (some false) = some r := by rw [if_pos rfl] at H; exact H
          clear H
          have H := H1
          clear H1
          obtain rfl := Option.some.inj H
          go_wp2
          repeat (go_quiet (fail); try go_wp2)
          go_ret
          exact ⟨by first | rfl | (simp [errW_none, errW_some] <;> rfl) | (simp [*, errW_none, errW_some] <;> rfl), by repeat (first | (with_reducible first | exact HB.out | apply below_alloc | apply pw_below_drewN | apply below_drew1) | exact HB.out)⟩
        · replace c11 := Bool.eq_false_iff.mpr c11
          subst c11
          have H1 : ((frame_Begins.f a0).bind fun bt133 => (interchangelaw04_FrameBegins.l0 kj6 a0 t129 t130 bt133.2 0)) = some r := by rw [if_neg (show ¬ (false = true) by decide)] at H; exact H
          clear H
          have H := H1
          clear H1
          replace H := Option.bind_eq_some_iff.mp H
          obtain ⟨⟨t133, t134⟩, A120, H⟩ := H
          replace H : (interchangelaw04_FrameBegins.l0 kj6 a0 t129 t130 t134 0) = some r := H
          have A12 := Aside0.mk A120
          clear A120
          have H' := Aside0.mk H
          clear H
          go_wp2_with (first | (go_at_call 12; (with_reducible refine (frame_Begins.calls a0 t133 t134 _ A12.out).mono ?_); rintro e w' ⟨rfl, ⟨nd, rfl⟩⟩; (try first | exact ⟨rfl, _, World.drewN_drewN _ _ _⟩ | exact ⟨rfl, _, Eq.trans (World.drewN_drewN _ _ _) (congrArg (World.drewN _) (Nat.add_assoc _ _ _))⟩)))
          repeat (go_quiet (first | (go_at_call 12; (with_reducible refine (frame_Begins.calls a0 t133 t134 _ A12.out).mono ?_); rintro e w' ⟨rfl, ⟨nd, rfl⟩⟩; (try first | exact ⟨rfl, _, World.drewN_drewN _ _ _⟩ | exact ⟨rfl, _, Eq.trans (World.drewN_drewN _ _ _) (congrArg (World.drewN _) (Nat.add_assoc _ _ _))⟩))); try go_wp2_with (first | (go_at_call 12; (with_reducible refine (frame_Begins.calls a0 t133 t134 _ A12.out).mono ?_); rintro e w' ⟨rfl, ⟨nd, rfl⟩⟩; (try first | exact ⟨rfl, _, World.drewN_drewN _ _ _⟩ | exact ⟨rfl, _, Eq.trans (World.drewN_drewN _ _ _) (congrArg (World.drewN _) (Nat.add_assoc _ _ _))⟩))))
          go_loopg [11] kj6 (fun kq v11 w' => ∃ (x11_2 : Int), v11 = .int .i64 x11_2 ∧ Aside0 (interchangelaw04_FrameBegins.l0 kq a0 t129 t130 t134 x11_2 = some r) ∧ Aside0 (kq ≤ kj6) ∧ Aside0 (Below w.heap.size w w'))
          case atStart => exact ⟨(0), (by first | rfl | (simp; done) | (simp [*]; done)), H', ⟨Nat.le_refl _⟩, ⟨by repeat (first | (with_reducible first | exact HB.out | apply below_alloc | apply pw_below_drewN | apply below_drew1) | exact HB.out)⟩⟩
          case round =>
            clear H'
            try clear c1
            try clear p2
            try clear c3
            try clear c5
            try clear c5b0
            try clear c5b1
            try clear c5b2
            try clear c9
            try clear c9b0
            try clear c9b1
            try clear c10
            try clear c10b0
            try clear c10b1
            try clear c11
            try clear p2
            obtain ⟨x11_2, rfl, HA, HK2, HB⟩ := hrel
            cases gk with
            | zero => exact absurd HA.out (by simp [interchangelaw04_FrameBegins.l0])
            | succ k2 =>
              have H := HA.out
              clear HA
              simp only [interchangelaw04_FrameBegins.l0] at H
              by_cases c13 : x11_2 < (a0.size : Int)
              · rw [if_pos c13] at H
                have c13b0 : decide (x11_2 < (a0.size : Int)) = true := decide_eq_true c13
                clear c13
                by_cases c14 : x11_2 < (t130.size : Int)
                · rw [if_pos c14] at H
                  have c14b0 : decide (x11_2 < (t130.size : Int)) = true := decide_eq_true c14
                  clear c14
                  by_cases c15 : 0 ≤ x11_2
                  · rw [if_pos c15] at H
                    have c15b0 : decide (0 ≤ x11_2) = true := decide_eq_true c15
                    clear c15
                    by_cases c18 : (bt a0 x11_2) = (bt t130 x11_2)
                    · rw [if_pos c18] at H
                      have c18b0 : ((bt a0 x11_2) == (bt t130 x11_2)) = true := beq_iff_eq.mpr c18
                      have c18b1 : ((bt a0 x11_2) != (bt t130 x11_2)) = false := bne_eq_false_iff_eq.mpr c18
                      clear c18
                      have H' := Aside0.mk H
                      clear H
                      have p16 : 0 ≤ (x11_2 : Int) := of_decide_eq_true (by first | (with_reducible assumption) | assumption)
                      have q16 : x11_2 < (a0.size : Int) := of_decide_eq_true (by first | (with_reducible assumption) | assumption)
                      have hx16 := bt_at a0 x11_2
                      replace p16 := eq_true p16
                      replace q16 := eq_true q16
                      have p17 : 0 ≤ (x11_2 : Int) := of_decide_eq_true (by first | (with_reducible assumption) | assumption)
                      have q17 : x11_2 < (t130.size : Int) := of_decide_eq_true (by first | (with_reducible assumption) | assumption)
                      have hx17 := bt_at t130 x11_2
                      replace p17 := eq_true p17
                      replace q17 := eq_true q17
                      go_wp2
                      repeat (go_quiet (fail); try go_wp2)
                      go_roundg k2
                      case measure => have := HJ6.out; have := HK2.out; omega
                      case rel => exact ⟨(wrap64 (x11_2 + 1)), (by first | rfl | (simp; done) | (simp [*]; done)), H', ⟨by have := HJ6.out; have := HK2.out; omega⟩, ⟨by repeat (first | (with_reducible first | exact HB.out | apply below_alloc | apply pw_below_drewN | apply below_drew1) | exact HB.out)⟩⟩
                    · rw [if_neg c18] at H
                      have c18b0 : ((bt a0 x11_2) == (bt t130 x11_2)) = false := beq_eq_false_iff_ne.mpr c18
                      have c18b1 : ((bt a0 x11_2) != (bt t130 x11_2)) = true := bne_iff_ne.mpr c18
                      by_cases c19 : t129 = true
                      · subst c19
                        have H1 : (if ((t134 == 3) == true) = true then (if x11_2 = (a0.size : Int) then (some ((t134 == 2) == true)) else (some ((t134 == 2) == false))) else (some false)) = some r := by rw [if_pos rfl] at H; exact H
                        clear H
                        have H := H1
                        clear H1
                        by_cases c20 : ((t134 == 3) == true) = true
                        · rw [if_pos c20] at H
                          have c20b0 : ((t134 == 3) == true) = true := c20
                          (try (have c20b1 : decide ((t134 == 3) = true) = true := by simpa using c20))
                          (try (have c20b2 : ((t134 == 3) == true) = true := by simpa using c20))
                          clear c20
                          by_cases c21 : x11_2 = (a0.size : Int)
                          · rw [if_pos c21] at H
                            have c21b0 : (x11_2 == (a0.size : Int)) = true := beq_iff_eq.mpr c21
                            have c21b1 : (x11_2 != (a0.size : Int)) = false := bne_eq_false_iff_eq.mpr c21
                            clear c21
                            obtain rfl := Option.some.inj H
                            have p16 : 0 ≤ (x11_2 : Int) := of_decide_eq_true (by first | (with_reducible assumption) | assumption)
                            have q16 : x11_2 < (a0.size : Int) := of_decide_eq_true (by first | (with_reducible assumption) | assumption)
                            have hx16 := bt_at a0 x11_2
                            replace p16 := eq_true p16
                            replace q16 := eq_true q16
                            have p17 : 0 ≤ (x11_2 : Int) := of_decide_eq_true (by first | (with_reducible assumption) | assumption)
                            have q17 : x11_2 < (t130.size : Int) := of_decide_eq_true (by first | (with_reducible assumption) | assumption)
                            have hx17 := bt_at t130 x11_2
                            replace p17 := eq_true p17
                            replace q17 := eq_true q17
                            go_wp2
                            repeat (go_quiet (fail); try go_wp2)
                            go_ret
                            exact ⟨by first | rfl | (simp [errW_none, errW_some] <;> rfl) | (simp [*, errW_none, errW_some] <;> rfl), by repeat (first | (with_reducible first | exact HB.out | apply below_alloc | apply pw_below_drewN | apply below_drew1) | exact HB.out)⟩
                          · rw [if_neg c21] at H
                            have c21b0 : (x11_2 == (a0.size : Int)) = false := beq_eq_false_iff_ne.mpr c21
                            have c21b1 : (x11_2 != (a0.size : Int)) = true := bne_iff_ne.mpr c21
                            obtain rfl := Option.some.inj H
                            have p16 : 0 ≤ (x11_2 : Int) := of_decide_eq_true (by first | (with_reducible assumption) | assumption)
                            have q16 : x11_2 < (a0.size : Int) := of_decide_eq_true (by first | (with_reducible assumption) | assumption)
                            have hx16 := bt_at a0 x11_2
                            replace p16 := eq_true p16
                            replace q16 := eq_true q16
                            have p17 : 0 ≤ (x11_2 : Int) := of_decide_eq_true (by first | (with_reducible assumption) | assumption)
                            have q17 : x11_2 < (t130.size : Int) := of_decide_eq_true (by first | (with_reducible assumption) | assumption)
                            have hx17 := bt_at t130 x11_2
                            replace p17 := eq_true p17
                            replace q17 := eq_true q17
                            go_wp2
                            repeat (go_quiet (fail); try go_wp2)
                            go_ret
                            exact ⟨by first | rfl | (simp [errW_none, errW_some] <;> rfl) | (simp [*, errW_none, errW_some] <;> rfl), by repeat (first | (with_reducible first | exact HB.out | apply below_alloc | apply pw_below_drewN | apply below_drew1) | exact HB.out)⟩
                        · rw [if_neg c20] at H
                          have c20b0 : ((t134 == 3) == true) = false := by simpa using c20
                          (try (have c20b1 : decide ((t134 == 3) = true) = false := by simpa using c20))
                          (try (have c20b2 : ((t134 == 3) == true) = false := by simpa using c20))
                          (try (have c20b3 : ¬ ((t134 == 3) = true) := by simpa using c20))
                          clear c20
                          obtain rfl := Option.some.inj H
                          have p16 : 0 ≤ (x11_2 : Int) := of_decide_eq_true (by first | (with_reducible assumption) | assumption)
                          have q16 : x11_2 < (a0.size : Int) := of_decide_eq_true (by first | (with_reducible assumption) | assumption)
                          have hx16 := bt_at a0 x11_2
                          replace p16 := eq_true p16
                          replace q16 := eq_true q16
                          have p17 : 0 ≤ (x11_2 : Int) := of_decide_eq_true (by first | (with_reducible assumption) | assumption)
                          have q17 : x11_2 < (t130.size : Int) := of_decide_eq_true (by first | (with_reducible assumption) | assumption)
                          have hx17 := bt_at t130 x11_2
                          replace p17 := eq_true p17
                          replace q17 := eq_true q17
                          go_wp2
                          repeat (go_quiet (fail); try go_wp2)
                          go_ret
                          exact ⟨by first | rfl | (simp [errW_none, errW_some] <;> rfl) | (simp [*, errW_none, errW_some] <;> rfl), by repeat (first | (with_reducible first | exact HB.out | apply below_alloc | apply pw_below_drewN | apply below_drew1) | exact HB.out)⟩
                      · replace c19 := Bool.eq_false_iff.mpr c19
                        subst c19
                        have H1 : (some false) = some r := by rw [if_neg (show ¬ (false = true) by decide)] at H; exact H
                        clear H
                        have H := H1
                        clear H1
                        obtain rfl := Option.some.inj H
                        have p16 : 0 ≤ (x11_2 : Int) := of_decide_eq_true (by first | (with_reducible assumption) | assumption)
                        have q16 : x11_2 < (a0.size : Int) := of_decide_eq_true (by first | (with_reducible assumption) | assumption)
                        have hx16 := bt_at a0 x11_2
                        replace p16 := eq_true p16
                        replace q16 := eq_true q16
                        have p17 : 0 ≤ (x11_2 : Int) := of_decide_eq_true (by first | (with_reducible assumption) | assumption)
                        have q17 : x11_2 < (t130.size : Int) := of_decide_eq_true (by first | (with_reducible assumption) | assumption)
                        have hx17 := bt_at t130 x11_2
                        replace p17 := eq_true p17
                        replace q17 := eq_true q17
                        go_wp2
                        repeat (go_quiet (fail); try go_wp2)
                        go_ret
                        exact ⟨by first | rfl | (simp [errW_none, errW_some] <;> rfl) | (simp [*, errW_none, errW_some] <;> rfl), by repeat (first | (with_reducible first | exact HB.out | apply below_alloc | apply pw_below_drewN | apply below_drew1) | exact HB.out)⟩
                  · rw [if_neg c15] at H
                    exact absurd H (by simp)
                · rw [if_neg c14] at H
                  have c14b0 : decide (x11_2 < (t130.size : Int)) = false := decide_eq_false c14
                  clear c14
                  by_cases c22 : t129 = true
                  · subst c22
                    have H1 : (if ((t134 == 3) == false) = true then (if x11_2 = (a0.size : Int) then (some ((t134 == 2) == false)) else (some ((t134 == 2) == false))) else (some false)) = some r := by rw [if_pos rfl] at H; exact H
                    clear H
                    have H := H1
                    clear H1
                    by_cases c23 : ((t134 == 3) == false) = true
                    · rw [if_pos c23] at H
                      have c23b0 : ((t134 == 3) == false) = true := c23
                      (try (have c23b1 : decide ((t134 == 3) = false) = true := by simpa using c23))
                      (try (have c23b2 : ((t134 == 3) == false) = true := by simpa using c23))
                      clear c23
                      by_cases c24 : x11_2 = (a0.size : Int)
                      · rw [if_pos c24] at H
                        have c24b0 : (x11_2 == (a0.size : Int)) = true := beq_iff_eq.mpr c24
                        have c24b1 : (x11_2 != (a0.size : Int)) = false := bne_eq_false_iff_eq.mpr c24
                        clear c24
                        obtain rfl := Option.some.inj H
                        go_wp2
                        repeat (go_quiet (fail); try go_wp2)
                        go_ret
                        exact ⟨by first | rfl | (simp [errW_none, errW_some] <;> rfl) | (simp [*, errW_none, errW_some] <;> rfl), by repeat (first | (with_reducible first | exact HB.out | apply below_alloc | apply pw_below_drewN | apply below_drew1) | exact HB.out)⟩
                      · rw [if_neg c24] at H
                        have c24b0 : (x11_2 == (a0.size : Int)) = false := beq_eq_false_iff_ne.mpr c24
                        have c24b1 : (x11_2 != (a0.size : Int)) = true := bne_iff_ne.mpr c24
                        obtain rfl := Option.some.inj H
                        go_wp2
                        repeat (go_quiet (fail); try go_wp2)
                        go_ret
                        exact ⟨by first | rfl | (simp [errW_none, errW_some] <;> rfl) | (simp [*, errW_none, errW_some] <;> rfl), by repeat (first | (with_reducible first | exact HB.out | apply below_alloc | apply pw_below_drewN | apply below_drew1) | exact HB.out)⟩
                    · rw [if_neg c23] at H
                      have c23b0 : ((t134 == 3) == false) = false := by simpa using c23
                      (try (have c23b1 : decide ((t134 == 3) = false) = false := by simpa using c23))
                      (try (have c23b2 : ((t134 == 3) == false) = false := by simpa using c23))
                      (try (have c23b3 : ¬ ((t134 == 3) = false) := by simpa using c23))
                      clear c23
                      obtain rfl := Option.some.inj H
                      go_wp2
                      repeat (go_quiet (fail); try go_wp2)
                      go_ret
                      exact ⟨by first | rfl | (simp [errW_none, errW_some] <;> rfl) | (simp [*, errW_none, errW_some] <;> rfl), by repeat (first | (with_reducible first | exact HB.out | apply below_alloc | apply pw_below_drewN | apply below_drew1) | exact HB.out)⟩
                  · replace c22 := Bool.eq_false_iff.mpr c22
                    subst c22
                    have H1 : (some false) = some r := by rw [if_neg (show ¬ (false = true) by decide)] at H; exact H
                    clear H
                    have H := H1
                    clear H1
                    obtain rfl := Option.some.inj H
                    go_wp2
                    repeat (go_quiet (fail); try go_wp2)
                    go_ret
                    exact ⟨by first | rfl | (simp [errW_none, errW_some] <;> rfl) | (simp [*, errW_none, errW_some] <;> rfl), by repeat (first | (with_reducible first | exact HB.out | apply below_alloc | apply pw_below_drewN | apply below_drew1) | exact HB.out)⟩
              · rw [if_neg c13] at H
                have c13b0 : decide (x11_2 < (a0.size : Int)) = false := decide_eq_false c13
                clear c13
                by_cases c25 : t129 = true
                · subst c25
                  have H1 : (if ((t134 == 3) == false) = true then (if x11_2 = (a0.size : Int) then (some ((t134 == 2) == (decide (x11_2 < (t130.size : Int))))) else (some ((t134 == 2) == false))) else (some false)) = some r := by rw [if_pos rfl] at H; exact H
                  clear H
                  have H := H1
                  clear H1
                  by_cases c26 : ((t134 == 3) == false) = true
                  · rw [if_pos c26] at H
                    have c26b0 : ((t134 == 3) == false) = true := c26
                    (try (have c26b1 : decide ((t134 == 3) = false) = true := by simpa using c26))
                    (try (have c26b2 : ((t134 == 3) == false) = true := by simpa using c26))
                    clear c26
                    by_cases c27 : x11_2 = (a0.size : Int)
                    · rw [if_pos c27] at H
                      have c27b0 : (x11_2 == (a0.size : Int)) = true := beq_iff_eq.mpr c27
                      have c27b1 : (x11_2 != (a0.size : Int)) = false := bne_eq_false_iff_eq.mpr c27
                      clear c27
                      obtain rfl := Option.some.inj H
                      go_wp2
                      repeat (go_quiet (fail); try go_wp2)
                      go_ret
                      exact ⟨by first | rfl | (simp [errW_none, errW_some] <;> rfl) | (simp [*, errW_none, errW_some] <;> rfl), by repeat (first | (with_reducible first | exact HB.out | apply below_alloc | apply pw_below_drewN | apply below_drew1) | exact HB.out)⟩
                    · rw [if_neg c27] at H
                      have c27b0 : (x11_2 == (a0.size : Int)) = false := beq_eq_false_iff_ne.mpr c27
                      have c27b1 : (x11_2 != (a0.size : Int)) = true := bne_iff_ne.mpr c27
                      obtain rfl := Option.some.inj H
                      go_wp2
                      repeat (go_quiet (fail); try go_wp2)
                      go_ret
                      exact ⟨by first | rfl | (simp [errW_none, errW_some] <;> rfl) | (simp [*, errW_none, errW_some] <;> rfl), by repeat (first | (with_reducible first | exact HB.out | apply below_alloc | apply pw_below_drewN | apply below_drew1) | exact HB.out)⟩
                  · rw [if_neg c26] at H
                    have c26b0 : ((t134 == 3) == false) = false := by simpa using c26
                    (try (have c26b1 : decide ((t134 == 3) = false) = false := by simpa using c26))
                    (try (have c26b2 : ((t134 == 3) == false) = false := by simpa using c26))
                    (try (have c26b3 : ¬ ((t134 == 3) = false) := by simpa using c26))
                    clear c26
                    obtain rfl := Option.some.inj H
                    go_wp2
                    repeat (go_quiet (fail); try go_wp2)
                    go_ret
                    exact ⟨by first | rfl | (simp [errW_none, errW_some] <;> rfl) | (simp [*, errW_none, errW_some] <;> rfl), by repeat (first | (with_reducible first | exact HB.out | apply below_alloc | apply pw_below_drewN | apply below_drew1) | exact HB.out)⟩
                · replace c25 := Bool.eq_false_iff.mpr c25
                  subst c25
                  have H1 : (some false) = some r := by rw [if_neg (show ¬ (false = true) by decide)] at H; exact H
                  clear H
                  have H := H1
                  clear H1
                  obtain rfl := Option.some.inj H
                  go_wp2
                  repeat (go_quiet (fail); try go_wp2)
                  go_ret
                  exact ⟨by first | rfl | (simp [errW_none, errW_some] <;> rfl) | (simp [*, errW_none, errW_some] <;> rfl), by repeat (first | (with_reducible first | exact HB.out | apply below_alloc | apply pw_below_drewN | apply below_drew1) | exact HB.out)⟩
  · rw [if_neg c5] at H
    exact absurd H (by simp)


end Go.Proofs.YtdalcbhnnfabhaaDoor.F
