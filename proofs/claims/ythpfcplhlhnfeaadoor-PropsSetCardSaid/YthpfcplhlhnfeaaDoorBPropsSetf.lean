/- A property that was set is got; all others are as they were; the head stays right, for every input. -/
import Derived.Lib.LaidTab
import Derived.Deep.DeepHandedRow
import Derived.Test.YthpfcplhlhnfeaaDoorCards
import Derived.Test.YthpfcplhlhnfeaaDoorTie
import Derived.WalkKit
import Derived.ProofKit
import Derived.OpenShut
import Derived.SizedLaws
import Derived.Carry
import Derived.SevenTiedAt
import Derived.Test.YthpfcplhlhnfeaaDoorBPropsSeta
import Derived.Test.YthpfcplhlhnfeaaDoorBPropsSetb
import Derived.Test.YthpfcplhlhnfeaaDoorBPropsSetc
import Derived.Test.YthpfcplhlhnfeaaDoorBPropsSetd
import Derived.Test.YthpfcplhlhnfeaaDoorBPropsSete
namespace Go.Proofs.YthpfcplhlhnfeaaDoor.F
open Go.RowKit Go.Proofs.YthpfcplhlhnfeaaDoorW.PrintWords Go.Proofs.YthpfcplhlhnfeaaDoorW.PrintLast Go.Proofs.YthpfcplhlhnfeaaDoorW.PrintMore
set_option linter.unusedVariables false
set_option linter.unusedSimpArgs false
set_option maxRecDepth 4000
attribute [local go_sem high] eqA42
theorem val2_cells {W : World} {B : Nat} {t : TypeId} {c0 c1 : Value} (h : W.heap[B]? = some (.cells #[c0, c1] t (0, 0))) : W.cell? ⟨B, 0, none⟩ = some c0 ∧ W.cell? ⟨B, 1, none⟩ = some c1 := ⟨(blk_cell h 0).trans rfl, (blk_cell h 1).trans rfl⟩
set_option maxHeartbeats 4000000 in
set_option maxRecDepth 100000 in
theorem set_walk (a b fl : Int) (A : Option Addr) (c : Nat) (l : List S42) (i : Int) (v0 : Int) (v1 : ByteArray) (k : Int) (w : World) (hg : Laid w) (hr : Kd.C k42 w A l.length l) (hc : l.length ≤ c)
    (a1 f1 : Int) (l1 : List S42) (e1 : Int) (hS1 : props_Set.f a b fl l i v0 v1 = some (a1, b, f1, l1, e1))
    (g1 : Int) (g2 : ByteArray) (g3 : Bool) (hG1 : props_Get.f a1 b f1 l1 i = some (g1, g2, g3))
    (p1 : Int) (p2 : ByteArray) (p3 : Bool) (hG2 : props_Get.f a b fl l k = some (p1, p2, p3))
    (q1 : Int) (q2 : ByteArray) (q3 : Bool) (hG3 : props_Get.f a1 b f1 l1 k = some (q1, q2, q3))
    (KR : Nat) (rt : Int) (hRt : props_Right.f KR a1 b f1 l1 = some rt)
    (K : Nat) (sm : Bool) (hSm : interchangeref07_Same.f K a1 b f1 l1 a b fl l = some sm)
    (hbad : ¬ e1 = 0 → sm = true) (hgood : e1 = 0 → rt = 0 ∧ g1 = v0 ∧ g2 = v1 ∧ g3 = true ∧ (k = i ∨ (q1 = p1 ∧ q2 = p2 ∧ q3 = p3))) :
    Calls Tryd.prog 8 #[.agg #[.int .i64 a, .int .u64 b, .int .u64 fl, .slice A l.length c, .int .i64 i, .int .u64 v0, .string v1, .int .i64 k]] w fun e w' => e = .returned (.bool true) ∧ Below w.heap.size w w' := by
  have HG := Aside0.mk hg
  have HR := Aside0.mk hr
  have HS1 := Aside0.mk hS1
  have HG1 := Aside0.mk hG1
  have HG2 := Aside0.mk hG2
  have HG3 := Aside0.mk hG3
  have HRT := Aside0.mk hRt
  have HSM := Aside0.mk hSm
  have HBAD := Aside0.mk hbad
  have HGOOD := Aside0.mk hgood
  clear hg hr hS1 hG1 hG2 hG3 hRt hSm hbad hgood
  have hu25 := Tryd.underlying25
  have hu42 := Tryd.underlying42
  have hu50 := Tryd.underlying50
  have bl0 : Below w.heap.size w (((w.alloc (.cells #[.int .i64 a, .int .u64 b, .int .u64 fl, .slice A l.length c, .int .i64 i, .int .u64 v0, .string v1, .int .i64 k] 50)).alloc (.cells #[.int .i64 a, .int .u64 b, .int .u64 fl, .slice A l.length c] 25)).alloc (.cells #[.int .u64 v0, .string v1] 42)) := (((Below.refl _ w).alloc (Nat.le_refl _) _).alloc (by simp) _).alloc (by simp; omega) _
  have g0H : (((w.alloc (.cells #[.int .i64 a, .int .u64 b, .int .u64 fl, .slice A l.length c, .int .i64 i, .int .u64 v0, .string v1, .int .i64 k] 50)).alloc (.cells #[.int .i64 a, .int .u64 b, .int .u64 fl, .slice A l.length c] 25)).alloc (.cells #[.int .u64 v0, .string v1] 42)).heap[w.heap.size + 1]? = some (.cells #[.int .i64 a, .int .u64 b, .int .u64 fl, .slice A l.length c] 25 (0, 0)) := by
    have h := blk_new (w.alloc (.cells #[.int .i64 a, .int .u64 b, .int .u64 fl, .slice A l.length c, .int .i64 i, .int .u64 v0, .string v1, .int .i64 k] 50)) (.cells #[.int .i64 a, .int .u64 b, .int .u64 fl, .slice A l.length c] 25)
    rw [show (w.alloc (.cells #[.int .i64 a, .int .u64 b, .int .u64 fl, .slice A l.length c, .int .i64 i, .int .u64 v0, .string v1, .int .i64 k] 50)).heap.size = w.heap.size + 1 by simp] at h
    exact blk_alloc h _
  have g0V : (((w.alloc (.cells #[.int .i64 a, .int .u64 b, .int .u64 fl, .slice A l.length c, .int .i64 i, .int .u64 v0, .string v1, .int .i64 k] 50)).alloc (.cells #[.int .i64 a, .int .u64 b, .int .u64 fl, .slice A l.length c] 25)).alloc (.cells #[.int .u64 v0, .string v1] 42)).heap[w.heap.size + 1 + 1]? = some (.cells #[.int .u64 v0, .string v1] 42 (0, 0)) := by
    have h := blk_new ((w.alloc (.cells #[.int .i64 a, .int .u64 b, .int .u64 fl, .slice A l.length c, .int .i64 i, .int .u64 v0, .string v1, .int .i64 k] 50)).alloc (.cells #[.int .i64 a, .int .u64 b, .int .u64 fl, .slice A l.length c] 25)) (.cells #[.int .u64 v0, .string v1] 42)
    rw [show ((w.alloc (.cells #[.int .i64 a, .int .u64 b, .int .u64 fl, .slice A l.length c, .int .i64 i, .int .u64 v0, .string v1, .int .i64 k] 50)).alloc (.cells #[.int .i64 a, .int .u64 b, .int .u64 fl, .slice A l.length c] 25)).heap.size = w.heap.size + 1 + 1 by simp] at h
    exact h
  obtain ⟨⟨c0H_0, c0H_1, c0H_2, c0H_3⟩, c0H_f0, c0H_f1, c0H_f2, c0H_f3⟩ := head4_cells g0H
  obtain ⟨c0V_0, c0V_1⟩ := val2_cells g0V
  go_enter Tryd.func8, Tryd.ntmps8
  go_upto_region 7 with (first | (go_at_call 10; (with_reducible refine (interchangelaw07_shown.calls true _ ?lg shown_t).mono ?_); (case lg => exact HG.out.below bl0); rintro e w5 ⟨rfl, hb1⟩; have h1H := blk_below g0H hb1; have h1V := blk_below g0V hb1; have k1 := bl0.trans (hb1.mono bl0.size); clear c0H_0 c0H_1 c0H_2 c0H_3 c0H_f0 c0H_f1 c0H_f2 c0H_f3 c0V_0 c0V_1; have g1H := h1H; have g1V := h1V; have bl1 := k1; obtain ⟨⟨c1H_0, c1H_1, c1H_2, c1H_3⟩, c1H_f0, c1H_f1, c1H_f2, c1H_f3⟩ := head4_cells g1H; obtain ⟨c1V_0, c1V_1⟩ := val2_cells g1V) | (go_at_call 20; (with_reducible refine (props_Set.calls a b fl A c l i v0 v1 a1 b f1 l1 e1 w5 ?lg ?side1 hc HS1.out).mono ?_); (case lg => exact HG.out.below bl1); (case side1 => exact Kd.C_below HR.out bl1); rintro e w6 ⟨x1, rfl, hrs1, hb2⟩; obtain ⟨A1, c1, rfl, hc1, hr1⟩ := hrs1.reads (Kd.C_below HR.out bl1) hc hb2; have m1X := Below.refl w5.heap.size w5; have h2H := blk_below g1H hb2; have h2V := blk_below g1V hb2; have k2 := bl1.trans (hb2.mono bl1.size); clear c1H_0 c1H_1 c1H_2 c1H_3 c1H_f0 c1H_f1 c1H_f2 c1H_f3 c1V_0 c1V_1; have z2H := blk_lt h2H; have i2H : ¬ w.heap.size + 1 = w6.heap.size := (by omega); have z2V := blk_lt h2V; have i2V : ¬ w.heap.size + 1 + 1 = w6.heap.size := (by omega); have g2H := blk_alloc h2H (.cells #[.int .i64 a1, .int .u64 b, .int .u64 f1, .slice A1 l1.length c1] 25); have g2V := blk_alloc h2V (.cells #[.int .i64 a1, .int .u64 b, .int .u64 f1, .slice A1 l1.length c1] 25); have g2X := blk_new w6 (.cells #[.int .i64 a1, .int .u64 b, .int .u64 f1, .slice A1 l1.length c1] 25); have bl2 := k2.alloc k2.size (.cells #[.int .i64 a1, .int .u64 b, .int .u64 f1, .slice A1 l1.length c1] 25); obtain ⟨⟨c2H_0, c2H_1, c2H_2, c2H_3⟩, c2H_f0, c2H_f1, c2H_f2, c2H_f3⟩ := head4_cells g2H; obtain ⟨c2V_0, c2V_1⟩ := val2_cells g2V; obtain ⟨⟨c2X_0, c2X_1, c2X_2, c2X_3⟩, c2X_f0, c2X_f1, c2X_f2, c2X_f3⟩ := head4_cells g2X; have HX := Aside0.mk (Kd.C_below hr1 ((Below.refl w6.heap.size w6).alloc (Nat.le_refl _) (.cells #[.int .i64 a1, .int .u64 b, .int .u64 f1, .slice A1 l1.length c1] 25))); have m2X := Below.refl (w6.alloc (.cells #[.int .i64 a1, .int .u64 b, .int .u64 f1, .slice A1 l1.length c1] 25)).heap.size (w6.alloc (.cells #[.int .i64 a1, .int .u64 b, .int .u64 f1, .slice A1 l1.length c1] 25)); clear hr1 hrs1))
  by_cases z1 : e1 = 0
  rotate_left
  · have d1 : (e1 != 0) = true := bne_iff_ne.2 z1
    obtain rfl : sm = true := HBAD.out z1
    clear z1
    go_wp2_with (first | (go_at_call 13; (with_reducible refine (interchangeref07_Same.calls K a1 b f1 A1 c1 l1 a b fl A c l true _ ?side1 hc1 ?side2 hc HSM.out).mono ?_); (case side1 => exact Kd.C_below HX.out (by first | exact m2X | exact below_drew m2X)); (case side2 => exact Kd.C_below HR.out (by first | exact bl2 | exact below_drew bl2)); rintro e w7 ⟨rfl, hb3⟩; have h3H := blk_below g2H hb3; have h3V := blk_below g2V hb3; have h3X := blk_below g2X hb3; have k3 := bl2.trans (hb3.mono bl2.size); clear c2H_0 c2H_1 c2H_2 c2H_3 c2H_f0 c2H_f1 c2H_f2 c2H_f3 c2V_0 c2V_1 c2X_0 c2X_1 c2X_2 c2X_3 c2X_f0 c2X_f1 c2X_f2 c2X_f3; have g3H := h3H; have g3V := h3V; have g3X := h3X; have bl3 := k3; obtain ⟨⟨c3H_0, c3H_1, c3H_2, c3H_3⟩, c3H_f0, c3H_f1, c3H_f2, c3H_f3⟩ := head4_cells g3H; obtain ⟨c3V_0, c3V_1⟩ := val2_cells g3V; obtain ⟨⟨c3X_0, c3X_1, c3X_2, c3X_3⟩, c3X_f0, c3X_f1, c3X_f2, c3X_f3⟩ := head4_cells g3X))
    go_ret
    exact ⟨by first | rfl | (simp [*] <;> rfl), by first | exact bl3 | exact below_drew bl3 | exact pw_below_drewN bl3 _ | (repeat (first | exact bl3 | apply below_drew1 | apply pw_below_drewN))⟩
  have d1 : (e1 != 0) = false := by rw [z1]; rfl
  obtain ⟨rfl, rfl, rfl, rfl, hki⟩ := HGOOD.out z1
  clear z1 HGOOD HBAD
  by_cases zi : k = i
  · have di : (k == i) = true := beq_iff_eq.2 zi
    clear hki zi
    go_wp2_with (first | (go_at_call 18; (with_reducible refine (props_Get.calls a1 b f1 A1 c1 l1 i g1 g2 true _ ?lg ?side1 hc1 HG1.out).mono ?_); (case lg => exact HG.out.below bl2); (case side1 => exact HX.out); rintro e w7 ⟨rfl, hb3⟩; have h3H := blk_below g2H hb3; have h3V := blk_below g2V hb3; have h3X := blk_below g2X hb3; have k3 := bl2.trans (hb3.mono bl2.size); have q3X := m2X.trans (hb3.mono m2X.size); clear c2H_0 c2H_1 c2H_2 c2H_3 c2H_f0 c2H_f1 c2H_f2 c2H_f3 c2V_0 c2V_1 c2X_0 c2X_1 c2X_2 c2X_3 c2X_f0 c2X_f1 c2X_f2 c2X_f3; have z3H := blk_lt h3H; have i3H : ¬ w.heap.size + 1 = w7.heap.size := (by omega); have z3V := blk_lt h3V; have i3V : ¬ w.heap.size + 1 + 1 = w7.heap.size := (by omega); have z3X := blk_lt h3X; have i3X : ¬ w6.heap.size = w7.heap.size := (by omega); have g3H := blk_alloc h3H (.cells #[.int .u64 g1, .string g2] 42); have g3V := blk_alloc h3V (.cells #[.int .u64 g1, .string g2] 42); have g3X := blk_alloc h3X (.cells #[.int .u64 g1, .string g2] 42); have g3P := blk_new w7 (.cells #[.int .u64 g1, .string g2] 42); have bl3 := k3.alloc k3.size (.cells #[.int .u64 g1, .string g2] 42); have m3X := q3X.alloc q3X.size (.cells #[.int .u64 g1, .string g2] 42); obtain ⟨⟨c3H_0, c3H_1, c3H_2, c3H_3⟩, c3H_f0, c3H_f1, c3H_f2, c3H_f3⟩ := head4_cells g3H; obtain ⟨c3V_0, c3V_1⟩ := val2_cells g3V; obtain ⟨⟨c3X_0, c3X_1, c3X_2, c3X_3⟩, c3X_f0, c3X_f1, c3X_f2, c3X_f3⟩ := head4_cells g3X; obtain ⟨c3P_0, c3P_1⟩ := val2_cells g3P) | (go_at_call 18; (with_reducible refine (props_Get.calls a b fl A c l k p1 p2 p3 _ ?lg ?side1 hc HG2.out).mono ?_); (case lg => exact HG.out.below bl3); (case side1 => exact Kd.C_below HR.out bl3); rintro e w8 ⟨rfl, hb4⟩; have h4H := blk_below g3H hb4; have h4V := blk_below g3V hb4; have h4X := blk_below g3X hb4; have h4P := blk_below g3P hb4; have k4 := bl3.trans (hb4.mono bl3.size); have q4X := m3X.trans (hb4.mono m3X.size); clear c3H_0 c3H_1 c3H_2 c3H_3 c3H_f0 c3H_f1 c3H_f2 c3H_f3 c3V_0 c3V_1 c3X_0 c3X_1 c3X_2 c3X_3 c3X_f0 c3X_f1 c3X_f2 c3X_f3 c3P_0 c3P_1; have z4H := blk_lt h4H; have i4H : ¬ w.heap.size + 1 = w8.heap.size := (by omega); have z4V := blk_lt h4V; have i4V : ¬ w.heap.size + 1 + 1 = w8.heap.size := (by omega); have z4X := blk_lt h4X; have i4X : ¬ w6.heap.size = w8.heap.size := (by omega); have z4P := blk_lt h4P; have i4P : ¬ w7.heap.size = w8.heap.size := (by omega); have g4H := blk_alloc h4H (.cells #[.int .u64 p1, .string p2] 42); have g4V := blk_alloc h4V (.cells #[.int .u64 p1, .string p2] 42); have g4X := blk_alloc h4X (.cells #[.int .u64 p1, .string p2] 42); have g4P := blk_alloc h4P (.cells #[.int .u64 p1, .string p2] 42); have g4Q := blk_new w8 (.cells #[.int .u64 p1, .string p2] 42); have bl4 := k4.alloc k4.size (.cells #[.int .u64 p1, .string p2] 42); have m4X := q4X.alloc q4X.size (.cells #[.int .u64 p1, .string p2] 42); obtain ⟨⟨c4H_0, c4H_1, c4H_2, c4H_3⟩, c4H_f0, c4H_f1, c4H_f2, c4H_f3⟩ := head4_cells g4H; obtain ⟨c4V_0, c4V_1⟩ := val2_cells g4V; obtain ⟨⟨c4X_0, c4X_1, c4X_2, c4X_3⟩, c4X_f0, c4X_f1, c4X_f2, c4X_f3⟩ := head4_cells g4X; obtain ⟨c4P_0, c4P_1⟩ := val2_cells g4P; obtain ⟨c4Q_0, c4Q_1⟩ := val2_cells g4Q) | (go_at_call 18; (with_reducible refine (props_Get.calls a1 b f1 A1 c1 l1 k q1 q2 q3 _ ?lg ?side1 hc1 HG3.out).mono ?_); (case lg => exact HG.out.below bl4); (case side1 => exact Kd.C_below HX.out m4X); rintro e w9 ⟨rfl, hb5⟩; have h5H := blk_below g4H hb5; have h5V := blk_below g4V hb5; have h5X := blk_below g4X hb5; have h5P := blk_below g4P hb5; have h5Q := blk_below g4Q hb5; have k5 := bl4.trans (hb5.mono bl4.size); have q5X := m4X.trans (hb5.mono m4X.size); clear c4H_0 c4H_1 c4H_2 c4H_3 c4H_f0 c4H_f1 c4H_f2 c4H_f3 c4V_0 c4V_1 c4X_0 c4X_1 c4X_2 c4X_3 c4X_f0 c4X_f1 c4X_f2 c4X_f3 c4P_0 c4P_1 c4Q_0 c4Q_1; have z5H := blk_lt h5H; have i5H : ¬ w.heap.size + 1 = w9.heap.size := (by omega); have z5V := blk_lt h5V; have i5V : ¬ w.heap.size + 1 + 1 = w9.heap.size := (by omega); have z5X := blk_lt h5X; have i5X : ¬ w6.heap.size = w9.heap.size := (by omega); have z5P := blk_lt h5P; have i5P : ¬ w7.heap.size = w9.heap.size := (by omega); have z5Q := blk_lt h5Q; have i5Q : ¬ w8.heap.size = w9.heap.size := (by omega); have g5H := blk_alloc h5H (.cells #[.int .u64 q1, .string q2] 42); have g5V := blk_alloc h5V (.cells #[.int .u64 q1, .string q2] 42); have g5X := blk_alloc h5X (.cells #[.int .u64 q1, .string q2] 42); have g5P := blk_alloc h5P (.cells #[.int .u64 q1, .string q2] 42); have g5Q := blk_alloc h5Q (.cells #[.int .u64 q1, .string q2] 42); have g5R := blk_new w9 (.cells #[.int .u64 q1, .string q2] 42); have bl5 := k5.alloc k5.size (.cells #[.int .u64 q1, .string q2] 42); have m5X := q5X.alloc q5X.size (.cells #[.int .u64 q1, .string q2] 42); obtain ⟨⟨c5H_0, c5H_1, c5H_2, c5H_3⟩, c5H_f0, c5H_f1, c5H_f2, c5H_f3⟩ := head4_cells g5H; obtain ⟨c5V_0, c5V_1⟩ := val2_cells g5V; obtain ⟨⟨c5X_0, c5X_1, c5X_2, c5X_3⟩, c5X_f0, c5X_f1, c5X_f2, c5X_f3⟩ := head4_cells g5X; obtain ⟨c5P_0, c5P_1⟩ := val2_cells g5P; obtain ⟨c5Q_0, c5Q_1⟩ := val2_cells g5Q; obtain ⟨c5R_0, c5R_1⟩ := val2_cells g5R) | (go_at_call 14; (with_reducible refine (props_Right.calls KR a1 b f1 A1 c1 l1 0 _ ?lg ?side1 hc1 HRT.out).mono ?_); (case lg => exact HG.out.below (by first | exact bl5 | exact below_drew bl5 | exact pw_below_drewN bl5 _)); (case side1 => exact Kd.C_below HX.out (by first | exact m5X | exact below_drew m5X | exact pw_below_drewN m5X _)); rintro e w10 ⟨rfl, hb6⟩; have h6H := blk_below g5H hb6; have h6V := blk_below g5V hb6; have h6X := blk_below g5X hb6; have h6P := blk_below g5P hb6; have h6Q := blk_below g5Q hb6; have h6R := blk_below g5R hb6; have k6 := bl5.trans (hb6.mono bl5.size); clear c5H_0 c5H_1 c5H_2 c5H_3 c5H_f0 c5H_f1 c5H_f2 c5H_f3 c5V_0 c5V_1 c5X_0 c5X_1 c5X_2 c5X_3 c5X_f0 c5X_f1 c5X_f2 c5X_f3 c5P_0 c5P_1 c5Q_0 c5Q_1 c5R_0 c5R_1; have g6H := h6H; have g6V := h6V; have g6X := h6X; have g6P := h6P; have g6Q := h6Q; have g6R := h6R; have bl6 := k6; obtain ⟨⟨c6H_0, c6H_1, c6H_2, c6H_3⟩, c6H_f0, c6H_f1, c6H_f2, c6H_f3⟩ := head4_cells g6H; obtain ⟨c6V_0, c6V_1⟩ := val2_cells g6V; obtain ⟨⟨c6X_0, c6X_1, c6X_2, c6X_3⟩, c6X_f0, c6X_f1, c6X_f2, c6X_f3⟩ := head4_cells g6X; obtain ⟨c6P_0, c6P_1⟩ := val2_cells g6P; obtain ⟨c6Q_0, c6Q_1⟩ := val2_cells g6Q; obtain ⟨c6R_0, c6R_1⟩ := val2_cells g6R))
    go_ret
    exact ⟨by first | rfl | (simp [*] <;> rfl), by first | exact bl6 | exact below_drew bl6 | exact pw_below_drewN bl6 _ | (repeat (first | exact bl6 | apply below_drew1 | apply pw_below_drewN))⟩
  · have di : (k == i) = false := beq_eq_false_iff_ne.2 zi
    obtain ⟨rfl, rfl, rfl⟩ := hki.elim (fun h => absurd h zi) id
    clear hki zi
    go_wp2_with (first | (go_at_call 18; (with_reducible refine (props_Get.calls a1 b f1 A1 c1 l1 i g1 g2 true _ ?lg ?side1 hc1 HG1.out).mono ?_); (case lg => exact HG.out.below bl2); (case side1 => exact HX.out); rintro e w7 ⟨rfl, hb3⟩; have h3H := blk_below g2H hb3; have h3V := blk_below g2V hb3; have h3X := blk_below g2X hb3; have k3 := bl2.trans (hb3.mono bl2.size); have q3X := m2X.trans (hb3.mono m2X.size); clear c2H_0 c2H_1 c2H_2 c2H_3 c2H_f0 c2H_f1 c2H_f2 c2H_f3 c2V_0 c2V_1 c2X_0 c2X_1 c2X_2 c2X_3 c2X_f0 c2X_f1 c2X_f2 c2X_f3; have z3H := blk_lt h3H; have i3H : ¬ w.heap.size + 1 = w7.heap.size := (by omega); have z3V := blk_lt h3V; have i3V : ¬ w.heap.size + 1 + 1 = w7.heap.size := (by omega); have z3X := blk_lt h3X; have i3X : ¬ w6.heap.size = w7.heap.size := (by omega); have g3H := blk_alloc h3H (.cells #[.int .u64 g1, .string g2] 42); have g3V := blk_alloc h3V (.cells #[.int .u64 g1, .string g2] 42); have g3X := blk_alloc h3X (.cells #[.int .u64 g1, .string g2] 42); have g3P := blk_new w7 (.cells #[.int .u64 g1, .string g2] 42); have bl3 := k3.alloc k3.size (.cells #[.int .u64 g1, .string g2] 42); have m3X := q3X.alloc q3X.size (.cells #[.int .u64 g1, .string g2] 42); obtain ⟨⟨c3H_0, c3H_1, c3H_2, c3H_3⟩, c3H_f0, c3H_f1, c3H_f2, c3H_f3⟩ := head4_cells g3H; obtain ⟨c3V_0, c3V_1⟩ := val2_cells g3V; obtain ⟨⟨c3X_0, c3X_1, c3X_2, c3X_3⟩, c3X_f0, c3X_f1, c3X_f2, c3X_f3⟩ := head4_cells g3X; obtain ⟨c3P_0, c3P_1⟩ := val2_cells g3P) | (go_at_call 18; (with_reducible refine (props_Get.calls a b fl A c l k q1 q2 q3 _ ?lg ?side1 hc HG2.out).mono ?_); (case lg => exact HG.out.below bl3); (case side1 => exact Kd.C_below HR.out bl3); rintro e w8 ⟨rfl, hb4⟩; have h4H := blk_below g3H hb4; have h4V := blk_below g3V hb4; have h4X := blk_below g3X hb4; have h4P := blk_below g3P hb4; have k4 := bl3.trans (hb4.mono bl3.size); have q4X := m3X.trans (hb4.mono m3X.size); clear c3H_0 c3H_1 c3H_2 c3H_3 c3H_f0 c3H_f1 c3H_f2 c3H_f3 c3V_0 c3V_1 c3X_0 c3X_1 c3X_2 c3X_3 c3X_f0 c3X_f1 c3X_f2 c3X_f3 c3P_0 c3P_1; have z4H := blk_lt h4H; have i4H : ¬ w.heap.size + 1 = w8.heap.size := (by omega); have z4V := blk_lt h4V; have i4V : ¬ w.heap.size + 1 + 1 = w8.heap.size := (by omega); have z4X := blk_lt h4X; have i4X : ¬ w6.heap.size = w8.heap.size := (by omega); have z4P := blk_lt h4P; have i4P : ¬ w7.heap.size = w8.heap.size := (by omega); have g4H := blk_alloc h4H (.cells #[.int .u64 q1, .string q2] 42); have g4V := blk_alloc h4V (.cells #[.int .u64 q1, .string q2] 42); have g4X := blk_alloc h4X (.cells #[.int .u64 q1, .string q2] 42); have g4P := blk_alloc h4P (.cells #[.int .u64 q1, .string q2] 42); have g4Q := blk_new w8 (.cells #[.int .u64 q1, .string q2] 42); have bl4 := k4.alloc k4.size (.cells #[.int .u64 q1, .string q2] 42); have m4X := q4X.alloc q4X.size (.cells #[.int .u64 q1, .string q2] 42); obtain ⟨⟨c4H_0, c4H_1, c4H_2, c4H_3⟩, c4H_f0, c4H_f1, c4H_f2, c4H_f3⟩ := head4_cells g4H; obtain ⟨c4V_0, c4V_1⟩ := val2_cells g4V; obtain ⟨⟨c4X_0, c4X_1, c4X_2, c4X_3⟩, c4X_f0, c4X_f1, c4X_f2, c4X_f3⟩ := head4_cells g4X; obtain ⟨c4P_0, c4P_1⟩ := val2_cells g4P; obtain ⟨c4Q_0, c4Q_1⟩ := val2_cells g4Q) | (go_at_call 18; (with_reducible refine (props_Get.calls a1 b f1 A1 c1 l1 k q1 q2 q3 _ ?lg ?side1 hc1 HG3.out).mono ?_); (case lg => exact HG.out.below bl4); (case side1 => exact Kd.C_below HX.out m4X); rintro e w9 ⟨rfl, hb5⟩; have h5H := blk_below g4H hb5; have h5V := blk_below g4V hb5; have h5X := blk_below g4X hb5; have h5P := blk_below g4P hb5; have h5Q := blk_below g4Q hb5; have k5 := bl4.trans (hb5.mono bl4.size); have q5X := m4X.trans (hb5.mono m4X.size); clear c4H_0 c4H_1 c4H_2 c4H_3 c4H_f0 c4H_f1 c4H_f2 c4H_f3 c4V_0 c4V_1 c4X_0 c4X_1 c4X_2 c4X_3 c4X_f0 c4X_f1 c4X_f2 c4X_f3 c4P_0 c4P_1 c4Q_0 c4Q_1; have z5H := blk_lt h5H; have i5H : ¬ w.heap.size + 1 = w9.heap.size := (by omega); have z5V := blk_lt h5V; have i5V : ¬ w.heap.size + 1 + 1 = w9.heap.size := (by omega); have z5X := blk_lt h5X; have i5X : ¬ w6.heap.size = w9.heap.size := (by omega); have z5P := blk_lt h5P; have i5P : ¬ w7.heap.size = w9.heap.size := (by omega); have z5Q := blk_lt h5Q; have i5Q : ¬ w8.heap.size = w9.heap.size := (by omega); have g5H := blk_alloc h5H (.cells #[.int .u64 q1, .string q2] 42); have g5V := blk_alloc h5V (.cells #[.int .u64 q1, .string q2] 42); have g5X := blk_alloc h5X (.cells #[.int .u64 q1, .string q2] 42); have g5P := blk_alloc h5P (.cells #[.int .u64 q1, .string q2] 42); have g5Q := blk_alloc h5Q (.cells #[.int .u64 q1, .string q2] 42); have g5R := blk_new w9 (.cells #[.int .u64 q1, .string q2] 42); have bl5 := k5.alloc k5.size (.cells #[.int .u64 q1, .string q2] 42); have m5X := q5X.alloc q5X.size (.cells #[.int .u64 q1, .string q2] 42); obtain ⟨⟨c5H_0, c5H_1, c5H_2, c5H_3⟩, c5H_f0, c5H_f1, c5H_f2, c5H_f3⟩ := head4_cells g5H; obtain ⟨c5V_0, c5V_1⟩ := val2_cells g5V; obtain ⟨⟨c5X_0, c5X_1, c5X_2, c5X_3⟩, c5X_f0, c5X_f1, c5X_f2, c5X_f3⟩ := head4_cells g5X; obtain ⟨c5P_0, c5P_1⟩ := val2_cells g5P; obtain ⟨c5Q_0, c5Q_1⟩ := val2_cells g5Q; obtain ⟨c5R_0, c5R_1⟩ := val2_cells g5R) | (go_at_call 14; (with_reducible refine (props_Right.calls KR a1 b f1 A1 c1 l1 0 _ ?lg ?side1 hc1 HRT.out).mono ?_); (case lg => exact HG.out.below (by first | exact bl5 | exact below_drew bl5 | exact pw_below_drewN bl5 _)); (case side1 => exact Kd.C_below HX.out (by first | exact m5X | exact below_drew m5X | exact pw_below_drewN m5X _)); rintro e w10 ⟨rfl, hb6⟩; have h6H := blk_below g5H hb6; have h6V := blk_below g5V hb6; have h6X := blk_below g5X hb6; have h6P := blk_below g5P hb6; have h6Q := blk_below g5Q hb6; have h6R := blk_below g5R hb6; have k6 := bl5.trans (hb6.mono bl5.size); clear c5H_0 c5H_1 c5H_2 c5H_3 c5H_f0 c5H_f1 c5H_f2 c5H_f3 c5V_0 c5V_1 c5X_0 c5X_1 c5X_2 c5X_3 c5X_f0 c5X_f1 c5X_f2 c5X_f3 c5P_0 c5P_1 c5Q_0 c5Q_1 c5R_0 c5R_1; have g6H := h6H; have g6V := h6V; have g6X := h6X; have g6P := h6P; have g6Q := h6Q; have g6R := h6R; have bl6 := k6; obtain ⟨⟨c6H_0, c6H_1, c6H_2, c6H_3⟩, c6H_f0, c6H_f1, c6H_f2, c6H_f3⟩ := head4_cells g6H; obtain ⟨c6V_0, c6V_1⟩ := val2_cells g6V; obtain ⟨⟨c6X_0, c6X_1, c6X_2, c6X_3⟩, c6X_f0, c6X_f1, c6X_f2, c6X_f3⟩ := head4_cells g6X; obtain ⟨c6P_0, c6P_1⟩ := val2_cells g6P; obtain ⟨c6Q_0, c6Q_1⟩ := val2_cells g6Q; obtain ⟨c6R_0, c6R_1⟩ := val2_cells g6R))
    go_ret
    exact ⟨by first | rfl | (simp [*] <;> rfl), by first | exact bl6 | exact below_drew bl6 | exact pw_below_drewN bl6 _ | (repeat (first | exact bl6 | apply below_drew1 | apply pw_below_drewN))⟩
theorem set_size (a b fl : Int) (l : List S42) (i : Int) (v : S42) : (setR a b fl l i v).2.1 = b := by
  unfold setR
  split
  · rfl
  · split
    · rfl
    · rfl
theorem set_fin {a b fl : Int} {l : List S42} (ok : okH b fl l) {i : Int} {v : S42} (k : Int) : ∀ S1 : Int × Int × Int × List S42 × Int, setR a b fl l i v = S1 →
    (¬ S1.2.2.2.2 = 0 → sameB S1.1 b S1.2.2.1 S1.2.2.2.1 a b fl l = true) ∧ (S1.2.2.2.2 = 0 → RightR S1.1 b S1.2.2.1 S1.2.2.2.1 = 0 ∧ getR S1.1 b S1.2.2.1 S1.2.2.2.1 i = (v.f0, v.f1, true) ∧ (k = i ∨ getR S1.1 b S1.2.2.1 S1.2.2.2.1 k = getR a b fl l k)) := by
  intro S1 E
  constructor
  · intro h
    rw [← E] at h
    rw [set_bad h] at E
    rw [← E]
    exact sameB_refl _ _ _ _
  · intro h
    rw [← E] at h
    obtain ⟨n, rfl, hn, hR, hv, q⟩ := set_good h
    rw [q] at E
    subst E
    dsimp only
    refine ⟨set_right ok hR hn hv, ?_, ?_⟩
    · rw [set_get ok hR hn hv, if_pos rfl]
    · by_cases e : k = (n : Int)
      · exact .inl e
      · exact .inr (by rw [set_get ok hR hn hv, if_neg e])
def interchangelaw07_PropsSet.f (k : Nat) (a b fl : Int) (l : List S42) (i v0 : Int) (v1 : ByteArray) (j : Int) : Option Bool := if okH b fl l ∧ okV ⟨v0, v1⟩ then some true else none
theorem interchangelaw07_PropsSet.calls (k : Nat) (a b fl : Int) (A : Option Addr) (c : Nat) (l : List S42) (i v0 : Int) (v1 : ByteArray) (j : Int) (w : World) (hg : Laid w) (hr : Kd.C k42 w A l.length l) (hc : l.length ≤ c) (h : interchangelaw07_PropsSet.f k a b fl l i v0 v1 j = some true) :
    Calls Tryd.prog 8 #[.agg #[.int .i64 a, .int .u64 b, .int .u64 fl, .slice A l.length c, .int .i64 i, .int .u64 v0, .string v1, .int .i64 j]] w fun e w' => e = .returned (.bool true) ∧ Below w.heap.size w w' := by
  obtain ⟨ok, okv⟩ : okH b fl l ∧ okV ⟨v0, v1⟩ := by
    unfold interchangelaw07_PropsSet.f at h
    split at h
    · assumption
    · cases h
  have F := set_fin (a := a) ok (i := i) (v := ⟨v0, v1⟩) j _ rfl
  have o1 := setR_ok (a := a) ok (i := i) okv
  have f1 := Set_f (a := a) ok i okv
  have eb := set_size a b fl l i ⟨v0, v1⟩
  generalize setR a b fl l i ⟨v0, v1⟩ = S1 at *
  rw [eb] at o1
  have f1' : props_Set.f a b fl l i v0 v1 = some (S1.1, b, S1.2.2.1, S1.2.2.2.1, S1.2.2.2.2) := by rw [f1, ← eb]
  have fg1 := Get_f (a := S1.1) o1 i
  have fg2 := Get_f (a := a) ok j
  have fg3 := Get_f (a := S1.1) o1 j
  have fr := Right_k (k := 4) (by decide) S1.1 b S1.2.2.1 S1.2.2.2.1 o1
  have fs := Same_k (k := S1.2.2.2.1.length + 3) S1.1 b S1.2.2.1 S1.2.2.2.1 a b fl l (Nat.le_refl _) o1.2.2.1
  generalize getR S1.1 b S1.2.2.1 S1.2.2.2.1 i = G1 at fg1 F
  generalize getR a b fl l j = G2 at fg2 F
  generalize getR S1.1 b S1.2.2.1 S1.2.2.2.1 j = G3 at fg3 F
  refine set_walk a b fl A c l i v0 v1 j w hg hr hc S1.1 S1.2.2.1 S1.2.2.2.1 S1.2.2.2.2 f1' G1.1 G1.2.1 G1.2.2 fg1 G2.1 G2.2.1 G2.2.2 fg2 G3.1 G3.2.1 G3.2.2 fg3 _ _ fr _ _ fs F.1 ?_
  intro h1
  obtain ⟨x1, x2, x3⟩ := F.2 h1
  rw [x2]
  refine ⟨x1, rfl, rfl, rfl, x3.imp id fun e => ?_⟩
  rw [e]
  exact ⟨rfl, rfl, rfl⟩
theorem propsSet_pure (b0 : (Int × Int × Int × List S42) × Int × (Int × ByteArray) × Int) (g0 : ((Lit.int .i64 b0.1.1).wf = true ∧ (Lit.int .u64 b0.1.2.1).wf = true ∧ (Lit.int .u64 b0.1.2.2.1).wf = true ∧ (b0.1.2.2.2.length ≤ maxLen ∧ ∀ x ∈ b0.1.2.2.2, good_42 x)) ∧ (Lit.int .i64 b0.2.1).wf = true ∧ ((Lit.int .u64 b0.2.2.1.1).wf = true ∧ b0.2.2.1.2.size ≤ maxLen) ∧ (Lit.int .i64 b0.2.2.2).wf = true)
    (z0 : (True ∧ True ∧ True ∧ (b0.1.2.2.2.length * Tryd.prog.bytesOf 42 ≤ 140737488351232 ∧ ∀ x ∈ b0.1.2.2.2, sized_42 x)) ∧ True ∧ (True ∧ b0.2.2.1.2.size ≤ 140737488351232) ∧ True) : ∃ k : Nat, interchangelaw07_PropsSet.f k b0.1.1 b0.1.2.1 b0.1.2.2.1 b0.1.2.2.2 b0.2.1 b0.2.2.1.1 b0.2.2.1.2 b0.2.2.2 = some true := by
  obtain ⟨⟨a, b, fl, l⟩, i, ⟨v0, v1⟩, j⟩ := b0
  obtain ⟨⟨g1, g2, g3, g4⟩, g5, ⟨g6, g7⟩, g8⟩ := g0
  obtain ⟨⟨_, _, _, z4⟩, _, ⟨_, z7⟩, _⟩ := z0
  have ok : okH b fl l := vals_ok g2 g3 g4 z4
  have okv : okV ⟨v0, v1⟩ := val_ok g6 z7
  refine ⟨0, ?_⟩
  unfold interchangelaw07_PropsSet.f
  rw [if_pos ⟨ok, okv⟩]
end Go.Proofs.YthpfcplhlhnfeaaDoor.F
namespace Go.Proofs.YthpfcplhlhnfeaaDoor.F
open Go.RowKit Go.Proofs.YthpfcplhlhnfeaaDoorW.PrintWords Go.Proofs.YthpfcplhlhnfeaaDoorW.PrintLast Go.Proofs.YthpfcplhlhnfeaaDoorW.PrintMore
set_option linter.unusedVariables false
set_option linter.unusedSimpArgs false
set_option maxRecDepth 4000
theorem g_widths : Tryd.prog.globalNamed "interchange/num.widths" = some 0 := by kernel_rfl
theorem g_widths_type : (Tryd.prog.globals[0]?).map (·.type) = some 96 := by kernel_rfl
theorem cells_widths : Tryd.prog.cellsOf 96 = 4 := by kernel_rfl
theorem cells_int : Tryd.prog.cellsOf 3 = 1 := by kernel_rfl
theorem table_widths {W : World} (h : laidMetH Tryd.prog [("interchange/num.widths", Rows.laid_interchange_num_widths)] W) : Lib.TabIs Tryd.prog W "interchange/num.widths" .i64 [1, 2, 4, 8] :=
  Lib.tabIs_of_head (rest := []) g_widths g_widths_type Tryd.underlying96 Tryd.underlying3 cells_int cells_widths h
theorem laid_of {W : World} (h : laidMetH Tryd.prog [("interchange/num.widths", Rows.laid_interchange_num_widths)] W) : Laid W :=
  ⟨(table_widths h).cell g_widths 0 (by decide), (table_widths h).cell g_widths 1 (by decide), (table_widths h).cell g_widths 2 (by decide), (table_widths h).cell g_widths 3 (by decide)⟩
noncomputable def laid_world (os : Os) : World :=
  { World.holding Tryd.prog os ⟨#[], #[], []⟩ with heap := (World.holding Tryd.prog os ⟨#[], #[], []⟩).heap.modify 0 fun
      | .cells _ t frozen => .cells #[.int .i64 1, .int .i64 2, .int .i64 4, .int .i64 8] t frozen
      | o => o }
end Go.Proofs.YthpfcplhlhnfeaaDoor.F
namespace Go.Proofs.YthpfcplhlhnfeaaDoor.F
open Go.ChangeShapes Go.WideShapes Go.ChangeAt Go.RowKit Go.Proofs.YthpfcplhlhnfeaaDoorW.PrintWords Go.Proofs.YthpfcplhlhnfeaaDoorW.PrintLast
set_option linter.unusedVariables false
set_option linter.unusedSimpArgs false
set_option maxRecDepth 4000
set_option linter.unnecessarySimpa false

set_option maxHeartbeats 2000000 in
theorem propsSet_contract (H : Type) (enc : TypeId × Value → H) (W : World) (base : Nat) (args : Array Value) (ds gs : List (DataW H)) (before : List MemPlace)
    (hval0 : ∀ (j : Nat) t v, Tryd.f8.params[j]? = some t → args[j]? = some v → Value.okWide Tryd.prog W .any base t v)
    (hW : DataW.Whole enc Tryd.prog Tryd.f8.params.toList Rows.propsSetSpec.vars false W args.toList ds gs before) (hL : laidMetH Tryd.prog Rows.propsSetRow.laid W)
    (hsz : (DataW.weightsEach Tryd.prog (Tryd.f8.params.toList ++ (OpenSpec.ofChange Rows.propsSetSpec).bare.plain.varTypes Tryd.prog) (ds ++ gs)).all (· ≤ reachBytes) = true) :
    Calls Tryd.prog 8 args W fun e W' => ∃ v, e = .returned v ∧ Rows.propsSetSpec.post enc Tryd.prog Tryd.f8 false true false false W args v W' := by
  have hW' := hW
  obtain ⟨p, q, hA0, hV, rfl, hfz, hnd⟩ := hW
  have hA : DataW.TrodAll enc Tryd.prog W 0 (fun _ => true) true Tryd.f8.params.toList args.toList ds p := hA0
  have hval : ∀ (j : Nat) t v, Tryd.f8.params[j]? = some t → args[j]? = some v → Value.okWide Tryd.prog W .any base t v := hval0
  have hsz' : (DataW.weightsEach Tryd.prog (Tryd.f8.params.toList ++ []) (ds ++ gs)).all (· ≤ reachBytes) = true := hsz
  rw [Tryd.params8] at hA hval hsz'
  obtain ⟨v0, vs0, d0, ds0, p0, q0, hargs, rfl, rfl, h0, r0⟩ := trodAll_cons hA
  obtain ⟨rfl, rfl, rfl⟩ := trodAll_nil r0
  obtain rfl : args = #[v0] := by cases args; simp_all
  obtain ⟨rfl, rfl⟩ := trodVars_none hV
  have hg := laid_of hL
  have k0 := h0
  have lt0 : ∀ x ∈ p0, x.block < W.heap.size := by obtain ⟨m, hm⟩ := k0; exact DataW.trod_lt m _ _ _ hm
  obtain ⟨fuel0, hf0⟩ := h0
  obtain ⟨b0, e0, g0, z0, u0⟩ := (opened_struct4 (n0 := 4) (n1 := 1) (n2 := 2) (n3 := 1) Tryd.underlying50 (by kernel_rfl) (by kernel_rfl) rfl (opened_struct4 (n0 := 1) (n1 := 1) (n2 := 1) (n3 := 1) Tryd.underlying25 (by kernel_rfl) (by kernel_rfl) rfl (opened_int (k := .i64) Tryd.underlying3) (by kernel_rfl) rfl (opened_int (k := .u64) Tryd.underlying22) (by kernel_rfl) rfl (opened_int (k := .u64) Tryd.underlying22) (by kernel_rfl) rfl (opened_slice Tryd.underlying23 (by kernel_rfl) opened_42)) (by kernel_rfl) rfl (opened_int (k := .i64) Tryd.underlying3) (by kernel_rfl) rfl (opened_struct2 (n0 := 1) (n1 := 1) Tryd.underlying42 (by kernel_rfl) (by kernel_rfl) rfl (opened_int (k := .u64) Tryd.underlying22) (by kernel_rfl) rfl (opened_string Tryd.underlying9)) (by kernel_rfl) rfl (opened_int (k := .i64) Tryd.underlying3)).out enc W fuel0 _ _ hf0
  obtain ⟨c0_0_0, c0_0_1, c0_0_2, c0_0_3, eq0_0, e0_0_0, e0_0_1, e0_0_2, e0_0_3⟩ := e0
  obtain ⟨c0_1_0, c0_1_1, c0_1_2, c0_1_3, eq0_1, e0_1_0, e0_1_1, e0_1_2, e0_1_3⟩ := e0_0_0
  replace e0_1_0 : c0_1_0 = [.int .i64 b0.1.1] := e0_1_0
  subst e0_1_0
  replace e0_1_1 : c0_1_1 = [.int .u64 b0.1.2.1] := e0_1_1
  subst e0_1_1
  replace e0_1_2 : c0_1_2 = [.int .u64 b0.1.2.2.1] := e0_1_2
  subst e0_1_2
  obtain ⟨A0_1_3, cc0_1_3, rfl, hc0_1_3, hr0_1_3⟩ := e0_1_3
  (try subst eq0_1)
  replace e0_0_1 : c0_0_1 = [.int .i64 b0.2.1] := e0_0_1
  subst e0_0_1
  obtain ⟨c0_2_0, c0_2_1, eq0_2, e0_2_0, e0_2_1⟩ := e0_0_2
  replace e0_2_0 : c0_2_0 = [.int .u64 b0.2.2.1.1] := e0_2_0
  subst e0_2_0
  replace e0_2_1 : c0_2_1 = [.string b0.2.2.1.2] := e0_2_1
  subst e0_2_1
  (try subst eq0_2)
  replace e0_0_3 : c0_0_3 = [.int .i64 b0.2.2.2] := e0_0_3
  subst e0_0_3
  (try subst eq0_0)
  have hvv0 := shape_struct Tryd.underlying50 (hval 0 50 v0 rfl rfl) eq0_0
  simp only [List.cons_append, List.nil_append] at hvv0
  subst hvv0
  obtain ⟨k, hpure⟩ := propsSet_pure b0 g0 (z0 fun n hn => of_decide_eq_true (List.all_eq_true.1 hsz' n (DataW.weights_mem_each (j := 0) rfl rfl n hn)))
  refine (interchangelaw07_PropsSet.calls k b0.1.1 b0.1.2.1 b0.1.2.2.1 A0_1_3 cc0_1_3 b0.1.2.2.2 b0.2.1 b0.2.2.1.1 b0.2.2.1.2 b0.2.2.2 W hg hr0_1_3 hc0_1_3 hpure).mono fun e W' ⟨he, bel⟩ => ?_
  subst he
  exact ⟨_, rfl, _, _, _, [], _, [], hW', trodAll_mk1 (shut_bool Tryd.underlying4 _), (trodAll_cons_mk (Below.trod laid_out (by kernel_rfl) (of_decide_eq_true (by kernel_rfl)) k0 bel lt0) trodAll_mk0), rfl, bel.frame _, fun h => by cases h⟩

theorem propsSet_reads (os : Os) {H : Type} (enc : TypeId × Value → H) : ∃ places, DataW.whole enc Tryd.prog ((laid_world os).forCall (fun _ _ => 0) ⟨#[], #[.agg #[.int .i64 0, .int .u64 0, .int .u64 0, .slice none 0 0, .int .i64 0, .int .u64 0, .string ByteArray.empty, .int .i64 0]], []⟩).memory Tryd.f8.params.toList Rows.propsSetSpec.vars false (#[.agg #[.int .i64 0, .int .u64 0, .int .u64 0, .slice none 0 0, .int .i64 0, .int .u64 0, .string ByteArray.empty, .int .i64 0]] : Array Value).toList 8 = some ([.agg [.agg [.lit (.int .i64 0), .lit (.int .u64 0), .lit (.int .u64 0), .nil], .lit (.int .i64 0), .agg [.lit (.int .u64 0), .lit (.string [])], .lit (.int .i64 0)]], [], places) :=
  ⟨[], by kernel_rfl⟩
theorem propsSet_met (os : Os) : laidMet Tryd.prog Rows.propsSetRow.laid ((laid_world os).forCall (fun _ _ => 0) ⟨#[], #[.agg #[.int .i64 0, .int .u64 0, .int .u64 0, .slice none 0 0, .int .i64 0, .int .u64 0, .string ByteArray.empty, .int .i64 0]], []⟩).memory :=
  laidMet_of_run' 8 (by kernel_rfl) (by kernel_rfl)
set_option maxRecDepth 100000 in
theorem propsSet_lifted (os : Os) (started : os.Started) (H : Type) (enc : TypeId × Value → H) (F : Stop.Interp) :
    ReturnsInHanded {} Tryd.checked os 8 .any ((OpenSpec.ofChange Rows.propsSetSpec).preRow enc Tryd.prog Tryd.f8 Rows.propsSetRow.domain false Rows.propsSetRow.laid) (((OpenSpec.ofChange Rows.propsSetSpec).at F).post enc Tryd.prog Tryd.f8 false true false false) := by
  obtain ⟨places, hx⟩ := propsSet_reads os enc
  refine returnsInHanded_of_row (C := Tryd.checked) (s := (OpenSpec.ofChange Rows.propsSetSpec)) own_knob started (by kernel_rfl) Tryd.func8
    (witness_row_at (enc := enc) (C := Tryd.checked) false (laid_world os) #[.agg #[.int .i64 0, .int .u64 0, .int .u64 0, .slice none 0 0, .int .i64 0, .int .u64 0, .string ByteArray.empty, .int .i64 0]] rfl (by kernel_rfl) (by kernel_rfl) (by kernel_rfl)
      (OpenSpec.preRow_of_cond 8 hx (by kernel_rfl) (fun k hk => by cases hk) (by kernel_rfl) (propsSet_met os))) ?_
  intro W base args ds gs before hval hW _ hcond hsz hL _ _
  exact propsSet_contract H enc W base args ds gs before hval hW hL hsz
theorem propsSet_said : Rows.PropsSetSaid :=
  OpenClaim.holds_of_cond 8 Tryd.f8 rfl rfl rfl rfl rfl rfl rfl ⟨rfl, rfl, rfl, rfl, rfl⟩ rfl rfl rfl rfl rfl (by kernel_rfl) Tryd.func8 (by kernel_rfl)
    (of_decide_eq_true (by kernel_rfl)) (by unfold Func.isWrapper; first | (rw [if_pos (by decide +kernel)]; kernel_rfl) | (rw [if_neg (by decide +kernel)]; exact ⟨rfl, rfl⟩))
    (fun os started H enc _ F => by rw [OpenClaim.pre_eq_preRow]; exact propsSet_lifted os started H enc F)
theorem propsSet_plain (f : FuncId) (fn : Func) (hf : Tryd.pinned.checked.prog.funcNamed "interchange/interchangelaw07.PropsSet" = some f) (hfn : Tryd.pinned.checked.prog.funcs[f]? = some fn) :
    false = Tryd.pinned.checked.prog.looks [] ∧ ∀ (j : Nat) t, fn.params[j]? = some t → Tryd.pinned.checked.prog.wantsStandIn t = false := by
  obtain rfl : f = 8 := Option.some.inj ((show Tryd.prog.funcNamed "interchange/interchangelaw07.PropsSet" = some 8 by kernel_rfl).symm.trans hf) |>.symm
  obtain rfl : fn = Tryd.f8 := (Option.some.inj (Tryd.func8.symm.trans hfn)).symm
  refine ⟨by kernel_rfl, fun j t ht => ?_⟩
  rw [Tryd.params8] at ht
  have hm := Array.mem_of_getElem? ht
  simp only [List.mem_toArray, List.mem_cons, List.not_mem_nil, or_false] at hm
  rcases hm with rfl
  · exact (show Tryd.prog.wantsStandIn 50 = false by kernel_rfl)
theorem propsSet_holds : Rows.PropsSetCardSaid :=
  Claim7.holds_tied_plain_at .later [] _ _ _ _ propsSet_said (fun _ h => by cases h) (by kernel_rfl) (fun _ h => by cases h) propsSet_row_tie rfl ⟨rfl, rfl⟩ (by kernel_rfl) rfl propsSet_plain (by kernel_rfl)
#print axioms propsSet_holds
end Go.Proofs.YthpfcplhlhnfeaaDoor.F
