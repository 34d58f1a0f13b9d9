/- Two properties that are set hang on no order; one that is set twice has the later value, for every input. -/
import Derived.Lib.LaidTab
import Derived.Deep.DeepHandedRow
import Derived.Test.YthpfcplhlhnfeaaDoorCards
import Derived.Test.YthpfcplhlhnfeaaDoorTie
import Derived.WalkKit
import Derived.ProofKit
import Derived.OpenShut
import Derived.SizedLaws
import Derived.Carry
import Derived.SevenTiedAt
import Derived.Test.YthpfcplhlhnfeaaDoorBPropsTwoa
import Derived.Test.YthpfcplhlhnfeaaDoorBPropsTwob
import Derived.Test.YthpfcplhlhnfeaaDoorBPropsTwoc
import Derived.Test.YthpfcplhlhnfeaaDoorBPropsTwod
import Derived.Test.YthpfcplhlhnfeaaDoorBPropsTwoe
namespace Go.Proofs.YthpfcplhlhnfeaaDoor.F
open Go.RowKit Go.Proofs.YthpfcplhlhnfeaaDoorW.PrintWords Go.Proofs.YthpfcplhlhnfeaaDoorW.PrintLast Go.Proofs.YthpfcplhlhnfeaaDoorW.PrintMore
set_option linter.unusedVariables false
set_option linter.unusedSimpArgs false
set_option maxRecDepth 4000
attribute [local go_sem high] eqA42
theorem head4_far {W : World} {B B2 : Nat} {t : TypeId} {cs : Array Value} (h : W.heap[B2]? = some (.cells cs t (0, 0))) (hne : B2 ≠ B) (v0 v1 v2 v3 : Value) : ((((W.setCell ⟨B, 0, none⟩ v0).setCell ⟨B, 1, none⟩ v1).setCell ⟨B, 2, none⟩ v2).setCell ⟨B, 3, none⟩ v3).heap[B2]? = some (.cells cs t (0, 0)) :=
  blk_far (blk_far (blk_far (blk_far h (p := ⟨B, 0, none⟩) hne v0) (p := ⟨B, 1, none⟩) hne v1) (p := ⟨B, 2, none⟩) hne v2) (p := ⟨B, 3, none⟩) hne v3
theorem val2_cells {W : World} {B : Nat} {t : TypeId} {c0 c1 : Value} (h : W.heap[B]? = some (.cells #[c0, c1] t (0, 0))) : W.cell? ⟨B, 0, none⟩ = some c0 ∧ W.cell? ⟨B, 1, none⟩ = some c1 := ⟨(blk_cell h 0).trans rfl, (blk_cell h 1).trans rfl⟩
theorem RS.store {w0 w W : World} {A : Option Addr} {c : Nat} {l : List S42} {v : Value} {q : Int} {r : List S42} {B : Nat} (h : RS w W A c l v q r) (hc : l.length ≤ c) (hB : B < w.heap.size) (hr : Kd.C k42 w0 A l.length l) (v0 v1 v2 v3 : Value) (hb : Below w0.heap.size w0 ((((W.setCell ⟨B, 0, none⟩ v0).setCell ⟨B, 1, none⟩ v1).setCell ⟨B, 2, none⟩ v2).setCell ⟨B, 3, none⟩ v3)) :
    RC ((((W.setCell ⟨B, 0, none⟩ v0).setCell ⟨B, 1, none⟩ v1).setCell ⟨B, 2, none⟩ v2).setCell ⟨B, 3, none⟩ v3) v r := by
  rcases h with ⟨_, h⟩ | ⟨_, rfl, rfl⟩
  · exact RC.of_R (R_far4 h hB v0 v1 v2 v3)
  · exact ⟨A, c, rfl, hc, Kd.C_below hr hb⟩
set_option maxHeartbeats 4000000 in
set_option maxRecDepth 100000 in
theorem two_walk (a b fl : Int) (A : Option Addr) (c : Nat) (l : List S42) (i : Int) (v0 : Int) (v1 : ByteArray) (k : Int) (u0 : Int) (u1 : ByteArray) (w : World) (hg : Laid w) (hr : Kd.C k42 w A l.length l) (hc : l.length ≤ c)
    (a1 b1 f1 : Int) (l1 : List S42) (e1 : Int) (hS1 : props_Set.f a b fl l i v0 v1 = some (a1, b1, f1, l1, e1))
    (a2 b2 f2 : Int) (l2 : List S42) (e2 : Int) (hS2 : props_Set.f a1 b1 f1 l1 k u0 u1 = some (a2, b2, f2, l2, e2))
    (a3 b3 f3 : Int) (l3 : List S42) (e3 : Int) (hS3 : props_Set.f a b fl l k u0 u1 = some (a3, b3, f3, l3, e3))
    (a4 b4 f4 : Int) (l4 : List S42) (e4 : Int) (hS4 : props_Set.f a3 b3 f3 l3 i v0 v1 = some (a4, b4, f4, l4, e4))
    (g1 : Int) (g2 : ByteArray) (g3 : Bool) (hGt : props_Get.f a2 b2 f2 l2 k = some (g1, g2, g3)) (K : Nat) (sm : Bool) (hSm : interchangeref07_Same.f K a2 b2 f2 l2 a4 b4 f4 l4 = some sm)
    (hfin : e1 = 0 → e2 = 0 → e3 = 0 → e4 = 0 → g1 = u0 ∧ g2 = u1 ∧ g3 = true ∧ (i = k ∨ sm = true)) :
    Calls Tryd.prog 9 #[.agg #[.int .i64 a, .int .u64 b, .int .u64 fl, .slice A l.length c, .int .i64 i, .int .u64 v0, .string v1, .int .i64 k, .int .u64 u0, .string u1]] w fun e w' => e = .returned (.bool true) ∧ Below w.heap.size w w' := by
  have HG := Aside0.mk hg
  have HR := Aside0.mk hr
  have HS1 := Aside0.mk hS1
  have HS2 := Aside0.mk hS2
  have HS3 := Aside0.mk hS3
  have HS4 := Aside0.mk hS4
  have HGT := Aside0.mk hGt
  have HSM := Aside0.mk hSm
  have HFIN := Aside0.mk hfin
  clear hg hr hS1 hS2 hS3 hS4 hGt hSm hfin
  have hu25 := Tryd.underlying25
  have hu42 := Tryd.underlying42
  have hu53 := Tryd.underlying53
  have hB4 : Below w.heap.size w ((((w.alloc (.cells #[.int .i64 a, .int .u64 b, .int .u64 fl, .slice A l.length c, .int .i64 i, .int .u64 v0, .string v1, .int .i64 k, .int .u64 u0, .string u1] 53)).alloc (.cells #[.int .i64 a, .int .u64 b, .int .u64 fl, .slice A l.length c] 25)).alloc (.cells #[.int .u64 v0, .string v1] 42)).alloc (.cells #[.int .u64 u0, .string u1] 42)) := ((((Below.refl _ w).alloc (Nat.le_refl _) _).alloc (by simp) _).alloc (by simp; omega) _).alloc (by simp; omega) _
  have X1 : ((((w.alloc (.cells #[.int .i64 a, .int .u64 b, .int .u64 fl, .slice A l.length c, .int .i64 i, .int .u64 v0, .string v1, .int .i64 k, .int .u64 u0, .string u1] 53)).alloc (.cells #[.int .i64 a, .int .u64 b, .int .u64 fl, .slice A l.length c] 25)).alloc (.cells #[.int .u64 v0, .string v1] 42)).alloc (.cells #[.int .u64 u0, .string u1] 42)).heap[w.heap.size + 1]? = some (.cells #[.int .i64 a, .int .u64 b, .int .u64 fl, .slice A l.length c] 25 (0, 0)) := by
    have h := blk_new (w.alloc (.cells #[.int .i64 a, .int .u64 b, .int .u64 fl, .slice A l.length c, .int .i64 i, .int .u64 v0, .string v1, .int .i64 k, .int .u64 u0, .string u1] 53)) (.cells #[.int .i64 a, .int .u64 b, .int .u64 fl, .slice A l.length c] 25)
    rw [show (w.alloc (.cells #[.int .i64 a, .int .u64 b, .int .u64 fl, .slice A l.length c, .int .i64 i, .int .u64 v0, .string v1, .int .i64 k, .int .u64 u0, .string u1] 53)).heap.size = w.heap.size + 1 by simp] at h
    exact blk_alloc (blk_alloc h _) _
  have X2 : ((((w.alloc (.cells #[.int .i64 a, .int .u64 b, .int .u64 fl, .slice A l.length c, .int .i64 i, .int .u64 v0, .string v1, .int .i64 k, .int .u64 u0, .string u1] 53)).alloc (.cells #[.int .i64 a, .int .u64 b, .int .u64 fl, .slice A l.length c] 25)).alloc (.cells #[.int .u64 v0, .string v1] 42)).alloc (.cells #[.int .u64 u0, .string u1] 42)).heap[w.heap.size + 1 + 1]? = some (.cells #[.int .u64 v0, .string v1] 42 (0, 0)) := by
    have h := blk_new ((w.alloc (.cells #[.int .i64 a, .int .u64 b, .int .u64 fl, .slice A l.length c, .int .i64 i, .int .u64 v0, .string v1, .int .i64 k, .int .u64 u0, .string u1] 53)).alloc (.cells #[.int .i64 a, .int .u64 b, .int .u64 fl, .slice A l.length c] 25)) (.cells #[.int .u64 v0, .string v1] 42)
    rw [show ((w.alloc (.cells #[.int .i64 a, .int .u64 b, .int .u64 fl, .slice A l.length c, .int .i64 i, .int .u64 v0, .string v1, .int .i64 k, .int .u64 u0, .string u1] 53)).alloc (.cells #[.int .i64 a, .int .u64 b, .int .u64 fl, .slice A l.length c] 25)).heap.size = w.heap.size + 1 + 1 by simp] at h
    exact blk_alloc h _
  have X3 : ((((w.alloc (.cells #[.int .i64 a, .int .u64 b, .int .u64 fl, .slice A l.length c, .int .i64 i, .int .u64 v0, .string v1, .int .i64 k, .int .u64 u0, .string u1] 53)).alloc (.cells #[.int .i64 a, .int .u64 b, .int .u64 fl, .slice A l.length c] 25)).alloc (.cells #[.int .u64 v0, .string v1] 42)).alloc (.cells #[.int .u64 u0, .string u1] 42)).heap[w.heap.size + 1 + 1 + 1]? = some (.cells #[.int .u64 u0, .string u1] 42 (0, 0)) := by
    have h := blk_new (((w.alloc (.cells #[.int .i64 a, .int .u64 b, .int .u64 fl, .slice A l.length c, .int .i64 i, .int .u64 v0, .string v1, .int .i64 k, .int .u64 u0, .string u1] 53)).alloc (.cells #[.int .i64 a, .int .u64 b, .int .u64 fl, .slice A l.length c] 25)).alloc (.cells #[.int .u64 v0, .string v1] 42)) (.cells #[.int .u64 u0, .string u1] 42)
    rw [show (((w.alloc (.cells #[.int .i64 a, .int .u64 b, .int .u64 fl, .slice A l.length c, .int .i64 i, .int .u64 v0, .string v1, .int .i64 k, .int .u64 u0, .string u1] 53)).alloc (.cells #[.int .i64 a, .int .u64 b, .int .u64 fl, .slice A l.length c] 25)).alloc (.cells #[.int .u64 v0, .string v1] 42)).heap.size = w.heap.size + 1 + 1 + 1 by simp] at h
    exact h
  go_enter Tryd.func9, Tryd.ntmps9
  go_upto_region 11 with (first | (go_at_call 10; (with_reducible refine (interchangelaw07_shown.calls true _ ?lg shown_t).mono ?_); (case lg => exact HG.out.below hB4); rintro e w5 ⟨rfl, hb1⟩; have p1 := blk_below X1 hb1; have p2 := blk_below X2 hb1; have p3 := blk_below X3 hb1; have l5 := hB4.trans (hb1.mono hB4.size); obtain ⟨⟨p1_0, p1_1, p1_2, p1_3⟩, p1_f0, p1_f1, p1_f2, p1_f3⟩ := head4_cells p1; obtain ⟨p2_0, p2_1⟩ := val2_cells p2; obtain ⟨p3_0, p3_1⟩ := val2_cells p3) | (go_at_call 20; (with_reducible refine (props_Set.calls a b fl A c l i v0 v1 a1 b1 f1 l1 e1 w5 ?lg ?side1 hc HS1.out).mono ?_); (case lg => exact HG.out.below l5); (case side1 => exact Kd.C_below HR.out l5); rintro e w6 ⟨x1, rfl, hrs1, hb2⟩; obtain ⟨A1, c1, rfl, hc1, hr1⟩ := hrs1.reads (Kd.C_below HR.out l5) hc hb2; have q1 := blk_below p1 hb2; have q2 := blk_below p2 hb2; have q3 := blk_below p3 hb2; have l6 := l5.trans (hb2.mono l5.size); have z6 := blk_lt q3; have n1 : ¬ w.heap.size + 1 = w6.heap.size := (by omega); have n2 : ¬ w.heap.size + 1 + 1 = w6.heap.size := (by omega); have n3 : ¬ w.heap.size + 1 + 1 + 1 = w6.heap.size := (by omega); have r1 := blk_alloc q1 (.cells #[.int .i64 a1, .int .u64 b1, .int .u64 f1, .slice A1 l1.length c1] 25); have r2 := blk_alloc q2 (.cells #[.int .i64 a1, .int .u64 b1, .int .u64 f1, .slice A1 l1.length c1] 25); have r3 := blk_alloc q3 (.cells #[.int .i64 a1, .int .u64 b1, .int .u64 f1, .slice A1 l1.length c1] 25); have rA := blk_new w6 (.cells #[.int .i64 a1, .int .u64 b1, .int .u64 f1, .slice A1 l1.length c1] 25); have m6 := (Below.refl w6.heap.size w6).alloc (Nat.le_refl _) (.cells #[.int .i64 a1, .int .u64 b1, .int .u64 f1, .slice A1 l1.length c1] 25); have l6' := l6.alloc l6.size (.cells #[.int .i64 a1, .int .u64 b1, .int .u64 f1, .slice A1 l1.length c1] 25); have HR1 := Aside0.mk hr1; clear p1_0 p1_1 p1_2 p1_3 p1_f0 p1_f1 p1_f2 p1_f3 p2_0 p2_1 p3_0 p3_1; obtain ⟨⟨r1_0, r1_1, r1_2, r1_3⟩, r1_f0, r1_f1, r1_f2, r1_f3⟩ := head4_cells r1; obtain ⟨r2_0, r2_1⟩ := val2_cells r2; obtain ⟨r3_0, r3_1⟩ := val2_cells r3; obtain ⟨⟨rA_0, rA_1, rA_2, rA_3⟩, rA_f0, rA_f1, rA_f2, rA_f3⟩ := head4_cells rA; clear hr1 hrs1) | (go_at_call 20; (with_reducible refine (props_Set.calls a1 b1 f1 A1 c1 l1 k u0 u1 a2 b2 f2 l2 e2 _ ?lg ?side1 hc1 HS2.out).mono ?_); (case lg => exact HG.out.below l6'); (case side1 => exact Kd.C_below HR1.out m6); rintro e w7 ⟨x2, rfl, hrs2, hb3⟩; have z6s : w6.heap.size < (w6.alloc (.cells #[.int .i64 a1, .int .u64 b1, .int .u64 f1, .slice A1 l1.length c1] 25)).heap.size := blk_lt rA; obtain ⟨A2, c2, rfl, hc2, hr2⟩ := hrs2.store hc1 z6s HR1.out (.int .i64 a2) (.int .u64 b2) (.int .u64 f2) x2 (head4_below (m6.trans (hb3.mono (Nat.le_of_lt z6s))) (Nat.le_refl _) _ _ _ _); have s1 := blk_below r1 hb3; have s2 := blk_below r2 hb3; have s3 := blk_below r3 hb3; have sA := blk_below rA hb3; have l7 := l6'.trans (hb3.mono l6'.size); have z7 := blk_lt sA; have d7 := hb3.size; have t1 := head4_far s1 (B := w6.heap.size) n1 (.int .i64 a2) (.int .u64 b2) (.int .u64 f2) (.slice A2 l2.length c2); have t2 := head4_far s2 (B := w6.heap.size) n2 (.int .i64 a2) (.int .u64 b2) (.int .u64 f2) (.slice A2 l2.length c2); have t3 := head4_far s3 (B := w6.heap.size) n3 (.int .i64 a2) (.int .u64 b2) (.int .u64 f2) (.slice A2 l2.length c2); have tA := head4_store sA (.int .i64 a2) (.int .u64 b2) (.int .u64 f2) (.slice A2 l2.length c2); have l7' := head4_below l7 (B := w6.heap.size) l6.size (.int .i64 a2) (.int .u64 b2) (.int .u64 f2) (.slice A2 l2.length c2); have HR2 := Aside0.mk hr2; clear r1_0 r1_1 r1_2 r1_3 r1_f0 r1_f1 r1_f2 r1_f3 r2_0 r2_1 r3_0 r3_1 rA_0 rA_1 rA_2 rA_3 rA_f0 rA_f1 rA_f2 rA_f3; obtain ⟨⟨sA_0, sA_1, sA_2, sA_3⟩, sA_f0, sA_f1, sA_f2, sA_f3⟩ := head4_cells sA; obtain ⟨⟨s1_0, s1_1, s1_2, s1_3⟩, s1_f0, s1_f1, s1_f2, s1_f3⟩ := head4_cells s1; obtain ⟨s2_0, s2_1⟩ := val2_cells s2; obtain ⟨s3_0, s3_1⟩ := val2_cells s3; clear hr2 hrs2) | (go_at_call 20; (with_reducible refine (props_Set.calls a b fl A c l k u0 u1 a3 b3 f3 l3 e3 _ ?lg ?side1 hc HS3.out).mono ?_); (case lg => exact HG.out.below l7'); (case side1 => exact Kd.C_below HR.out l7'); rintro e w8 ⟨x3, rfl, hrs3, hb4⟩; obtain ⟨A3, c3, rfl, hc3, hr3⟩ := hrs3.reads (Kd.C_below HR.out l7') hc hb4; have l8 := l7'.trans (hb4.mono l7'.size); have q1 := blk_below t1 hb4; have q2 := blk_below t2 hb4; have q3 := blk_below t3 hb4; have qA := blk_below tA hb4; have z8 := blk_lt q3; have z8A := blk_lt qA; have j1 : ¬ w.heap.size + 1 = w8.heap.size := (by omega); have j2 : ¬ w.heap.size + 1 + 1 = w8.heap.size := (by omega); have j3 : ¬ w.heap.size + 1 + 1 + 1 = w8.heap.size := (by omega); have jA : ¬ w6.heap.size = w8.heap.size := (by omega); have y1 := blk_alloc q1 (.cells #[.int .i64 a3, .int .u64 b3, .int .u64 f3, .slice A3 l3.length c3] 25); have y2 := blk_alloc q2 (.cells #[.int .i64 a3, .int .u64 b3, .int .u64 f3, .slice A3 l3.length c3] 25); have y3 := blk_alloc q3 (.cells #[.int .i64 a3, .int .u64 b3, .int .u64 f3, .slice A3 l3.length c3] 25); have yA := blk_alloc qA (.cells #[.int .i64 a3, .int .u64 b3, .int .u64 f3, .slice A3 l3.length c3] 25); have yB := blk_new w8 (.cells #[.int .i64 a3, .int .u64 b3, .int .u64 f3, .slice A3 l3.length c3] 25); have m8 := (Below.refl w8.heap.size w8).alloc (Nat.le_refl _) (.cells #[.int .i64 a3, .int .u64 b3, .int .u64 f3, .slice A3 l3.length c3] 25); have l8' := l8.alloc l8.size (.cells #[.int .i64 a3, .int .u64 b3, .int .u64 f3, .slice A3 l3.length c3] 25); have HR3 := Aside0.mk hr3; have HR2' := Aside0.mk (Kd.C_below HR2.out hb4); clear sA_0 sA_1 sA_2 sA_3 sA_f0 sA_f1 sA_f2 sA_f3 s1_0 s1_1 s1_2 s1_3 s1_f0 s1_f1 s1_f2 s1_f3 s2_0 s2_1 s3_0 s3_1; obtain ⟨y2_0, y2_1⟩ := val2_cells y2; obtain ⟨y3_0, y3_1⟩ := val2_cells y3; obtain ⟨⟨yA_0, yA_1, yA_2, yA_3⟩, yA_f0, yA_f1, yA_f2, yA_f3⟩ := head4_cells yA; obtain ⟨⟨yB_0, yB_1, yB_2, yB_3⟩, yB_f0, yB_f1, yB_f2, yB_f3⟩ := head4_cells yB; clear hr3 hrs3 HR2) | (go_at_call 20; (with_reducible refine (props_Set.calls a3 b3 f3 A3 c3 l3 i v0 v1 a4 b4 f4 l4 e4 _ ?lg ?side1 hc3 HS4.out).mono ?_); (case lg => exact HG.out.below l8'); (case side1 => exact Kd.C_below HR3.out m8); rintro e w9 ⟨x4, rfl, hrs4, hb5⟩; have z8s : w8.heap.size < (w8.alloc (.cells #[.int .i64 a3, .int .u64 b3, .int .u64 f3, .slice A3 l3.length c3] 25)).heap.size := blk_lt yB; obtain ⟨A4, c4, rfl, hc4, hr4⟩ := hrs4.store hc3 z8s HR3.out (.int .i64 a4) (.int .u64 b4) (.int .u64 f4) x4 (head4_below (m8.trans (hb5.mono (Nat.le_of_lt z8s))) (Nat.le_refl _) _ _ _ _); have s3 := blk_below y3 hb5; have sA := blk_below yA hb5; have sB := blk_below yB hb5; have l9 := l8'.trans (hb5.mono l8'.size); have z9 := blk_lt sB; have d9 := hb5.size; have t3 := head4_far s3 (B := w8.heap.size) j3 (.int .i64 a4) (.int .u64 b4) (.int .u64 f4) (.slice A4 l4.length c4); have tA := head4_far sA (B := w8.heap.size) jA (.int .i64 a4) (.int .u64 b4) (.int .u64 f4) (.slice A4 l4.length c4); have tB := head4_store sB (.int .i64 a4) (.int .u64 b4) (.int .u64 f4) (.slice A4 l4.length c4); have l9' := head4_below l9 (B := w8.heap.size) l8.size (.int .i64 a4) (.int .u64 b4) (.int .u64 f4) (.slice A4 l4.length c4); have m9 := head4_below (m8.trans (hb5.mono (Nat.le_of_lt z8s))) (Nat.le_refl _) (.int .i64 a4) (.int .u64 b4) (.int .u64 f4) (.slice A4 l4.length c4); have HR4 := Aside0.mk hr4; have HR2 := Aside0.mk (Kd.C_below HR2'.out m9); clear y2_0 y2_1 y3_0 y3_1 yA_0 yA_1 yA_2 yA_3 yA_f0 yA_f1 yA_f2 yA_f3 yB_0 yB_1 yB_2 yB_3 yB_f0 yB_f1 yB_f2 yB_f3; obtain ⟨⟨sA_0, sA_1, sA_2, sA_3⟩, sA_f0, sA_f1, sA_f2, sA_f3⟩ := head4_cells sA; obtain ⟨⟨sB_0, sB_1, sB_2, sB_3⟩, sB_f0, sB_f1, sB_f2, sB_f3⟩ := head4_cells sB; obtain ⟨s3_0, s3_1⟩ := val2_cells s3; clear hr4 hrs4 HR2'))
  by_cases z1 : e1 = 0
  rotate_left
  · have d1 : (e1 != 0) = true := bne_iff_ne.2 z1
    clear z1
    go_wp2
    go_ret
    exact ⟨by first | rfl | (simp [*] <;> rfl), by first | exact l9' | exact below_drew l9' | exact pw_below_drewN l9' _ | (repeat (first | exact l9' | apply below_drew1 | apply pw_below_drewN))⟩
  have d1 : (e1 != 0) = false := by rw [z1]; rfl
  by_cases z2 : e2 = 0
  rotate_left
  · have d2 : (e2 != 0) = true := bne_iff_ne.2 z2
    clear z1 z2
    go_wp2
    go_ret
    exact ⟨by first | rfl | (simp [*] <;> rfl), by first | exact l9' | exact below_drew l9' | exact pw_below_drewN l9' _ | (repeat (first | exact l9' | apply below_drew1 | apply pw_below_drewN))⟩
  have d2 : (e2 != 0) = false := by rw [z2]; rfl
  by_cases z3 : e3 = 0
  rotate_left
  · have d3 : (e3 != 0) = true := bne_iff_ne.2 z3
    clear z1 z2 z3
    go_wp2
    go_ret
    exact ⟨by first | rfl | (simp [*] <;> rfl), by first | exact l9' | exact below_drew l9' | exact pw_below_drewN l9' _ | (repeat (first | exact l9' | apply below_drew1 | apply pw_below_drewN))⟩
  have d3 : (e3 != 0) = false := by rw [z3]; rfl
  by_cases z4 : e4 = 0
  rotate_left
  · have d4 : (e4 != 0) = true := bne_iff_ne.2 z4
    clear z1 z2 z3 z4
    go_wp2
    go_ret
    exact ⟨by first | rfl | (simp [*] <;> rfl), by first | exact l9' | exact below_drew l9' | exact pw_below_drewN l9' _ | (repeat (first | exact l9' | apply below_drew1 | apply pw_below_drewN))⟩
  have d4 : (e4 != 0) = false := by rw [z4]; rfl
  obtain ⟨rfl, rfl, rfl, hik⟩ := HFIN.out z1 z2 z3 z4
  clear z1 z2 z3 z4 HFIN
  by_cases zi : i = k
  · have di : (i == k) = true := beq_iff_eq.2 zi
    clear hik zi
    go_wp2_with (first | (go_at_call 18; ((with_reducible refine (props_Get.calls a2 b2 f2 A2 c2 l2 k g1 g2 true _ ?lg ?side1 hc2 HGT.out).mono ?_); (case lg => exact HG.out.below l9'); (case side1 => exact HR2.out); rintro e w10 ⟨rfl, hb6⟩; have q3 := blk_below t3 hb6; have qA := blk_below tA hb6; have qB := blk_below tB hb6; have l10 := l9'.trans (hb6.mono l9'.size); have z10 := blk_lt q3; have z10A := blk_lt qA; have z10B := blk_lt qB; have m10 := hb6.trans ((Below.refl w10.heap.size w10).alloc (Nat.le_refl _) (.cells #[.int .u64 g1, .string g2] 42) |>.mono hb6.size); have l10' := l10.alloc l10.size (.cells #[.int .u64 g1, .string g2] 42); have y3 := blk_alloc q3 (.cells #[.int .u64 g1, .string g2] 42); have yA := blk_alloc qA (.cells #[.int .u64 g1, .string g2] 42); have yB := blk_alloc qB (.cells #[.int .u64 g1, .string g2] 42); have yC := blk_new w10 (.cells #[.int .u64 g1, .string g2] 42); clear sA_0 sA_1 sA_2 sA_3 sA_f0 sA_f1 sA_f2 sA_f3 sB_0 sB_1 sB_2 sB_3 sB_f0 sB_f1 sB_f2 sB_f3 s3_0 s3_1; obtain ⟨⟨yA_0, yA_1, yA_2, yA_3⟩, yA_f0, yA_f1, yA_f2, yA_f3⟩ := head4_cells yA; obtain ⟨⟨yB_0, yB_1, yB_2, yB_3⟩, yB_f0, yB_f1, yB_f2, yB_f3⟩ := head4_cells yB; have i1 : ¬ w.heap.size + 1 + 1 + 1 = w10.heap.size := (by omega); have iA : ¬ w6.heap.size = w10.heap.size := (by omega); have iB : ¬ w8.heap.size = w10.heap.size := (by omega))) | (go_at_call 13; (with_reducible refine (interchangeref07_Same.calls K a2 b2 f2 A2 c2 l2 a4 b4 f4 A4 c4 l4 sm _ ?side1 hc2 ?side2 hc4 HSM.out).mono ?_); (case side1 => exact Kd.C_below HR2.out m10); (case side2 => exact Kd.C_below HR4.out m10); rintro e w11 ⟨rfl, hb7⟩; have x3 := blk_below y3 hb7; have xC := blk_below yC hb7; have l11 := l10'.trans (hb7.mono l10'.size); clear yA_0 yA_1 yA_2 yA_3 yA_f0 yA_f1 yA_f2 yA_f3 yB_0 yB_1 yB_2 yB_3 yB_f0 yB_f1 yB_f2 yB_f3; obtain ⟨x3_0, x3_1⟩ := val2_cells x3; obtain ⟨xC_0, xC_1⟩ := val2_cells xC))
    go_ret
    exact ⟨by first | rfl | (simp [*] <;> rfl), by first | exact l11 | exact below_drew l11 | exact pw_below_drewN l11 _ | (repeat (first | exact l11 | apply below_drew1 | apply pw_below_drewN))⟩
  · have di : (i == k) = false := beq_eq_false_iff_ne.2 zi
    obtain rfl : sm = true := hik.elim (fun h => absurd h zi) id
    clear hik zi
    go_wp2_with (first | (go_at_call 18; ((with_reducible refine (props_Get.calls a2 b2 f2 A2 c2 l2 k g1 g2 true _ ?lg ?side1 hc2 HGT.out).mono ?_); (case lg => exact HG.out.below l9'); (case side1 => exact HR2.out); rintro e w10 ⟨rfl, hb6⟩; have q3 := blk_below t3 hb6; have qA := blk_below tA hb6; have qB := blk_below tB hb6; have l10 := l9'.trans (hb6.mono l9'.size); have z10 := blk_lt q3; have z10A := blk_lt qA; have z10B := blk_lt qB; have m10 := hb6.trans ((Below.refl w10.heap.size w10).alloc (Nat.le_refl _) (.cells #[.int .u64 g1, .string g2] 42) |>.mono hb6.size); have l10' := l10.alloc l10.size (.cells #[.int .u64 g1, .string g2] 42); have y3 := blk_alloc q3 (.cells #[.int .u64 g1, .string g2] 42); have yA := blk_alloc qA (.cells #[.int .u64 g1, .string g2] 42); have yB := blk_alloc qB (.cells #[.int .u64 g1, .string g2] 42); have yC := blk_new w10 (.cells #[.int .u64 g1, .string g2] 42); clear sA_0 sA_1 sA_2 sA_3 sA_f0 sA_f1 sA_f2 sA_f3 sB_0 sB_1 sB_2 sB_3 sB_f0 sB_f1 sB_f2 sB_f3 s3_0 s3_1; obtain ⟨⟨yA_0, yA_1, yA_2, yA_3⟩, yA_f0, yA_f1, yA_f2, yA_f3⟩ := head4_cells yA; obtain ⟨⟨yB_0, yB_1, yB_2, yB_3⟩, yB_f0, yB_f1, yB_f2, yB_f3⟩ := head4_cells yB; have i1 : ¬ w.heap.size + 1 + 1 + 1 = w10.heap.size := (by omega); have iA : ¬ w6.heap.size = w10.heap.size := (by omega); have iB : ¬ w8.heap.size = w10.heap.size := (by omega))) | (go_at_call 13; (with_reducible refine (interchangeref07_Same.calls K a2 b2 f2 A2 c2 l2 a4 b4 f4 A4 c4 l4 true _ ?side1 hc2 ?side2 hc4 HSM.out).mono ?_); (case side1 => exact Kd.C_below HR2.out m10); (case side2 => exact Kd.C_below HR4.out m10); rintro e w11 ⟨rfl, hb7⟩; have x3 := blk_below y3 hb7; have xC := blk_below yC hb7; have l11 := l10'.trans (hb7.mono l10'.size); clear yA_0 yA_1 yA_2 yA_3 yA_f0 yA_f1 yA_f2 yA_f3 yB_0 yB_1 yB_2 yB_3 yB_f0 yB_f1 yB_f2 yB_f3; obtain ⟨x3_0, x3_1⟩ := val2_cells x3; obtain ⟨xC_0, xC_1⟩ := val2_cells xC))
    go_ret
    exact ⟨by first | rfl | (simp [*] <;> rfl), by first | exact l11 | exact below_drew l11 | exact pw_below_drewN l11 _ | (repeat (first | exact l11 | apply below_drew1 | apply pw_below_drewN))⟩
theorem two_fin {a b fl : Int} {l : List S42} (ok : okH b fl l) {i k : Int} {v u : S42} (okv : okV v) (oku : okV u) (h1 : (setR a b fl l i v).2.2.2.2 = 0) (h3 : (setR a b fl l k u).2.2.2.2 = 0)
    (h2 : (setR (setR a b fl l i v).1 (setR a b fl l i v).2.1 (setR a b fl l i v).2.2.1 (setR a b fl l i v).2.2.2.1 k u).2.2.2.2 = 0) (h4 : (setR (setR a b fl l k u).1 (setR a b fl l k u).2.1 (setR a b fl l k u).2.2.1 (setR a b fl l k u).2.2.2.1 i v).2.2.2.2 = 0) :
    ∀ S2 S4 : Int × Int × Int × List S42 × Int, setR (setR a b fl l i v).1 (setR a b fl l i v).2.1 (setR a b fl l i v).2.2.1 (setR a b fl l i v).2.2.2.1 k u = S2 → setR (setR a b fl l k u).1 (setR a b fl l k u).2.1 (setR a b fl l k u).2.2.1 (setR a b fl l k u).2.2.2.1 i v = S4 →
    getR S2.1 S2.2.1 S2.2.2.1 S2.2.2.2.1 k = (u.f0, u.f1, true) ∧ (i = k ∨ sameB S2.1 S2.2.1 S2.2.2.1 S2.2.2.2.1 S4.1 S4.2.1 S4.2.2.1 S4.2.2.2.1 = true) := by
  intro S2 S4 E2 E4
  obtain ⟨n, rfl, hn, hR, hv, q1⟩ := set_good h1
  obtain ⟨m, rfl, hm, _, hu, q3⟩ := set_good h3
  rw [q1] at h2 E2
  rw [q3] at h4 E4
  dsimp only at h2 h4 E2 E4
  obtain ⟨m', hm', _, hR1, _, q2⟩ := set_good h2
  obtain ⟨n', hn', _, hR3, _, q4⟩ := set_good h4
  obtain rfl : m = m' := by omega
  obtain rfl : n = n' := by omega
  rw [q2] at E2
  rw [q4] at E4
  subst E2
  subst E4
  dsimp only
  constructor
  · rw [set_get (set_ok ok hR hn okv) hR1 hm hu, if_pos rfl]
  · by_cases e : n = m
    · exact .inl (by rw [e])
    · refine .inr ?_
      rw [setFl_comm ok.2.1 hn hm, set_comm ok hR hn hm e okv oku hv hu]
      exact sameB_refl _ _ _ _
def interchangelaw07_PropsTwo.f (k : Nat) (a b fl : Int) (l : List S42) (i v0 : Int) (v1 : ByteArray) (j u0 : Int) (u1 : ByteArray) : Option Bool := if okH b fl l ∧ okV ⟨v0, v1⟩ ∧ okV ⟨u0, u1⟩ then some true else none
theorem interchangelaw07_PropsTwo.calls (k : Nat) (a b fl : Int) (A : Option Addr) (c : Nat) (l : List S42) (i v0 : Int) (v1 : ByteArray) (j u0 : Int) (u1 : ByteArray) (w : World) (hg : Laid w) (hr : Kd.C k42 w A l.length l) (hc : l.length ≤ c) (h : interchangelaw07_PropsTwo.f k a b fl l i v0 v1 j u0 u1 = some true) :
    Calls Tryd.prog 9 #[.agg #[.int .i64 a, .int .u64 b, .int .u64 fl, .slice A l.length c, .int .i64 i, .int .u64 v0, .string v1, .int .i64 j, .int .u64 u0, .string u1]] w fun e w' => e = .returned (.bool true) ∧ Below w.heap.size w w' := by
  obtain ⟨ok, okv, oku⟩ : okH b fl l ∧ okV ⟨v0, v1⟩ ∧ okV ⟨u0, u1⟩ := by
    unfold interchangelaw07_PropsTwo.f at h
    split at h
    · assumption
    · cases h
  have F := two_fin (a := a) (i := i) (k := j) ok okv oku
  have o1 := setR_ok (a := a) ok (i := i) okv
  have o3 := setR_ok (a := a) ok (i := j) oku
  have f1 := Set_f (a := a) ok i okv
  have f3 := Set_f (a := a) ok j oku
  generalize setR a b fl l i ⟨v0, v1⟩ = S1 at *
  generalize setR a b fl l j ⟨u0, u1⟩ = S3 at *
  have f2 := Set_f (a := S1.1) o1 j oku
  have f4 := Set_f (a := S3.1) o3 i okv
  have o2 := setR_ok (a := S1.1) o1 (i := j) oku
  have o4 := setR_ok (a := S3.1) o3 (i := i) okv
  replace F := fun h1 h3 h2 h4 => F h1 h3 h2 h4 _ _ rfl rfl
  generalize setR S1.1 S1.2.1 S1.2.2.1 S1.2.2.2.1 j ⟨u0, u1⟩ = S2 at *
  generalize setR S3.1 S3.2.1 S3.2.2.1 S3.2.2.2.1 i ⟨v0, v1⟩ = S4 at *
  have fg := Get_f (a := S2.1) o2 j
  generalize getR S2.1 S2.2.1 S2.2.2.1 S2.2.2.2.1 j = G at fg F
  have fs := Same_k (k := S2.2.2.2.1.length + 3) S2.1 S2.2.1 S2.2.2.1 S2.2.2.2.1 S4.1 S4.2.1 S4.2.2.1 S4.2.2.2.1 (Nat.le_refl _) o2.2.2.1
  refine two_walk a b fl A c l i v0 v1 j u0 u1 w hg hr hc S1.1 S1.2.1 S1.2.2.1 S1.2.2.2.1 S1.2.2.2.2 f1 S2.1 S2.2.1 S2.2.2.1 S2.2.2.2.1 S2.2.2.2.2 f2 S3.1 S3.2.1 S3.2.2.1 S3.2.2.2.1 S3.2.2.2.2 f3 S4.1 S4.2.1 S4.2.2.1 S4.2.2.2.1 S4.2.2.2.2 f4 G.1 G.2.1 G.2.2 fg _ _ fs ?_
  intro h1 h2 h3 h4
  obtain ⟨g, s⟩ := F h1 h3 h2 h4
  rw [g]
  exact ⟨rfl, rfl, rfl, s⟩
theorem propsTwo_pure (b0 : (Int × Int × Int × List S42) × Int × (Int × ByteArray) × Int × (Int × ByteArray)) (g0 : ((Lit.int .i64 b0.1.1).wf = true ∧ (Lit.int .u64 b0.1.2.1).wf = true ∧ (Lit.int .u64 b0.1.2.2.1).wf = true ∧ (b0.1.2.2.2.length ≤ maxLen ∧ ∀ x ∈ b0.1.2.2.2, good_42 x)) ∧ (Lit.int .i64 b0.2.1).wf = true ∧ ((Lit.int .u64 b0.2.2.1.1).wf = true ∧ b0.2.2.1.2.size ≤ maxLen) ∧ (Lit.int .i64 b0.2.2.2.1).wf = true ∧ ((Lit.int .u64 b0.2.2.2.2.1).wf = true ∧ b0.2.2.2.2.2.size ≤ maxLen))
    (z0 : (True ∧ True ∧ True ∧ (b0.1.2.2.2.length * Tryd.prog.bytesOf 42 ≤ 140737488351232 ∧ ∀ x ∈ b0.1.2.2.2, sized_42 x)) ∧ True ∧ (True ∧ b0.2.2.1.2.size ≤ 140737488351232) ∧ True ∧ (True ∧ b0.2.2.2.2.2.size ≤ 140737488351232)) : ∃ k : Nat, interchangelaw07_PropsTwo.f k b0.1.1 b0.1.2.1 b0.1.2.2.1 b0.1.2.2.2 b0.2.1 b0.2.2.1.1 b0.2.2.1.2 b0.2.2.2.1 b0.2.2.2.2.1 b0.2.2.2.2.2 = some true := by
  obtain ⟨⟨a, b, fl, l⟩, i, ⟨v0, v1⟩, j, u0, u1⟩ := b0
  obtain ⟨⟨g1, g2, g3, g4⟩, g5, ⟨g6, g7⟩, g8, g9, g10⟩ := g0
  obtain ⟨⟨_, _, _, z4⟩, _, ⟨_, z7⟩, _, _, z10⟩ := z0
  have ok : okH b fl l := vals_ok g2 g3 g4 z4
  have okv : okV ⟨v0, v1⟩ := val_ok g6 z7
  have oku : okV ⟨u0, u1⟩ := val_ok g9 z10
  refine ⟨0, ?_⟩
  unfold interchangelaw07_PropsTwo.f
  rw [if_pos ⟨ok, okv, oku⟩]
end Go.Proofs.YthpfcplhlhnfeaaDoor.F
namespace Go.Proofs.YthpfcplhlhnfeaaDoor.F
open Go.RowKit Go.Proofs.YthpfcplhlhnfeaaDoorW.PrintWords Go.Proofs.YthpfcplhlhnfeaaDoorW.PrintLast Go.Proofs.YthpfcplhlhnfeaaDoorW.PrintMore
set_option linter.unusedVariables false
set_option linter.unusedSimpArgs false
set_option maxRecDepth 4000
theorem g_widths : Tryd.prog.globalNamed "interchange/num.widths" = some 0 := by kernel_rfl
theorem g_widths_type : (Tryd.prog.globals[0]?).map (·.type) = some 96 := by kernel_rfl
theorem cells_widths : Tryd.prog.cellsOf 96 = 4 := by kernel_rfl
theorem cells_int : Tryd.prog.cellsOf 3 = 1 := by kernel_rfl
theorem table_widths {W : World} (h : laidMetH Tryd.prog [("interchange/num.widths", Rows.laid_interchange_num_widths)] W) : Lib.TabIs Tryd.prog W "interchange/num.widths" .i64 [1, 2, 4, 8] :=
  Lib.tabIs_of_head (rest := []) g_widths g_widths_type Tryd.underlying96 Tryd.underlying3 cells_int cells_widths h
theorem laid_of {W : World} (h : laidMetH Tryd.prog [("interchange/num.widths", Rows.laid_interchange_num_widths)] W) : Laid W :=
  ⟨(table_widths h).cell g_widths 0 (by decide), (table_widths h).cell g_widths 1 (by decide), (table_widths h).cell g_widths 2 (by decide), (table_widths h).cell g_widths 3 (by decide)⟩
noncomputable def laid_world (os : Os) : World :=
  { World.holding Tryd.prog os ⟨#[], #[], []⟩ with heap := (World.holding Tryd.prog os ⟨#[], #[], []⟩).heap.modify 0 fun
      | .cells _ t frozen => .cells #[.int .i64 1, .int .i64 2, .int .i64 4, .int .i64 8] t frozen
      | o => o }
end Go.Proofs.YthpfcplhlhnfeaaDoor.F
namespace Go.Proofs.YthpfcplhlhnfeaaDoor.F
open Go.ChangeShapes Go.WideShapes Go.ChangeAt Go.RowKit Go.Proofs.YthpfcplhlhnfeaaDoorW.PrintWords Go.Proofs.YthpfcplhlhnfeaaDoorW.PrintLast
set_option linter.unusedVariables false
set_option linter.unusedSimpArgs false
set_option maxRecDepth 4000
set_option linter.unnecessarySimpa false

set_option maxHeartbeats 2000000 in
theorem propsTwo_contract (H : Type) (enc : TypeId × Value → H) (W : World) (base : Nat) (args : Array Value) (ds gs : List (DataW H)) (before : List MemPlace)
    (hval0 : ∀ (j : Nat) t v, Tryd.f9.params[j]? = some t → args[j]? = some v → Value.okWide Tryd.prog W .any base t v)
    (hW : DataW.Whole enc Tryd.prog Tryd.f9.params.toList Rows.propsTwoSpec.vars false W args.toList ds gs before) (hL : laidMetH Tryd.prog Rows.propsTwoRow.laid W)
    (hsz : (DataW.weightsEach Tryd.prog (Tryd.f9.params.toList ++ (OpenSpec.ofChange Rows.propsTwoSpec).bare.plain.varTypes Tryd.prog) (ds ++ gs)).all (· ≤ reachBytes) = true) :
    Calls Tryd.prog 9 args W fun e W' => ∃ v, e = .returned v ∧ Rows.propsTwoSpec.post enc Tryd.prog Tryd.f9 false true false false W args v W' := by
  have hW' := hW
  obtain ⟨p, q, hA0, hV, rfl, hfz, hnd⟩ := hW
  have hA : DataW.TrodAll enc Tryd.prog W 0 (fun _ => true) true Tryd.f9.params.toList args.toList ds p := hA0
  have hval : ∀ (j : Nat) t v, Tryd.f9.params[j]? = some t → args[j]? = some v → Value.okWide Tryd.prog W .any base t v := hval0
  have hsz' : (DataW.weightsEach Tryd.prog (Tryd.f9.params.toList ++ []) (ds ++ gs)).all (· ≤ reachBytes) = true := hsz
  rw [Tryd.params9] at hA hval hsz'
  obtain ⟨v0, vs0, d0, ds0, p0, q0, hargs, rfl, rfl, h0, r0⟩ := trodAll_cons hA
  obtain ⟨rfl, rfl, rfl⟩ := trodAll_nil r0
  obtain rfl : args = #[v0] := by cases args; simp_all
  obtain ⟨rfl, rfl⟩ := trodVars_none hV
  have hg := laid_of hL
  have k0 := h0
  have lt0 : ∀ x ∈ p0, x.block < W.heap.size := by obtain ⟨m, hm⟩ := k0; exact DataW.trod_lt m _ _ _ hm
  obtain ⟨fuel0, hf0⟩ := h0
  obtain ⟨b0, e0, g0, z0, u0⟩ := (opened_struct5 (n0 := 4) (n1 := 1) (n2 := 2) (n3 := 1) (n4 := 2) Tryd.underlying53 (by kernel_rfl) (by kernel_rfl) rfl (opened_struct4 (n0 := 1) (n1 := 1) (n2 := 1) (n3 := 1) Tryd.underlying25 (by kernel_rfl) (by kernel_rfl) rfl (opened_int (k := .i64) Tryd.underlying3) (by kernel_rfl) rfl (opened_int (k := .u64) Tryd.underlying22) (by kernel_rfl) rfl (opened_int (k := .u64) Tryd.underlying22) (by kernel_rfl) rfl (opened_slice Tryd.underlying23 (by kernel_rfl) opened_42)) (by kernel_rfl) rfl (opened_int (k := .i64) Tryd.underlying3) (by kernel_rfl) rfl (opened_struct2 (n0 := 1) (n1 := 1) Tryd.underlying42 (by kernel_rfl) (by kernel_rfl) rfl (opened_int (k := .u64) Tryd.underlying22) (by kernel_rfl) rfl (opened_string Tryd.underlying9)) (by kernel_rfl) rfl (opened_int (k := .i64) Tryd.underlying3) (by kernel_rfl) rfl (opened_struct2 (n0 := 1) (n1 := 1) Tryd.underlying42 (by kernel_rfl) (by kernel_rfl) rfl (opened_int (k := .u64) Tryd.underlying22) (by kernel_rfl) rfl (opened_string Tryd.underlying9))).out enc W fuel0 _ _ hf0
  obtain ⟨c0_0_0, c0_0_1, c0_0_2, c0_0_3, c0_0_4, eq0_0, e0_0_0, e0_0_1, e0_0_2, e0_0_3, e0_0_4⟩ := e0
  obtain ⟨c0_1_0, c0_1_1, c0_1_2, c0_1_3, eq0_1, e0_1_0, e0_1_1, e0_1_2, e0_1_3⟩ := e0_0_0
  replace e0_1_0 : c0_1_0 = [.int .i64 b0.1.1] := e0_1_0
  subst e0_1_0
  replace e0_1_1 : c0_1_1 = [.int .u64 b0.1.2.1] := e0_1_1
  subst e0_1_1
  replace e0_1_2 : c0_1_2 = [.int .u64 b0.1.2.2.1] := e0_1_2
  subst e0_1_2
  obtain ⟨A0_1_3, cc0_1_3, rfl, hc0_1_3, hr0_1_3⟩ := e0_1_3
  (try subst eq0_1)
  replace e0_0_1 : c0_0_1 = [.int .i64 b0.2.1] := e0_0_1
  subst e0_0_1
  obtain ⟨c0_2_0, c0_2_1, eq0_2, e0_2_0, e0_2_1⟩ := e0_0_2
  replace e0_2_0 : c0_2_0 = [.int .u64 b0.2.2.1.1] := e0_2_0
  subst e0_2_0
  replace e0_2_1 : c0_2_1 = [.string b0.2.2.1.2] := e0_2_1
  subst e0_2_1
  (try subst eq0_2)
  replace e0_0_3 : c0_0_3 = [.int .i64 b0.2.2.2.1] := e0_0_3
  subst e0_0_3
  obtain ⟨c0_3_0, c0_3_1, eq0_3, e0_3_0, e0_3_1⟩ := e0_0_4
  replace e0_3_0 : c0_3_0 = [.int .u64 b0.2.2.2.2.1] := e0_3_0
  subst e0_3_0
  replace e0_3_1 : c0_3_1 = [.string b0.2.2.2.2.2] := e0_3_1
  subst e0_3_1
  (try subst eq0_3)
  (try subst eq0_0)
  have hvv0 := shape_struct Tryd.underlying53 (hval 0 53 v0 rfl rfl) eq0_0
  simp only [List.cons_append, List.nil_append] at hvv0
  subst hvv0
  obtain ⟨k, hpure⟩ := propsTwo_pure b0 g0 (z0 fun n hn => of_decide_eq_true (List.all_eq_true.1 hsz' n (DataW.weights_mem_each (j := 0) rfl rfl n hn)))
  refine (interchangelaw07_PropsTwo.calls k b0.1.1 b0.1.2.1 b0.1.2.2.1 A0_1_3 cc0_1_3 b0.1.2.2.2 b0.2.1 b0.2.2.1.1 b0.2.2.1.2 b0.2.2.2.1 b0.2.2.2.2.1 b0.2.2.2.2.2 W hg hr0_1_3 hc0_1_3 hpure).mono fun e W' ⟨he, bel⟩ => ?_
  subst he
  exact ⟨_, rfl, _, _, _, [], _, [], hW', trodAll_mk1 (shut_bool Tryd.underlying4 _), (trodAll_cons_mk (Below.trod laid_out (by kernel_rfl) (of_decide_eq_true (by kernel_rfl)) k0 bel lt0) trodAll_mk0), rfl, bel.frame _, fun h => by cases h⟩

theorem propsTwo_reads (os : Os) {H : Type} (enc : TypeId × Value → H) : ∃ places, DataW.whole enc Tryd.prog ((laid_world os).forCall (fun _ _ => 0) ⟨#[], #[.agg #[.int .i64 0, .int .u64 0, .int .u64 0, .slice none 0 0, .int .i64 0, .int .u64 0, .string ByteArray.empty, .int .i64 0, .int .u64 0, .string ByteArray.empty]], []⟩).memory Tryd.f9.params.toList Rows.propsTwoSpec.vars false (#[.agg #[.int .i64 0, .int .u64 0, .int .u64 0, .slice none 0 0, .int .i64 0, .int .u64 0, .string ByteArray.empty, .int .i64 0, .int .u64 0, .string ByteArray.empty]] : Array Value).toList 8 = some ([.agg [.agg [.lit (.int .i64 0), .lit (.int .u64 0), .lit (.int .u64 0), .nil], .lit (.int .i64 0), .agg [.lit (.int .u64 0), .lit (.string [])], .lit (.int .i64 0), .agg [.lit (.int .u64 0), .lit (.string [])]]], [], places) :=
  ⟨[], by kernel_rfl⟩
theorem propsTwo_met (os : Os) : laidMet Tryd.prog Rows.propsTwoRow.laid ((laid_world os).forCall (fun _ _ => 0) ⟨#[], #[.agg #[.int .i64 0, .int .u64 0, .int .u64 0, .slice none 0 0, .int .i64 0, .int .u64 0, .string ByteArray.empty, .int .i64 0, .int .u64 0, .string ByteArray.empty]], []⟩).memory :=
  laidMet_of_run' 8 (by kernel_rfl) (by kernel_rfl)
set_option maxRecDepth 100000 in
theorem propsTwo_lifted (os : Os) (started : os.Started) (H : Type) (enc : TypeId × Value → H) (F : Stop.Interp) :
    ReturnsInHanded {} Tryd.checked os 9 .any ((OpenSpec.ofChange Rows.propsTwoSpec).preRow enc Tryd.prog Tryd.f9 Rows.propsTwoRow.domain false Rows.propsTwoRow.laid) (((OpenSpec.ofChange Rows.propsTwoSpec).at F).post enc Tryd.prog Tryd.f9 false true false false) := by
  obtain ⟨places, hx⟩ := propsTwo_reads os enc
  refine returnsInHanded_of_row (C := Tryd.checked) (s := (OpenSpec.ofChange Rows.propsTwoSpec)) own_knob started (by kernel_rfl) Tryd.func9
    (witness_row_at (enc := enc) (C := Tryd.checked) false (laid_world os) #[.agg #[.int .i64 0, .int .u64 0, .int .u64 0, .slice none 0 0, .int .i64 0, .int .u64 0, .string ByteArray.empty, .int .i64 0, .int .u64 0, .string ByteArray.empty]] rfl (by kernel_rfl) (by kernel_rfl) (by kernel_rfl)
      (OpenSpec.preRow_of_cond 8 hx (by kernel_rfl) (fun k hk => by cases hk) (by kernel_rfl) (propsTwo_met os))) ?_
  intro W base args ds gs before hval hW _ hcond hsz hL _ _
  exact propsTwo_contract H enc W base args ds gs before hval hW hL hsz
theorem propsTwo_said : Rows.PropsTwoSaid :=
  OpenClaim.holds_of_cond 9 Tryd.f9 rfl rfl rfl rfl rfl rfl rfl ⟨rfl, rfl, rfl, rfl, rfl⟩ rfl rfl rfl rfl rfl (by kernel_rfl) Tryd.func9 (by kernel_rfl)
    (of_decide_eq_true (by kernel_rfl)) (by unfold Func.isWrapper; first | (rw [if_pos (by decide +kernel)]; kernel_rfl) | (rw [if_neg (by decide +kernel)]; exact ⟨rfl, rfl⟩))
    (fun os started H enc _ F => by rw [OpenClaim.pre_eq_preRow]; exact propsTwo_lifted os started H enc F)
theorem propsTwo_plain (f : FuncId) (fn : Func) (hf : Tryd.pinned.checked.prog.funcNamed "interchange/interchangelaw07.PropsTwo" = some f) (hfn : Tryd.pinned.checked.prog.funcs[f]? = some fn) :
    false = Tryd.pinned.checked.prog.looks [] ∧ ∀ (j : Nat) t, fn.params[j]? = some t → Tryd.pinned.checked.prog.wantsStandIn t = false := by
  obtain rfl : f = 9 := Option.some.inj ((show Tryd.prog.funcNamed "interchange/interchangelaw07.PropsTwo" = some 9 by kernel_rfl).symm.trans hf) |>.symm
  obtain rfl : fn = Tryd.f9 := (Option.some.inj (Tryd.func9.symm.trans hfn)).symm
  refine ⟨by kernel_rfl, fun j t ht => ?_⟩
  rw [Tryd.params9] at ht
  have hm := Array.mem_of_getElem? ht
  simp only [List.mem_toArray, List.mem_cons, List.not_mem_nil, or_false] at hm
  rcases hm with rfl
  · exact (show Tryd.prog.wantsStandIn 53 = false by kernel_rfl)
theorem propsTwo_holds : Rows.PropsTwoCardSaid :=
  Claim7.holds_tied_plain_at .later [] _ _ _ _ propsTwo_said (fun _ h => by cases h) (by kernel_rfl) (fun _ h => by cases h) propsTwo_row_tie rfl ⟨rfl, rfl⟩ (by kernel_rfl) rfl propsTwo_plain (by kernel_rfl)
#print axioms propsTwo_holds
end Go.Proofs.YthpfcplhlhnfeaaDoor.F
