/- Texts of this session for the law PropsTakes, one behind the other: interchangeref07Take, apiVal. -/
import Derived.Test.YthpfcplhlhnfeaaDoorBPropsTakesa
import Derived.Test.YthpfcplhlhnfeaaDoorBPropsTakesb
import Derived.Test.YthpfcplhlhnfeaaDoorBPropsTakesc
import Derived.Test.YthpfcplhlhnfeaaDoorBPropsTakesd
import Derived.Test.YthpfcplhlhnfeaaDoorBPropsTakese
import Derived.Test.YthpfcplhlhnfeaaDoorBPropsTakesf
import Derived.Test.YthpfcplhlhnfeaaDoorBPropsTakesg
namespace Go.Proofs.YthpfcplhlhnfeaaDoor.F
open Go.RowKit Go.Proofs.YthpfcplhlhnfeaaDoorW.PrintWords Go.Proofs.YthpfcplhlhnfeaaDoorW.PrintLast Go.Proofs.YthpfcplhlhnfeaaDoorW.PrintMore
attribute [local go_sem] max2_int min2_int max_two min_two max_three min_three max_four min_four
set_option linter.unusedVariables false
set_option linter.unusedSimpArgs false
set_option maxRecDepth 4000
set_option linter.unnecessarySimpa false

/-! ### interchangeref07_Take: function 16 -/
mutual
def interchangeref07_Take.j0 : Nat → ByteArray → Bool → Option (Int × Int × Int × (List (S42)) × Int)
  | 0, _, _ => none
  | k + 1, x0, x30 => if x30 = true then (some (0, 0, 0, ([] : List (S42)), 7)) else (if 4 ≤ 12 then (if 12 ≤ (x0.size : Int) then ((interchangeref01_Take.f k (x0.extract 4 12) 8).bind fun bt256 => (if 12 ≤ 14 then (if 14 ≤ (x0.size : Int) then ((interchangeref01_Take.f k (x0.extract 12 14) 2).bind fun bt259 => (if 0 < (x0.size : Int) then (if 1 < (x0.size : Int) then ((interchangeref07_Which.f k bt259.1).bind fun t263 => (interchangeref07_Take.l0 k bt256.1 t263 (x0.extract 14 x0.size) 0 (wrap64 ((wrap64 (256 * (wrap64 (bt x0 0)))) + (wrap64 (bt x0 1)))) bt256.1 bt259.1 ([] : List (S42)))) else (none)) else (none))) else (none)) else (none))) else (none)) else (none))
def interchangeref07_Take.l0 : Nat → Int → List Int → ByteArray → Int → Int → Int → Int → List (S42) → Option (Int × Int × Int × (List (S42)) × Int)
  | 0, _, _, _, _, _, _, _, _ => none
  | k + 1, x4, x11, x12, x13, x263000, x263001, x263002, x263003 => if x13 < (x11.length : Int) then (if 0 ≤ x13 then (if 0 ≤ (rd x11 x13) then (if (rd x11 x13) < 14 then ((interchangeref07_take.f k (bt (⟨#[83, 83, 84, 111, 111, 83, 83, 83, 83, 113, 83, 83, 83, 83]⟩ : ByteArray) (rd x11 x13)) x12).bind fun bt267 => (if bt267.2.2.2 = 0 then (if x263003.length < 5864062014805 then (interchangeref07_Take.l0 k x4 x11 bt267.2.2.1 (wrap64 (x13 + 1)) x263000 x263001 x263002 (x263003 ++ [(⟨bt267.1, bt267.2.1⟩ : S42)])) else (none)) else (some (0, 0, 0, ([] : List (S42)), 7)))) else (none)) else (none)) else (none)) else ((interchangeref07_form.f k x263000 x263001 x263002 x263003).bind fun t275 => (if (x12.size : Int) > 0 then (interchangeref07_Take.j2 k x4 true x263000 x263001 x263002 x263003) else (if t275 = true then ((interchangeref07_values.f k x263000 x263001 x263002 x263003).bind fun t276 => (interchangeref07_Take.j2 k x4 (t276 != 0) x263000 x263001 x263002 x263003)) else (interchangeref07_Take.j2 k x4 true x263000 x263001 x263002 x263003))))
def interchangeref07_Take.j2 : Nat → Int → Bool → Int → Int → Int → List (S42) → Option (Int × Int × Int × (List (S42)) × Int)
  | 0, _, _, _, _, _, _ => none
  | k + 1, x4, x101, x263000, x263001, x263002, x263003 => if x101 = true then (some (0, 0, 0, ([] : List (S42)), 7)) else (if x4 > 65536 then (some (0, 0, 0, ([] : List (S42)), 4)) else (some (x263000, x263001, x263002, x263003, 0)))
end
def interchangeref07_Take.f (k : Nat) (a0 : ByteArray) : Option (Int × Int × Int × (List (S42)) × Int) := if (a0.size : Int) < 14 then (interchangeref07_Take.j0 k a0 true) else (if 2 < (a0.size : Int) then (if (bt a0 2) = 0 then (if 3 < (a0.size : Int) then (interchangeref07_Take.j0 k a0 ((bt a0 3) != 0)) else (none)) else (interchangeref07_Take.j0 k a0 true)) else (none))
theorem interchangeref07_Take.mono_l : ∀ k, (∀ y0 y1, LeO (interchangeref07_Take.j0 k y0 y1) (interchangeref07_Take.j0 (k + 1) y0 y1)) ∧ (∀ y0 y1 y2 y3 y4 y5 y6 y7, LeO (interchangeref07_Take.l0 k y0 y1 y2 y3 y4 y5 y6 y7) (interchangeref07_Take.l0 (k + 1) y0 y1 y2 y3 y4 y5 y6 y7)) ∧ (∀ y0 y1 y2 y3 y4 y5, LeO (interchangeref07_Take.j2 k y0 y1 y2 y3 y4 y5) (interchangeref07_Take.j2 (k + 1) y0 y1 y2 y3 y4 y5))
  | 0 => ⟨fun _ _ r h => by simp [interchangeref07_Take.j0] at h, fun _ _ _ _ _ _ _ _ r h => by simp [interchangeref07_Take.l0] at h, fun _ _ _ _ _ _ r h => by simp [interchangeref07_Take.j2] at h⟩
  | k + 1 => by
    obtain ⟨ih0, ih1, ih2⟩ := interchangeref07_Take.mono_l k
    refine ⟨?_, ?_, ?_⟩
    · intro y0 y1
      unfold interchangeref07_Take.j0
      repeat' first
      | (with_reducible exact ih0 _ _)
      | (with_reducible exact ih1 _ _ _ _ _ _ _ _)
      | (with_reducible exact ih2 _ _ _ _ _ _)
      | (with_reducible exact interchangeref01_Take.mono _ _ _)
      | (with_reducible exact interchangeref07_Which.mono _ _)
      | (with_reducible exact interchangeref07_form.mono _ _ _ _ _)
      | (with_reducible exact interchangeref07_take.mono _ _ _)
      | (with_reducible exact interchangeref07_values.mono _ _ _ _ _)
      | (with_reducible exact LeO.refl _)
      | (with_reducible exact LeO.none _)
      | (with_reducible refine LeO.ite ?_ ?_)
      | (with_reducible refine LeO.bind ?_ (fun _ => ?_))
      | exact ih0 _ _
      | exact ih1 _ _ _ _ _ _ _ _
      | exact ih2 _ _ _ _ _ _
      | exact interchangeref01_Take.mono _ _ _
      | exact interchangeref07_Which.mono _ _
      | exact interchangeref07_form.mono _ _ _ _ _
      | exact interchangeref07_take.mono _ _ _
      | exact interchangeref07_values.mono _ _ _ _ _
      | exact LeO.none _
      | refine LeO.ite ?_ ?_
      | refine LeO.bind ?_ (fun _ => ?_)
    · intro y0 y1 y2 y3 y4 y5 y6 y7
      unfold interchangeref07_Take.l0
      repeat' first
      | (with_reducible exact ih0 _ _)
      | (with_reducible exact ih1 _ _ _ _ _ _ _ _)
      | (with_reducible exact ih2 _ _ _ _ _ _)
      | (with_reducible exact interchangeref01_Take.mono _ _ _)
      | (with_reducible exact interchangeref07_Which.mono _ _)
      | (with_reducible exact interchangeref07_form.mono _ _ _ _ _)
      | (with_reducible exact interchangeref07_take.mono _ _ _)
      | (with_reducible exact interchangeref07_values.mono _ _ _ _ _)
      | (with_reducible exact LeO.refl _)
      | (with_reducible exact LeO.none _)
      | (with_reducible refine LeO.ite ?_ ?_)
      | (with_reducible refine LeO.bind ?_ (fun _ => ?_))
      | exact ih0 _ _
      | exact ih1 _ _ _ _ _ _ _ _
      | exact ih2 _ _ _ _ _ _
      | exact interchangeref01_Take.mono _ _ _
      | exact interchangeref07_Which.mono _ _
      | exact interchangeref07_form.mono _ _ _ _ _
      | exact interchangeref07_take.mono _ _ _
      | exact interchangeref07_values.mono _ _ _ _ _
      | exact LeO.none _
      | refine LeO.ite ?_ ?_
      | refine LeO.bind ?_ (fun _ => ?_)
    · intro y0 y1 y2 y3 y4 y5
      unfold interchangeref07_Take.j2
      repeat' first
      | (with_reducible exact ih0 _ _)
      | (with_reducible exact ih1 _ _ _ _ _ _ _ _)
      | (with_reducible exact ih2 _ _ _ _ _ _)
      | (with_reducible exact interchangeref01_Take.mono _ _ _)
      | (with_reducible exact interchangeref07_Which.mono _ _)
      | (with_reducible exact interchangeref07_form.mono _ _ _ _ _)
      | (with_reducible exact interchangeref07_take.mono _ _ _)
      | (with_reducible exact interchangeref07_values.mono _ _ _ _ _)
      | (with_reducible exact LeO.refl _)
      | (with_reducible exact LeO.none _)
      | (with_reducible refine LeO.ite ?_ ?_)
      | (with_reducible refine LeO.bind ?_ (fun _ => ?_))
      | exact ih0 _ _
      | exact ih1 _ _ _ _ _ _ _ _
      | exact ih2 _ _ _ _ _ _
      | exact interchangeref01_Take.mono _ _ _
      | exact interchangeref07_Which.mono _ _
      | exact interchangeref07_form.mono _ _ _ _ _
      | exact interchangeref07_take.mono _ _ _
      | exact interchangeref07_values.mono _ _ _ _ _
      | exact LeO.none _
      | refine LeO.ite ?_ ?_
      | refine LeO.bind ?_ (fun _ => ?_)
theorem interchangeref07_Take.mono : ∀ a0 k, LeO (interchangeref07_Take.f k a0) (interchangeref07_Take.f (k + 1) a0) := by
  intro a0 k
  obtain ⟨ih0, ih1, ih2⟩ := interchangeref07_Take.mono_l k
  unfold interchangeref07_Take.f
  repeat' first
      | (with_reducible exact ih0 _ _)
      | (with_reducible exact ih1 _ _ _ _ _ _ _ _)
      | (with_reducible exact ih2 _ _ _ _ _ _)
      | (with_reducible exact interchangeref01_Take.mono _ _ _)
      | (with_reducible exact interchangeref07_Which.mono _ _)
      | (with_reducible exact interchangeref07_form.mono _ _ _ _ _)
      | (with_reducible exact interchangeref07_take.mono _ _ _)
      | (with_reducible exact interchangeref07_values.mono _ _ _ _ _)
      | (with_reducible exact LeO.refl _)
      | (with_reducible exact LeO.none _)
      | (with_reducible refine LeO.ite ?_ ?_)
      | (with_reducible refine LeO.bind ?_ (fun _ => ?_))
      | exact ih0 _ _
      | exact ih1 _ _ _ _ _ _ _ _
      | exact ih2 _ _ _ _ _ _
      | exact interchangeref01_Take.mono _ _ _
      | exact interchangeref07_Which.mono _ _
      | exact interchangeref07_form.mono _ _ _ _ _
      | exact interchangeref07_take.mono _ _ _
      | exact interchangeref07_values.mono _ _ _ _ _
      | exact LeO.none _
      | refine LeO.ite ?_ ?_
      | refine LeO.bind ?_ (fun _ => ?_)
def interchangeref07_Take.T5 : Bool × List (List Nat × List Nat) := (true, [([], []), ([0], [0]), ([1], [1]), ([2], [2]), ([], []), ([4], [4]), ([5], [5]), ([3, 6], [3, 6]), ([], []), ([], []), ([7, 8, 9], [7, 8, 9]), ([], []), ([11, 10, 0, 1, 2, 3, 4, 5, 6, 7, 8, 9, 10, 11], [10, 11])])
def interchangeref07_Take.B5 : List Nat := [0, 1, 3, 7, 0, 16, 48, 127, 0, 0, 1023, 0, 4095]
theorem interchangeref07_Take.tab5 : rtab .any (opsOf Tryd.f16 5) = interchangeref07_Take.T5 := by kernel_rfl
theorem interchangeref07_Take.bits5 : waitsOk interchangeref07_Take.T5.2 interchangeref07_Take.B5 = true := by kernel_rfl
set_option maxHeartbeats 8000000 in
set_option maxRecDepth 100000 in
theorem interchangeref07_Take.calls (k : Nat) (a0 : ByteArray) (r1 : Int) (r2 : Int) (r3 : Int) (r4 : List (S42)) (r5 : Int) (w : World) (h : interchangeref07_Take.f k a0 = some (r1, r2, r3, r4, r5)) :
    Calls Tryd.prog 16 #[.string a0] w fun e w' => ∃ v3_ : Value, e = .returned (.tuple #[.agg #[.int .i64 r1, .int .u64 r2, .int .u64 r3, v3_], .int .i64 r5]) ∧ Kd.R k42 42 w' w.heap.size (fun _ => True) v3_ r4 ∧ Below w.heap.size w w' := by
  have hu25 := Tryd.underlying25
  have hu42 := Tryd.underlying42
  have HB := Aside0.mk (Below.refl w.heap.size w)
  have H : (if (a0.size : Int) < 14 then (interchangeref07_Take.j0 k a0 true) else (if 2 < (a0.size : Int) then (if (bt a0 2) = 0 then (if 3 < (a0.size : Int) then (interchangeref07_Take.j0 k a0 ((bt a0 3) != 0)) else (none)) else (interchangeref07_Take.j0 k a0 true)) else (none))) = some (r1, r2, r3, r4, r5) := h
  clear h
  have HC2 := Aside0.mk H
  clear H
  go_enter Tryd.func16, Tryd.ntmps16
  go_upto_region 1 with (first | ((with_reducible refine gate_dst (N := 2) rfl ?_); refine box_event ?hg (N := 2) ?hd (cs := #[.int .i64 0, .int .u64 0, .int .u64 0, .slice none 0 0]) (t := 25) ?hr ?_; (case hd => rfl); (case hg => rfl); (case hr => first | (go_simp; done) | (go_simp; rfl)); intro gb255 hg w3 hbox hb; have n0_ := Aside0.mk (below_step (by repeat (first | (with_reducible first | exact HB.out | apply below_alloc | apply pw_below_drewN | apply below_drew1) | exact HB.out)) hb); have n1_ := Aside0.mk (hbox); have n2_ := Aside0.mk ((by rw [hg]; exact (below_size (by repeat (first | (with_reducible first | exact HB.out | apply below_alloc | apply pw_below_drewN | apply below_drew1) | exact HB.out))) : w.heap.size ≤ gb255)); have n3_ := Aside0.mk ((by rw [hg]; exact (below_size (by repeat (first | (with_reducible first | exact HB.out | apply below_alloc | apply pw_below_drewN | apply below_drew1) | exact HB.out))) : w.heap.size ≤ gb255)); clear HB; have HB := n0_; have BK255 := n1_; have GW255 := n2_; have GE255 := n3_; clear n0_ n1_ n2_ n3_; clear hb hbox hg))
  (try simp only [Act.put, List.setIfInBounds_toArray, List.set_cons_zero, List.set_cons_succ])
  go_cut [30] (fun v30 wc => ∃ (kq : Nat) (x30_1 : Bool), v30 = .bool x30_1 ∧ Aside0 (interchangeref07_Take.j0 kq a0 x30_1 = some (r1, r2, r3, r4, r5)) ∧ Aside0 (kq ≤ k) ∧ Aside0 (wc.heap[gb255]? = some (.cells #[.int .i64 0, .int .u64 0, .int .u64 0, (.slice none 0 0)] 25 (0, 0))) ∧ Aside0 (Below w.heap.size w wc))
  case first =>
    have H := HC2.out
    clear HC2
    by_cases c4 : (a0.size : Int) < 14
    · rw [if_pos c4] at H
      have c4b0 : decide ((a0.size : Int) < 14) = true := decide_eq_true c4
      have c4b1 : decide (a0.size < 14) = true := decide_eq_true (by omega)
      clear c4
      (first | rw [c4b0] | (simp only [i64_w, i32_w]; rw [c4b0]) | skip)
      have H' := Aside0.mk H
      clear H
      go_wp2
      go_meet
      case rel => exact ⟨_, (true), (by first | rfl | (simp; done) | (simp [*]; done)), H', ⟨by first | omega | exact Nat.le_refl _⟩, ⟨by (with_reducible repeat (first | refine blk_drewN ?_ _ | refine blk_drew ?_ | refine blk_alloc ?_ _)); exact BK255.out⟩, ⟨by repeat (first | (with_reducible first | exact HB.out | apply below_alloc | apply pw_below_drewN | apply below_drew1 | refine below_set ?_ GE255.out) | exact HB.out)⟩⟩
    · rw [if_neg c4] at H
      have c4b0 : decide ((a0.size : Int) < 14) = false := decide_eq_false c4
      have c4b1 : decide (a0.size < 14) = false := decide_eq_false (by omega)
      clear c4
      (first | rw [c4b0] | (simp only [i64_w, i32_w]; rw [c4b0]) | skip)
      by_cases c5 : 2 < (a0.size : Int)
      · rw [if_pos c5] at H
        have c5b0 : decide (2 < (a0.size : Int)) = true := decide_eq_true c5
        have c5b1 : decide (2 < a0.size) = true := decide_eq_true (by omega)
        clear c5
        by_cases c7 : (bt a0 2) = 0
        · rw [if_pos c7] at H
          have c7b0 : ((bt a0 2) == 0) = true := beq_iff_eq.mpr c7
          have c7b1 : ((bt a0 2) != 0) = false := bne_eq_false_iff_eq.mpr c7
          clear c7
          by_cases c8 : 3 < (a0.size : Int)
          · rw [if_pos c8] at H
            have c8b0 : decide (3 < (a0.size : Int)) = true := decide_eq_true c8
            have c8b1 : decide (3 < a0.size) = true := decide_eq_true (by omega)
            clear c8
            have H' := Aside0.mk H
            clear H
            have p6 : 0 ≤ (2 : Int) := (by omega)
            have q6 : 2 < a0.size := (by have : (2 : Int) < (a0.size : Int) := of_decide_eq_true (by first | (with_reducible assumption) | assumption); omega)
            have hx6 : ∀ h : 2 < a0.size, ((a0[2]'h).toNat : Int) = bt a0 2 := bt_at a0 2
            clear p6
            have qi6 : (2 < (a0.size : Int)) = True := eq_true (of_decide_eq_true (by first | (with_reducible assumption) | assumption))
            replace q6 := eq_true q6
            have p9 : 0 ≤ (3 : Int) := (by omega)
            have q9 : 3 < a0.size := (by have : (3 : Int) < (a0.size : Int) := of_decide_eq_true (by first | (with_reducible assumption) | assumption); omega)
            have hx9 : ∀ h : 3 < a0.size, ((a0[3]'h).toNat : Int) = bt a0 3 := bt_at a0 3
            clear p9
            have qi9 : (3 < (a0.size : Int)) = True := eq_true (of_decide_eq_true (by first | (with_reducible assumption) | assumption))
            replace q9 := eq_true q9
            go_wp2
            go_meet
            case rel => exact ⟨_, (((bt a0 3) != 0)), (by first | rfl | (simp; done) | (simp [*]; done)), H', ⟨by first | omega | exact Nat.le_refl _⟩, ⟨by (with_reducible repeat (first | refine blk_drewN ?_ _ | refine blk_drew ?_ | refine blk_alloc ?_ _)); exact BK255.out⟩, ⟨by repeat (first | (with_reducible first | exact HB.out | apply below_alloc | apply pw_below_drewN | apply below_drew1 | refine below_set ?_ GE255.out) | exact HB.out)⟩⟩
          · rw [if_neg c8] at H
            exact absurd H (by simp)
        · rw [if_neg c7] at H
          have c7b0 : ((bt a0 2) == 0) = false := beq_eq_false_iff_ne.mpr c7
          have c7b1 : ((bt a0 2) != 0) = true := bne_iff_ne.mpr c7
          have H' := Aside0.mk H
          clear H
          have p6 : 0 ≤ (2 : Int) := (by omega)
          have q6 : 2 < a0.size := (by have : (2 : Int) < (a0.size : Int) := of_decide_eq_true (by first | (with_reducible assumption) | assumption); omega)
          have hx6 : ∀ h : 2 < a0.size, ((a0[2]'h).toNat : Int) = bt a0 2 := bt_at a0 2
          clear p6
          have qi6 : (2 < (a0.size : Int)) = True := eq_true (of_decide_eq_true (by first | (with_reducible assumption) | assumption))
          replace q6 := eq_true q6
          go_wp2
          go_meet
          case rel => exact ⟨_, (true), (by first | rfl | (simp; done) | (simp [*]; done)), H', ⟨by first | omega | exact Nat.le_refl _⟩, ⟨by (with_reducible repeat (first | refine blk_drewN ?_ _ | refine blk_drew ?_ | refine blk_alloc ?_ _)); exact BK255.out⟩, ⟨by repeat (first | (with_reducible first | exact HB.out | apply below_alloc | apply pw_below_drewN | apply below_drew1 | refine below_set ?_ GE255.out) | exact HB.out)⟩⟩
      · rw [if_neg c5] at H
        exact absurd H (by simp)
  case rest =>
    clear HC2
    try clear c1
    try clear p2
    try clear c4
    try clear c4b0
    try clear c4b1
    try clear c5
    try clear c5b0
    try clear c5b1
    try clear p6
    try clear q6
    try clear hx6
    try clear qi6
    try clear c7
    try clear c7b0
    try clear c7b1
    try clear c8
    try clear c8b0
    try clear c8b1
    try clear p9
    try clear q9
    try clear hx9
    try clear qi9
    try clear p6
    try clear p9
    try clear q6
    try clear q9
    obtain ⟨kq, x30_1, rfl, HA, HJ1, BK255, HB⟩ := hcut
    cases kq with
    | zero => exact absurd HA.out (by simp [interchangeref07_Take.j0])
    | succ kj1 =>
      have H := HA.out
      clear HA
      simp only [interchangeref07_Take.j0] at H
      by_cases c10 : x30_1 = true
      · subst c10
        have H1 : (some (0, 0, 0, ([] : List (S42)), 7)) = some (r1, r2, r3, r4, r5) := by rw [if_pos rfl] at H; exact H
        clear H
        have H := H1
        clear H1
        simp only [Option.some.injEq, Prod.mk.injEq] at H
        obtain ⟨rfl, rfl, rfl, rfl, rfl⟩ := H
        have hcz11_0 : wc.cell? ⟨gb255, 0, none⟩ = some (.int .i64 0) := (blk_cell BK255.out 0).trans rfl
        have hcz11_1 : wc.cell? ⟨gb255, 1, none⟩ = some (.int .u64 0) := (blk_cell BK255.out 1).trans rfl
        have hcz11_2 : wc.cell? ⟨gb255, 2, none⟩ = some (.int .u64 0) := (blk_cell BK255.out 2).trans rfl
        have hcz11_3 : wc.cell? ⟨gb255, 3, none⟩ = some (.slice none 0 0) := (blk_cell BK255.out 3).trans rfl
        have hfz11_0 := blk_frozen BK255.out 0
        have hfz11_1 := blk_frozen BK255.out 1
        have hfz11_2 := blk_frozen BK255.out 2
        have hfz11_3 := blk_frozen BK255.out 3
        go_wp2
        refine bodyPost_ret (results_ct rfl _ _ gb255 25 #[.int .i64 0, .int .u64 0, .int .u64 0, .slice none 0 0] (0, 0) _ rfl (by (with_reducible repeat (first | refine blk_drewN ?_ _ | refine blk_drew ?_ | refine blk_alloc ?_ _)); refine blk_put (cs := #[.int .i64 0, .int .u64 0, .int .u64 0, .slice none 0 0]) ?_ 3 _ rfl; (with_reducible repeat (first | refine blk_drewN ?_ _ | refine blk_drew ?_ | refine blk_alloc ?_ _)); refine blk_put (cs := #[.int .i64 0, .int .u64 0, .int .u64 0, .slice none 0 0]) ?_ 2 _ rfl; (with_reducible repeat (first | refine blk_drewN ?_ _ | refine blk_drew ?_ | refine blk_alloc ?_ _)); refine blk_put (cs := #[.int .i64 0, .int .u64 0, .int .u64 0, .slice none 0 0]) ?_ 1 _ rfl; (with_reducible repeat (first | refine blk_drewN ?_ _ | refine blk_drew ?_ | refine blk_alloc ?_ _)); refine blk_put (cs := #[.int .i64 0, .int .u64 0, .int .u64 0, .slice none 0 0]) ?_ 0 _ rfl; (with_reducible repeat (first | refine blk_drewN ?_ _ | refine blk_drew ?_ | refine blk_alloc ?_ _)); exact BK255.out) Tryd.underlying25 rfl (by kernel_rfl)) rfl ?_
        exact ⟨_, by first | rfl | (simp [errW_none, errW_some] <;> rfl) | (simp [*, errW_none, errW_some] <;> rfl), by first | exact Kd.R_nil _ _ _ _ _ | exact Kd.N_nil _ _ _ _ _ | exact Kd.V_nil _ _ _ _ _ | exact Kd.Q_nil _ _ _ _ _ | exact Kd.S_nil _ _ _ _ _, by repeat (first | (with_reducible first | exact HB.out | apply below_alloc | apply pw_below_drewN | apply below_drew1 | refine below_set ?_ GE255.out) | exact HB.out)⟩
      · replace c10 := Bool.eq_false_iff.mpr c10
        subst c10
        have H1 : (if 4 ≤ 12 then (if 12 ≤ (a0.size : Int) then ((interchangeref01_Take.f kj1 (a0.extract 4 12) 8).bind fun bt256 => (if 12 ≤ 14 then (if 14 ≤ (a0.size : Int) then ((interchangeref01_Take.f kj1 (a0.extract 12 14) 2).bind fun bt259 => (if 0 < (a0.size : Int) then (if 1 < (a0.size : Int) then ((interchangeref07_Which.f kj1 bt259.1).bind fun t263 => (interchangeref07_Take.l0 kj1 bt256.1 t263 (a0.extract 14 a0.size) 0 (wrap64 ((wrap64 (256 * (wrap64 (bt a0 0)))) + (wrap64 (bt a0 1)))) bt256.1 bt259.1 ([] : List (S42)))) else (none)) else (none))) else (none)) else (none))) else (none)) else (none)) = some (r1, r2, r3, r4, r5) := by rw [if_neg (show ¬ (false = true) by decide)] at H; exact H
        clear H
        have H := H1
        clear H1
        by_cases c12 : 4 ≤ 12
        · rw [if_pos c12] at H
          have c12b0 := eq_true c12
          have c12b1 : decide (4 ≤ 12) = true := decide_eq_true c12
          clear c12
          by_cases c13 : 12 ≤ (a0.size : Int)
          · rw [if_pos c13] at H
            have c13b0 := eq_true c13
            have c13b1 : decide (12 ≤ (a0.size : Int)) = true := decide_eq_true c13
            clear c13
            replace H := Option.bind_eq_some_iff.mp H
            obtain ⟨⟨t256, t257, t258⟩, A140, H⟩ := H
            replace H : (if 12 ≤ 14 then (if 14 ≤ (a0.size : Int) then ((interchangeref01_Take.f kj1 (a0.extract 12 14) 2).bind fun bt259 => (if 0 < (a0.size : Int) then (if 1 < (a0.size : Int) then ((interchangeref07_Which.f kj1 bt259.1).bind fun t263 => (interchangeref07_Take.l0 kj1 t256 t263 (a0.extract 14 a0.size) 0 (wrap64 ((wrap64 (256 * (wrap64 (bt a0 0)))) + (wrap64 (bt a0 1)))) t256 bt259.1 ([] : List (S42)))) else (none)) else (none))) else (none)) else (none)) = some (r1, r2, r3, r4, r5) := H
            have A14 := Aside0.mk A140
            clear A140
            by_cases c15 : 12 ≤ 14
            · rw [if_pos c15] at H
              have c15b0 := eq_true c15
              have c15b1 : decide (12 ≤ 14) = true := decide_eq_true c15
              clear c15
              by_cases c16 : 14 ≤ (a0.size : Int)
              · rw [if_pos c16] at H
                have c16b0 := eq_true c16
                have c16b1 : decide (14 ≤ (a0.size : Int)) = true := decide_eq_true c16
                clear c16
                replace H := Option.bind_eq_some_iff.mp H
                obtain ⟨⟨t259, t260, t261⟩, A170, H⟩ := H
                replace H : (if 0 < (a0.size : Int) then (if 1 < (a0.size : Int) then ((interchangeref07_Which.f kj1 t259).bind fun t263 => (interchangeref07_Take.l0 kj1 t256 t263 (a0.extract 14 a0.size) 0 (wrap64 ((wrap64 (256 * (wrap64 (bt a0 0)))) + (wrap64 (bt a0 1)))) t256 t259 ([] : List (S42)))) else (none)) else (none)) = some (r1, r2, r3, r4, r5) := H
                have A17 := Aside0.mk A170
                clear A170
                by_cases c18 : 0 < (a0.size : Int)
                · rw [if_pos c18] at H
                  have c18b0 : decide (0 < (a0.size : Int)) = true := decide_eq_true c18
                  have c18b1 : decide (0 < a0.size) = true := decide_eq_true (by omega)
                  clear c18
                  by_cases c20 : 1 < (a0.size : Int)
                  · rw [if_pos c20] at H
                    have c20b0 : decide (1 < (a0.size : Int)) = true := decide_eq_true c20
                    have c20b1 : decide (1 < a0.size) = true := decide_eq_true (by omega)
                    clear c20
                    replace H := Option.bind_eq_some_iff.mp H
                    obtain ⟨t263, A220, H⟩ := H
                    replace H : (interchangeref07_Take.l0 kj1 t256 t263 (a0.extract 14 a0.size) 0 (wrap64 ((wrap64 (256 * (wrap64 (bt a0 0)))) + (wrap64 (bt a0 1)))) t256 t259 ([] : List (S42))) = some (r1, r2, r3, r4, r5) := H
                    have A22 := Aside0.mk A220
                    clear A220
                    have c23b0 := eq_true (of_decide_eq_true (by first | (with_reducible assumption) | assumption) : 14 ≤ (a0.size : Int))
                    have H' := Aside0.mk H
                    clear H
                    try go_wp2_with (first | ((with_reducible refine gate_callee (f := 36) rfl ?_); refine goesL_ (some 35) rfl rfl Tryd.func36 (by kernel_rfl) rfl #[.string (a0.extract 4 12), .int .i64 8] rfl (by (try simp only [List.map_toArray, List.map_cons, List.map_nil]); first | done | rfl | (simp only [List.length_drop, List.length_take]; rfl)) ?_; (with_reducible refine (interchangeref01_Take.calls kj1 (a0.extract 4 12) 8 t256 t257 t258 _ A14.out).mono ?_); rintro e w' ⟨rfl, ⟨nd, rfl⟩⟩; refine ⟨_, rfl, ?_⟩; (try (rw [drewN_self wc]; generalize hq_ : World.drewN wc _ = wc; have n0_ : Aside0 (wc.heap[gb255]? = some (.cells #[.int .i64 0, .int .u64 0, .int .u64 0, .slice none 0 0] 25 (0, 0))) := ⟨by rw [← hq_]; exact (by (with_reducible repeat (first | refine blk_drewN ?_ _ | refine blk_drew ?_ | refine blk_alloc ?_ _)); exact BK255.out)⟩; have n1_ : Aside0 (Below w.heap.size w wc) := ⟨by rw [← hq_]; exact (by repeat (first | (with_reducible first | exact HB.out | apply below_alloc | apply pw_below_drewN | apply below_drew1 | refine below_set ?_ GE255.out) | exact HB.out))⟩; clear BK255 HB hq_; have BK255 := n0_; have HB := n1_; clear n0_ n1_))) | ((with_reducible refine gate_callee (f := 36) rfl ?_); refine goesL_ (some 42) rfl rfl Tryd.func36 (by kernel_rfl) rfl #[.string (a0.extract 12 14), .int .i64 2] rfl (by (try simp only [List.map_toArray, List.map_cons, List.map_nil]); first | done | rfl | (simp only [List.length_drop, List.length_take]; rfl)) ?_; (with_reducible refine (interchangeref01_Take.calls kj1 (a0.extract 12 14) 2 t259 t260 t261 _ A17.out).mono ?_); rintro e w' ⟨rfl, ⟨nd, rfl⟩⟩; refine ⟨_, rfl, ?_⟩; (try (rw [drewN_self wc]; generalize hq_ : World.drewN wc _ = wc; have n0_ : Aside0 (wc.heap[gb255]? = some (.cells #[.int .i64 0, .int .u64 0, .int .u64 0, .slice none 0 0] 25 (0, 0))) := ⟨by rw [← hq_]; exact (by (with_reducible repeat (first | refine blk_drewN ?_ _ | refine blk_drew ?_ | refine blk_alloc ?_ _)); exact BK255.out)⟩; have n1_ : Aside0 (Below w.heap.size w wc) := ⟨by rw [← hq_]; exact (by repeat (first | (with_reducible first | exact HB.out | apply below_alloc | apply pw_below_drewN | apply below_drew1 | refine below_set ?_ GE255.out) | exact HB.out))⟩; clear BK255 HB hq_; have BK255 := n0_; have HB := n1_; clear n0_ n1_))))
                    have n0_ := Aside0.mk (blk_drew BK255.out)
                    have n1_ := Aside0.mk (below_drew1 HB.out)
                    clear BK255
                    clear HB
                    have BK255 := n0_
                    have HB := n1_
                    clear n0_ n1_
                    have p19 : 0 ≤ (0 : Int) := (by omega)
                    have q19 : 0 < a0.size := (by have : (0 : Int) < (a0.size : Int) := of_decide_eq_true (by first | (with_reducible assumption) | assumption); omega)
                    have hx19 : ∀ h : 0 < a0.size, ((a0[0]'h).toNat : Int) = bt a0 0 := bt_at a0 0
                    clear p19
                    have qi19 : (0 < (a0.size : Int)) = True := eq_true (of_decide_eq_true (by first | (with_reducible assumption) | assumption))
                    replace q19 := eq_true q19
                    have p21 : 0 ≤ (1 : Int) := (by omega)
                    have q21 : 1 < a0.size := (by have : (1 : Int) < (a0.size : Int) := of_decide_eq_true (by first | (with_reducible assumption) | assumption); omega)
                    have hx21 : ∀ h : 1 < a0.size, ((a0[1]'h).toNat : Int) = bt a0 1 := bt_at a0 1
                    clear p21
                    have qi21 : (1 < (a0.size : Int)) = True := eq_true (of_decide_eq_true (by first | (with_reducible assumption) | assumption))
                    replace q21 := eq_true q21
                    refine start_ (n := 13) (S := fun w' => True) (ds := []) #[false, false, false, false, false, false, false, false, false, false, false, false, false] (by kernel_rfl) rfl rfl trivial (fun hHeld => ?_); refine with_tabW interchangeref07_Take.tab5 interchangeref07_Take.bits5 (fun HT_ HW_ => ?_)
                    generalize wc.drew = w24 at BK255 HB hHeld ⊢
                    refine pure_ (i := 0) (N := some 46) (v := ?_) (a' := ?_) #[true, false, false, false, false, false, false, false, false, false, false, false, false] rfl rfl (any_of HT_.out (by kernel_rfl)) (fun _ _ _ h => h) (Or.inl ⟨by rfl, ?_⟩) ?_ ?_
                    rotate_left
                    · intro w'
                      go_simp
                      with_reducible rfl
                    rotate_left
                    · simp only [Act.put, List.setIfInBounds_toArray, List.set_cons_zero, List.set_cons_succ, i64_w, i32_w]
                      rfl
                    refine pure_ (i := 4) (N := some 50) (v := ?_) (a' := ?_) #[true, false, false, false, true, false, false, false, false, false, false, false, false] rfl rfl (any_of HT_.out (by kernel_rfl)) (fun _ _ _ h => h) (Or.inl ⟨by rfl, ?_⟩) ?_ ?_
                    rotate_left
                    · intro w'
                      go_simp
                      with_reducible rfl
                    rotate_left
                    · simp only [Act.put, List.setIfInBounds_toArray, List.set_cons_zero, List.set_cons_succ, i64_w, i32_w]
                      rfl
                    refine pure_ (i := 8) (N := some 54) (v := ?_) (a' := ?_) #[true, false, false, false, true, false, false, false, true, false, false, false, false] rfl rfl (any_of HT_.out (by kernel_rfl)) (fun _ _ _ h => h) (Or.inl ⟨by rfl, ?_⟩) ?_ ?_
                    rotate_left
                    · intro w'
                      go_simp
                      with_reducible rfl
                    rotate_left
                    · simp only [Act.put, List.setIfInBounds_toArray, List.set_cons_zero, List.set_cons_succ, i64_w, i32_w]
                      rfl
                    refine pure_ (i := 9) (N := some 55) (v := ?_) (a' := ?_) #[true, false, false, false, true, false, false, false, true, true, false, false, false] rfl rfl (any_of HT_.out (by kernel_rfl)) (fun _ _ _ h => h) (Or.inl ⟨by rfl, ?_⟩) ?_ ?_
                    rotate_left
                    · intro w'
                      go_simp
                      with_reducible rfl
                    rotate_left
                    · simp only [Act.put, List.setIfInBounds_toArray, List.set_cons_zero, List.set_cons_succ, i64_w, i32_w]
                      rfl
                    refine take_ (i := 1) (N := some 47) (v := ?_) (a' := ?_) #[true, true, false, false, true, false, false, false, true, true, false, false, false] rfl rfl (take_ofW HT_.out HW_.out (by kernel_rfl)) (fun _ _ _ h => h) (Or.inl ⟨by rfl, ?_⟩) hHeld ?_ ?_
                    rotate_left
                    · intro w' _
                      go_simp
                      with_reducible rfl
                    rotate_left
                    · simp only [Act.put, List.setIfInBounds_toArray, List.set_cons_zero, List.set_cons_succ, i64_w, i32_w]
                      rfl
                    refine pure_ (i := 2) (N := some 48) (v := ?_) (a' := ?_) #[true, true, true, false, true, false, false, false, true, true, false, false, false] rfl rfl (any_of HT_.out (by kernel_rfl)) (fun _ _ _ h => h) (Or.inl ⟨by rfl, ?_⟩) ?_ ?_
                    rotate_left
                    · intro w'
                      go_simp
                      with_reducible rfl
                    rotate_left
                    · simp only [Act.put, List.setIfInBounds_toArray, List.set_cons_zero, List.set_cons_succ, i64_w, i32_w]
                      rfl
                    refine pure_ (i := 3) (N := some 49) (v := ?_) (a' := ?_) #[true, true, true, true, true, false, false, false, true, true, false, false, false] rfl rfl (any_of HT_.out (by kernel_rfl)) (fun _ _ _ h => h) (Or.inl ⟨by rfl, ?_⟩) ?_ ?_
                    rotate_left
                    · intro w'
                      go_simp
                      with_reducible rfl
                    rotate_left
                    · simp only [Act.put, List.setIfInBounds_toArray, List.set_cons_zero, List.set_cons_succ, i64_w, i32_w]
                      rfl
                    refine take_ (i := 5) (N := some 51) (v := ?_) (a' := ?_) #[true, true, true, true, true, true, false, false, true, true, false, false, false] rfl rfl (take_ofW HT_.out HW_.out (by kernel_rfl)) (fun _ _ _ h => h) (Or.inl ⟨by rfl, ?_⟩) hHeld ?_ ?_
                    rotate_left
                    · intro w' _
                      go_simp
                      with_reducible rfl
                    rotate_left
                    · simp only [Act.put, List.setIfInBounds_toArray, List.set_cons_zero, List.set_cons_succ, i64_w, i32_w]
                      rfl
                    refine pure_ (i := 6) (N := some 52) (v := ?_) (a' := ?_) #[true, true, true, true, true, true, true, false, true, true, false, false, false] rfl rfl (any_of HT_.out (by kernel_rfl)) (fun _ _ _ h => h) (Or.inl ⟨by rfl, ?_⟩) ?_ ?_
                    rotate_left
                    · intro w'
                      go_simp
                      with_reducible rfl
                    rotate_left
                    · simp only [Act.put, List.setIfInBounds_toArray, List.set_cons_zero, List.set_cons_succ, i64_w, i32_w]
                      rfl
                    refine pure_ (i := 7) (N := some 53) (v := ?_) (a' := ?_) #[true, true, true, true, true, true, true, true, true, true, false, false, false] rfl rfl (any_of HT_.out (by kernel_rfl)) (fun _ _ _ h => h) (Or.inl ⟨by rfl, ?_⟩) ?_ ?_
                    rotate_left
                    · intro w'
                      go_simp
                      with_reducible rfl
                    rotate_left
                    · simp only [Act.put, List.setIfInBounds_toArray, List.set_cons_zero, List.set_cons_succ, i64_w, i32_w]
                      rfl
                    refine pure_ (i := 10) (N := some 56) (v := ?_) (a' := ?_) #[true, true, true, true, true, true, true, true, true, true, true, false, false] rfl rfl (any_of HT_.out (by kernel_rfl)) (fun _ _ _ h => h) (Or.inl ⟨by rfl, ?_⟩) ?_ ?_
                    rotate_left
                    · intro w'
                      go_simp
                      with_reducible rfl
                    rotate_left
                    · simp only [Act.put, List.setIfInBounds_toArray, List.set_cons_zero, List.set_cons_succ, i64_w, i32_w]
                      rfl
                    refine one_ (i := 11) (N := some 10) #[true, true, true, true, true, true, true, true, true, true, true, true, false] rfl rfl (one_of HT_.out (by kernel_rfl)) (by decide) (fun K hK => ?_)
                    refine box_step ?hg (N := 10) ?hd (cs := #[.int .i64 0, .int .u64 0, .int .u64 0, .slice none 0 0]) (t := 25) ?hr ?_; (case hd => rfl); (case hg => rfl); (case hr => first | (go_simp; done) | (go_simp; rfl))
                    intro gb262 hg w25 hbox hb
                    have n0_ := Aside0.mk (blk_below (g := gb255) (o := .cells #[.int .i64 0, .int .u64 0, .int .u64 0, .slice none 0 0] 25 (0, 0)) (by (with_reducible repeat (first | refine blk_drewN ?_ _ | refine blk_drew ?_ | refine blk_alloc ?_ _)); exact BK255.out) hb)
                    have n1_ := Aside0.mk (below_step (by repeat (first | (with_reducible first | exact HB.out | apply below_alloc | apply pw_below_drewN | apply below_drew1 | refine below_set ?_ GE255.out) | exact HB.out)) hb)
                    have n2_ := Aside0.mk (hbox)
                    have n3_ := Aside0.mk ((by rw [hg]; exact (below_size (by repeat (first | (with_reducible first | exact HB.out | apply below_alloc | apply pw_below_drewN | apply below_drew1 | refine below_set ?_ GE255.out) | exact HB.out))) : w.heap.size ≤ gb262))
                    have n4_ := Aside0.mk ((by rw [hg]; exact (below_size (by repeat (first | (with_reducible first | exact HB.out | apply below_alloc | apply pw_below_drewN | apply below_drew1 | refine below_set ?_ GE255.out) | exact HB.out))) : w.heap.size ≤ gb262))
                    have n5_ := Aside0.mk ((by rw [hg]; exact Nat.ne_of_lt (blk_lt (g := gb255) (o := .cells #[.int .i64 0, .int .u64 0, .int .u64 0, .slice none 0 0] 25 (0, 0)) (by (with_reducible repeat (first | refine blk_drewN ?_ _ | refine blk_drew ?_ | refine blk_alloc ?_ _)); exact BK255.out)) : gb255 ≠ gb262))
                    have n6_ := Aside0.mk ((by rw [hg]; exact Nat.ne_of_gt (blk_lt (g := gb255) (o := .cells #[.int .i64 0, .int .u64 0, .int .u64 0, .slice none 0 0] 25 (0, 0)) (by (with_reducible repeat (first | refine blk_drewN ?_ _ | refine blk_drew ?_ | refine blk_alloc ?_ _)); exact BK255.out)) : gb262 ≠ gb255))
                    clear BK255
                    clear HB
                    have BK255 := n0_
                    have HB := n1_
                    have BK262 := n2_
                    have GW262 := n3_
                    have GE262 := n4_
                    have NB255_262 := n5_
                    have NB262_255 := n6_
                    clear n0_ n1_ n2_ n3_ n4_ n5_ n6_
                    clear hb hbox hg
                    refine hK.out _ _ trivial (fun hHeld => ?_)
                    clear hK K
                    refine norm_ (a' := ?_) ?_ ?_
                    rotate_left
                    · show Act.put _ (some 10) _ = _
                      simp only [Act.put, List.setIfInBounds_toArray, List.set_cons_zero, List.set_cons_succ, i64_w, i32_w]
                      rfl
                    refine one_ (i := 12) (N := none) #[true, true, true, true, true, true, true, true, true, true, true, true, true] rfl rfl (one_of HT_.out (by kernel_rfl)) (by decide) (fun K hK => ?_)
                    have hs26 : w25.cell? ⟨gb262, 0, none⟩ = some (.int .i64 0) := (blk_cell BK262.out 0).trans rfl
                    have hfs26 := blk_frozen BK262.out 0
                    have hns26_0 := NB255_262.out
                    have hms26_0 := NB262_255.out
                    have hs27 : w25.cell? ⟨gb262, 1, none⟩ = some (.int .u64 0) := (blk_cell BK262.out 1).trans rfl
                    have hfs27 := blk_frozen BK262.out 1
                    have hns27_0 := NB255_262.out
                    have hms27_0 := NB262_255.out
                    have hs28 : w25.cell? ⟨gb262, 2, none⟩ = some (.int .u64 0) := (blk_cell BK262.out 2).trans rfl
                    have hfs28 := blk_frozen BK262.out 2
                    have hns28_0 := NB255_262.out
                    have hms28_0 := NB262_255.out
                    have hs29 : w25.cell? ⟨gb262, 3, none⟩ = some (.slice none 0 0) := (blk_cell BK262.out 3).trans rfl
                    have hfs29 := blk_frozen BK262.out 3
                    have hns29_0 := NB255_262.out
                    have hms29_0 := NB262_255.out
                    refine skip_ (w1 := ?_) (by rfl) rfl ?_ ?_
                    rotate_left
                    · go_simp
                      rfl
                    refine hK.out _ _ trivial (fun hHeld => ?_)
                    clear hK K
                    refine done_ (done_of HT_.out (by kernel_rfl)) ?_
                    try go_wp2_with (first | ((with_reducible refine gate_callee (f := 34) rfl ?_); refine goesL_ (some 58) rfl rfl Tryd.func34 (by kernel_rfl) rfl #[.int .u64 t259] rfl (by (try simp only [List.map_toArray, List.map_cons, List.map_nil]); first | done | rfl | (simp only [List.length_drop, List.length_take]; rfl)) ?_; (with_reducible refine (interchangeref07_Which.calls kj1 t259 t263 _ A22.out).mono ?_); rintro e w30 ⟨v264, rfl, ho0, hb⟩; refine ⟨_, rfl, ?_⟩; have n0_ := Aside0.mk (Kd.R_lower ho0 (below_size (by repeat (first | (with_reducible first | exact HB.out | apply below_alloc | apply pw_below_drewN | apply below_drew1 | refine below_set ?_ GE255.out | refine below_set ?_ GE262.out) | exact HB.out)))); have n1_ := Aside0.mk (blk_below (g := gb255) (o := .cells #[.int .i64 0, .int .u64 0, .int .u64 0, .slice none 0 0] 25 (0, 0)) (by (with_reducible repeat (first | refine blk_drewN ?_ _ | refine blk_drew ?_ | refine blk_alloc ?_ _)); refine blk_far ?_ NB255_262.out _; (with_reducible repeat (first | refine blk_drewN ?_ _ | refine blk_drew ?_ | refine blk_alloc ?_ _)); refine blk_far ?_ NB255_262.out _; (with_reducible repeat (first | refine blk_drewN ?_ _ | refine blk_drew ?_ | refine blk_alloc ?_ _)); refine blk_far ?_ NB255_262.out _; (with_reducible repeat (first | refine blk_drewN ?_ _ | refine blk_drew ?_ | refine blk_alloc ?_ _)); refine blk_far ?_ NB255_262.out _; (with_reducible repeat (first | refine blk_drewN ?_ _ | refine blk_drew ?_ | refine blk_alloc ?_ _)); exact BK255.out) hb); have n2_ := Aside0.mk (blk_below (g := gb262) (o := .cells #[.int .i64 (wrap64 ((wrap64 (256 * (wrap64 (bt a0 0)))) + (wrap64 (bt a0 1)))), .int .u64 t256, .int .u64 t259, .slice none 0 0] 25 (0, 0)) (by (with_reducible repeat (first | refine blk_drewN ?_ _ | refine blk_drew ?_ | refine blk_alloc ?_ _)); refine blk_put (cs := #[.int .i64 (wrap64 ((wrap64 (256 * (wrap64 (bt a0 0)))) + (wrap64 (bt a0 1)))), .int .u64 t256, .int .u64 t259, .slice none 0 0]) ?_ 3 _ rfl; (with_reducible repeat (first | refine blk_drewN ?_ _ | refine blk_drew ?_ | refine blk_alloc ?_ _)); refine blk_put (cs := #[.int .i64 (wrap64 ((wrap64 (256 * (wrap64 (bt a0 0)))) + (wrap64 (bt a0 1)))), .int .u64 t256, .int .u64 0, .slice none 0 0]) ?_ 2 _ rfl; (with_reducible repeat (first | refine blk_drewN ?_ _ | refine blk_drew ?_ | refine blk_alloc ?_ _)); refine blk_put (cs := #[.int .i64 (wrap64 ((wrap64 (256 * (wrap64 (bt a0 0)))) + (wrap64 (bt a0 1)))), .int .u64 0, .int .u64 0, .slice none 0 0]) ?_ 1 _ rfl; (with_reducible repeat (first | refine blk_drewN ?_ _ | refine blk_drew ?_ | refine blk_alloc ?_ _)); refine blk_put (cs := #[.int .i64 0, .int .u64 0, .int .u64 0, .slice none 0 0]) ?_ 0 _ rfl; (with_reducible repeat (first | refine blk_drewN ?_ _ | refine blk_drew ?_ | refine blk_alloc ?_ _)); exact BK262.out) hb); have n3_ := Aside0.mk (below_step (by repeat (first | (with_reducible first | exact HB.out | apply below_alloc | apply pw_below_drewN | apply below_drew1 | refine below_set ?_ GE255.out | refine below_set ?_ GE262.out) | exact HB.out)) hb); clear BK255; clear BK262; clear HB; have HO265 := n0_; have BK255 := n1_; have BK262 := n2_; have HB := n3_; clear n0_ n1_ n2_ n3_; (try clear hb); (try clear hb2); (try clear hk); (try clear hi); (try clear ho0)))
                    go_loopg [12, 13] kj1 (fun kq v12 v13 w' => ∃ (x12_2 : ByteArray) (x13_2 : Int) (x256000_2 : Int) (x256001_2 : Int) (x256002_2 : Int) (x263003_2 : List (S42)) (u263003 : Value), v12 = .string x12_2 ∧ v13 = .int .i64 x13_2 ∧ Aside0 (interchangeref07_Take.l0 kq t256 t263 x12_2 x13_2 (wrap64 ((wrap64 (256 * (wrap64 (bt a0 0)))) + (wrap64 (bt a0 1)))) t256 t259 x263003_2 = some (r1, r2, r3, r4, r5)) ∧ Aside0 (kq ≤ kj1) ∧ Aside0 (Kd.R (Kd.int .i64) 3 w' w.heap.size (fun _ => True) v264 t263) ∧ Aside0 (Kd.R k42 42 w' w.heap.size (fun _ => True) u263003 x263003_2) ∧ Aside0 (w'.heap[gb255]? = some (.cells #[.int .i64 x256000_2, .int .u64 x256001_2, .int .u64 x256002_2, (.slice none 0 0)] 25 (0, 0))) ∧ Aside0 (w'.heap[gb262]? = some (.cells #[.int .i64 (wrap64 ((wrap64 (256 * (wrap64 (bt a0 0)))) + (wrap64 (bt a0 1)))), .int .u64 t256, .int .u64 t259, u263003] 25 (0, 0))) ∧ Aside0 (Below w.heap.size w w'))
                    case atStart => exact ⟨(a0.extract 14 a0.size), (0), (0), (0), (0), (([] : List (S42))), (.slice none 0 0), (by first | rfl | (simp; done) | (simp [*]; done)), (by first | rfl | (simp; done) | (simp [*]; done)), H', ⟨Nat.le_refl _⟩, ⟨by (with_reducible repeat (first | apply Kd.R_alloc | apply Kd.R_drewN | apply Kd.R_drew)); exact HO265.out⟩, ⟨by first | exact Kd.R_nil _ _ _ _ _ | exact Kd.N_nil _ _ _ _ _ | exact Kd.V_nil _ _ _ _ _ | exact Kd.Q_nil _ _ _ _ _ | exact Kd.S_nil _ _ _ _ _⟩, ⟨by (with_reducible repeat (first | refine blk_drewN ?_ _ | refine blk_drew ?_ | refine blk_alloc ?_ _)); exact BK255.out⟩, ⟨by (with_reducible repeat (first | refine blk_drewN ?_ _ | refine blk_drew ?_ | refine blk_alloc ?_ _)); exact BK262.out⟩, ⟨by repeat (first | (with_reducible first | exact HB.out | apply below_alloc | apply pw_below_drewN | apply below_drew1 | refine below_set ?_ GE255.out | refine below_set ?_ GE262.out) | exact HB.out)⟩⟩
                    case round =>
                      clear H'
                      try clear c1
                      try clear p1
                      try clear q1
                      try clear hx1
                      try clear qi1
                      try clear c2
                      try clear p2
                      try clear q2
                      try clear hx2
                      try clear qi2
                      try clear c3
                      try clear c4
                      try clear c4b0
                      try clear c4b1
                      try clear c5
                      try clear c5b0
                      try clear c5b1
                      try clear p6
                      try clear q6
                      try clear hx6
                      try clear qi6
                      try clear c7
                      try clear c7b0
                      try clear c7b1
                      try clear c8
                      try clear c8b0
                      try clear c8b1
                      try clear p9
                      try clear q9
                      try clear hx9
                      try clear qi9
                      try clear c10
                      try clear c12
                      try clear c12b0
                      try clear c12b1
                      try clear c13
                      try clear c13b0
                      try clear c13b1
                      try clear c15
                      try clear c15b0
                      try clear c15b1
                      try clear c16
                      try clear c16b0
                      try clear c16b1
                      try clear c18
                      try clear c18b0
                      try clear c18b1
                      try clear p19
                      try clear q19
                      try clear hx19
                      try clear qi19
                      try clear c20
                      try clear c20b0
                      try clear c20b1
                      try clear p21
                      try clear q21
                      try clear hx21
                      try clear qi21
                      try clear c23
                      try clear c23b0
                      try clear hcz11_0
                      try clear hcz11_1
                      try clear hcz11_2
                      try clear hcz11_3
                      try clear hfz11_0
                      try clear hfz11_1
                      try clear hfz11_2
                      try clear hfz11_3
                      try clear p19
                      try clear p2
                      try clear p21
                      try clear p6
                      try clear p9
                      try clear q19
                      try clear q21
                      try clear q6
                      try clear q9
                      obtain ⟨x12_2, x13_2, x256000_2, x256001_2, x256002_2, x263003_2, u263003, rfl, rfl, HA, HK2, HO_11, HO_263003, BK255, BK262, HB⟩ := hrel
                      cases gk with
                      | zero => exact absurd HA.out (by simp [interchangeref07_Take.l0])
                      | succ k2 =>
                        have H := HA.out
                        clear HA
                        simp only [interchangeref07_Take.l0] at H
                        by_cases c31 : x13_2 < (t263.length : Int)
                        · rw [if_pos c31] at H
                          have c31b0 : decide (x13_2 < (t263.length : Int)) = true := decide_eq_true c31
                          clear c31
                          by_cases c32 : 0 ≤ x13_2
                          · rw [if_pos c32] at H
                            have c32b0 : decide (0 ≤ x13_2) = true := decide_eq_true c32
                            clear c32
                            by_cases c33 : 0 ≤ (rd t263 x13_2)
                            · rw [if_pos c33] at H
                              have c33b0 : decide (0 ≤ (rd t263 x13_2)) = true := decide_eq_true c33
                              clear c33
                              by_cases c34 : (rd t263 x13_2) < 14
                              · rw [if_pos c34] at H
                                have c34b0 : decide ((rd t263 x13_2) < 14) = true := decide_eq_true c34
                                clear c34
                                replace H := Option.bind_eq_some_iff.mp H
                                obtain ⟨⟨t267, t268, t269, t270⟩, A360, H⟩ := H
                                replace H : (if t270 = 0 then (if x263003_2.length < 5864062014805 then (interchangeref07_Take.l0 k2 t256 t263 t269 (wrap64 (x13_2 + 1)) (wrap64 ((wrap64 (256 * (wrap64 (bt a0 0)))) + (wrap64 (bt a0 1)))) t256 t259 (x263003_2 ++ [(⟨t267, t268⟩ : S42)])) else (none)) else (some (0, 0, 0, ([] : List (S42)), 7))) = some (r1, r2, r3, r4, r5) := H
                                have A36 := Aside0.mk A360
                                clear A360
                                by_cases c37 : t270 = 0
                                · rw [if_pos c37] at H
                                  have c37b0 : (t270 == 0) = true := beq_iff_eq.mpr c37
                                  have c37b1 : (t270 != 0) = false := bne_eq_false_iff_eq.mpr c37
                                  clear c37
                                  by_cases c38 : x263003_2.length < 5864062014805
                                  · rw [if_pos c38] at H
                                    have LMc38 := Aside0.mk c38
                                    clear c38
                                    obtain ⟨y272, hy272⟩ : ∃ y_ : List (S42), y_ = (x263003_2 ++ [(⟨t267, t268⟩ : S42)]) := ⟨_, rfl⟩
                                    replace H : (interchangeref07_Take.l0 k2 t256 t263 t269 (wrap64 (x13_2 + 1)) (wrap64 ((wrap64 (256 * (wrap64 (bt a0 0)))) + (wrap64 (bt a0 1)))) t256 t259 y272) = some (r1, r2, r3, r4, r5) := by first | (rw [hy272]; with_reducible exact H) | (have H2_ := (Option.bind_some _ _).symm.trans H; rw [hy272]; with_reducible exact H2_) | (have H2_ := (Option.bind_some _ _).symm.trans H; with_reducible exact H2_) | with_reducible exact H | (rw [hy272]; exact H) | exact H
                                    have Ny272 := Aside0.mk hy272
                                    clear hy272
                                    have H' := Aside0.mk H
                                    clear H
                                    obtain ⟨Ao39, co39, eo39⟩ := Kd.R_slice HO_11.out
                                    subst eo39
                                    have p266 : 0 ≤ (x13_2 : Int) := of_decide_eq_true (by first | (with_reducible assumption) | assumption)
                                    have q266 : x13_2 < (t263.length : Int) := of_decide_eq_true (by first | (with_reducible assumption) | assumption)
                                    obtain ⟨ad266, e266, hx266_0⟩ := Kd.at_int (Kd.R_reads' HO_11.out).2.2 x13_2 p266 q266
                                    cases e266
                                    replace p266 := eq_true p266
                                    replace q266 := eq_true q266
                                    have p35 : 0 ≤ ((rd t263 x13_2) : Int) := of_decide_eq_true (by first | (with_reducible assumption) | assumption)
                                    have q35 : (rd t263 x13_2) < (14 : Int) := of_decide_eq_true (by first | (with_reducible assumption) | assumption)
                                    have hx35 := bt_at (⟨#[83, 83, 84, 111, 111, 83, 83, 83, 83, 113, 83, 83, 83, 83]⟩ : ByteArray) (rd t263 x13_2)
                                    replace p35 := eq_true p35
                                    replace q35 := eq_true q35
                                    go_wp2_with (first | ((with_reducible refine gate_callee (f := 37) rfl ?_); refine goesL_ (some 74) rfl rfl Tryd.func37 (by kernel_rfl) rfl #[.int .u8 (bt (⟨#[83, 83, 84, 111, 111, 83, 83, 83, 83, 113, 83, 83, 83, 83]⟩ : ByteArray) (rd t263 x13_2)), .string x12_2] rfl (by (try simp only [List.map_toArray, List.map_cons, List.map_nil]); first | done | rfl | (simp only [List.length_drop, List.length_take]; rfl)) ?_; (with_reducible refine (interchangeref07_take.calls k2 (bt (⟨#[83, 83, 84, 111, 111, 83, 83, 83, 83, 113, 83, 83, 83, 83]⟩ : ByteArray) (rd t263 x13_2)) x12_2 t267 t268 t269 t270 _ A36.out).mono ?_); rintro e w40 ⟨rfl, hb⟩; refine ⟨_, rfl, ?_⟩; have n0_ := Aside0.mk (Kd.R_below (by (with_reducible repeat (first | apply Kd.R_alloc | apply Kd.R_drewN | apply Kd.R_drew)); exact HO_11.out) hb); have n1_ := Aside0.mk (Kd.R_below (by (with_reducible repeat (first | apply Kd.R_alloc | apply Kd.R_drewN | apply Kd.R_drew)); exact HO_263003.out) hb); have n2_ := Aside0.mk (blk_below (g := gb255) (o := .cells #[.int .i64 x256000_2, .int .u64 x256001_2, .int .u64 x256002_2, .slice none 0 0] 25 (0, 0)) (by (with_reducible repeat (first | refine blk_drewN ?_ _ | refine blk_drew ?_ | refine blk_alloc ?_ _)); exact BK255.out) hb); have n3_ := Aside0.mk (blk_below (g := gb262) (o := .cells #[.int .i64 (wrap64 ((wrap64 (256 * (wrap64 (bt a0 0)))) + (wrap64 (bt a0 1)))), .int .u64 t256, .int .u64 t259, u263003] 25 (0, 0)) (by (with_reducible repeat (first | refine blk_drewN ?_ _ | refine blk_drew ?_ | refine blk_alloc ?_ _)); exact BK262.out) hb); have n4_ := Aside0.mk (below_step (by repeat (first | (with_reducible first | exact HB.out | apply below_alloc | apply pw_below_drewN | apply below_drew1 | refine below_set ?_ GE255.out | refine below_set ?_ GE262.out) | exact HB.out)) hb); clear HO_11; clear HO_263003; clear BK255; clear BK262; clear HB; have HO_11 := n0_; have HO_263003 := n1_; have BK255 := n2_; have BK262 := n3_; have HB := n4_; clear n0_ n1_ n2_ n3_ n4_; (try clear hb); (try clear hb2); (try clear hk); (try clear hi)) | ((with_reducible refine gate_dst (N := 14) rfl ?_); refine box_event ?hg (N := 14) ?hd (cs := #[.int .u64 0, .string (⟨#[]⟩ : ByteArray)]) (t := 42) ?hr ?_; (case hd => rfl); (case hg => rfl); (case hr => first | (go_simp; done) | (go_simp; rfl)); intro gb271 hg w41 hbox hb; have n0_ := Aside0.mk (Kd.R_below (by (with_reducible repeat (first | apply Kd.R_alloc | apply Kd.R_drewN | apply Kd.R_drew)); exact HO_11.out) hb); have n1_ := Aside0.mk (Kd.R_below (Kd.R_elderB (by (with_reducible repeat (first | apply Kd.R_alloc | apply Kd.R_drewN | apply Kd.R_drew)); exact HO_263003.out) gb271 (Nat.le_of_eq hg.symm)) hb); have n2_ := Aside0.mk (blk_below (g := gb255) (o := .cells #[.int .i64 x256000_2, .int .u64 x256001_2, .int .u64 x256002_2, .slice none 0 0] 25 (0, 0)) (by (with_reducible repeat (first | refine blk_drewN ?_ _ | refine blk_drew ?_ | refine blk_alloc ?_ _)); exact BK255.out) hb); have n3_ := Aside0.mk (blk_below (g := gb262) (o := .cells #[.int .i64 (wrap64 ((wrap64 (256 * (wrap64 (bt a0 0)))) + (wrap64 (bt a0 1)))), .int .u64 t256, .int .u64 t259, u263003] 25 (0, 0)) (by (with_reducible repeat (first | refine blk_drewN ?_ _ | refine blk_drew ?_ | refine blk_alloc ?_ _)); exact BK262.out) hb); have n4_ := Aside0.mk (below_step (by repeat (first | (with_reducible first | exact HB.out | apply below_alloc | apply pw_below_drewN | apply below_drew1 | refine below_set ?_ GE255.out | refine below_set ?_ GE262.out) | exact HB.out)) hb); have n5_ := Aside0.mk (hbox); have n6_ := Aside0.mk ((by rw [hg]; exact (below_size (by repeat (first | (with_reducible first | exact HB.out | apply below_alloc | apply pw_below_drewN | apply below_drew1 | refine below_set ?_ GE255.out | refine below_set ?_ GE262.out) | exact HB.out))) : w.heap.size ≤ gb271)); have n7_ := Aside0.mk ((by rw [hg]; exact (below_size (by repeat (first | (with_reducible first | exact HB.out | apply below_alloc | apply pw_below_drewN | apply below_drew1 | refine below_set ?_ GE255.out | refine below_set ?_ GE262.out) | exact HB.out))) : w.heap.size ≤ gb271)); have n8_ := Aside0.mk ((by rw [hg]; exact Nat.ne_of_lt (blk_lt (g := gb255) (o := .cells #[.int .i64 x256000_2, .int .u64 x256001_2, .int .u64 x256002_2, .slice none 0 0] 25 (0, 0)) (by (with_reducible repeat (first | refine blk_drewN ?_ _ | refine blk_drew ?_ | refine blk_alloc ?_ _)); exact BK255.out)) : gb255 ≠ gb271)); have n9_ := Aside0.mk ((by rw [hg]; exact Nat.ne_of_gt (blk_lt (g := gb255) (o := .cells #[.int .i64 x256000_2, .int .u64 x256001_2, .int .u64 x256002_2, .slice none 0 0] 25 (0, 0)) (by (with_reducible repeat (first | refine blk_drewN ?_ _ | refine blk_drew ?_ | refine blk_alloc ?_ _)); exact BK255.out)) : gb271 ≠ gb255)); have n10_ := Aside0.mk ((by rw [hg]; exact Nat.ne_of_lt (blk_lt (g := gb262) (o := .cells #[.int .i64 (wrap64 ((wrap64 (256 * (wrap64 (bt a0 0)))) + (wrap64 (bt a0 1)))), .int .u64 t256, .int .u64 t259, u263003] 25 (0, 0)) (by (with_reducible repeat (first | refine blk_drewN ?_ _ | refine blk_drew ?_ | refine blk_alloc ?_ _)); exact BK262.out)) : gb262 ≠ gb271)); have n11_ := Aside0.mk ((by rw [hg]; exact Nat.ne_of_gt (blk_lt (g := gb262) (o := .cells #[.int .i64 (wrap64 ((wrap64 (256 * (wrap64 (bt a0 0)))) + (wrap64 (bt a0 1)))), .int .u64 t256, .int .u64 t259, u263003] 25 (0, 0)) (by (with_reducible repeat (first | refine blk_drewN ?_ _ | refine blk_drew ?_ | refine blk_alloc ?_ _)); exact BK262.out)) : gb271 ≠ gb262)); clear HO_11; clear HO_263003; clear BK255; clear BK262; clear HB; have HO_11 := n0_; have HO_263003 := n1_; have BK255 := n2_; have BK262 := n3_; have HB := n4_; have BK271 := n5_; have GW271 := n6_; have GE271 := n7_; have NB255_271 := n8_; have NB271_255 := n9_; have NB262_271 := n10_; have NB271_262 := n11_; clear n0_ n1_ n2_ n3_ n4_ n5_ n6_ n7_ n8_ n9_ n10_ n11_; clear hb hbox hg; have hnb42 := NB271_255.out; have hnc42 := NB255_271.out; have hnb43 := NB271_262.out; have hnc43 := NB262_271.out; have hcz44_0 : w41.cell? ⟨gb271, 0, none⟩ = some (.int .u64 0) := (blk_cell BK271.out 0).trans rfl; have hcz44_1 : w41.cell? ⟨gb271, 1, none⟩ = some (.string (⟨#[]⟩ : ByteArray)) := (blk_cell BK271.out 1).trans rfl; have hfz44_0 := blk_frozen BK271.out 0; have hfz44_1 := blk_frozen BK271.out 1; have hnb45 := NB262_255.out; have hnc45 := NB255_262.out; have hcz46_0 : w41.cell? ⟨gb262, 0, none⟩ = some (.int .i64 (wrap64 ((wrap64 (256 * (wrap64 (bt a0 0)))) + (wrap64 (bt a0 1))))) := (blk_cell BK262.out 0).trans rfl; have hcz46_1 : w41.cell? ⟨gb262, 1, none⟩ = some (.int .u64 t256) := (blk_cell BK262.out 1).trans rfl; have hcz46_2 : w41.cell? ⟨gb262, 2, none⟩ = some (.int .u64 t259) := (blk_cell BK262.out 2).trans rfl; have hcz46_3 : w41.cell? ⟨gb262, 3, none⟩ = some (u263003) := (blk_cell BK262.out 3).trans rfl; have hfz46_0 := blk_frozen BK262.out 0; have hfz46_1 := blk_frozen BK262.out 1; have hfz46_2 := blk_frozen BK262.out 2; have hfz46_3 := blk_frozen BK262.out 3) | ((with_reducible refine gate_builtin (b := .append) (xs := #[.tmp 82, .tmp 84]) rfl ?_); at_builtin; refine Kd.R_append k42 (w0 := w) w.heap.size rfl (.tmp 82) (.tmp 84) 23 42 (.agg #[(.int .u64 0), (.string ⟨#[]⟩)]) 24 rfl Tryd.underlying23 info42 rfl (by decide) (by omega) u263003 x263003_2 (⟨t267, t268⟩ : S42) [.int .u64 t267, .string t268] (fun k_ => k_ ≠ gb271) (fun _ => False) rfl (by first | (go_simp; done) | (go_simp; rfl)) ?aP (fun _ hk => hk.elim) ?aF ?aO ?aB ?aS ?aL ?_; (case aP => exact k42_mkM _ _ _ (⟨t267, t268⟩ : S42)); (case aB => exact (by repeat (first | (with_reducible first | exact HB.out | apply below_alloc | apply pw_below_drewN | apply below_drew1 | refine below_set ?_ GE255.out | refine below_set ?_ GE262.out | refine below_set ?_ GE271.out) | exact HB.out))); (case aF => exact (fun k_ hk => Kd.freshB (g := gb271) (o := .cells #[.int .u64 t267, .string t268] 42 (0, 0)) (by (with_reducible repeat (first | refine blk_drewN ?_ _ | refine blk_drew ?_ | refine blk_alloc ?_ _)); refine blk_put (cs := #[.int .u64 t267, .string (⟨#[]⟩ : ByteArray)]) ?_ 1 _ rfl; (with_reducible repeat (first | refine blk_drewN ?_ _ | refine blk_drew ?_ | refine blk_alloc ?_ _)); refine blk_put (cs := #[.int .u64 0, .string (⟨#[]⟩ : ByteArray)]) ?_ 0 _ rfl; (with_reducible repeat (first | refine blk_drewN ?_ _ | refine blk_drew ?_ | refine blk_alloc ?_ _)); exact BK271.out) k_ hk)); (case aO => exact (by (with_reducible repeat (first | apply Kd.R_alloc | apply Kd.R_drewN | apply Kd.R_drew)); exact Kd.R_mono (Kd.R_far (p := ⟨gb271, 1, none⟩) (Kd.R_far (p := ⟨gb271, 0, none⟩) (Kd.R_mono HO_263003.out (fun k_ hk => (⟨hk, hk.2⟩ : _ ∧ k_ ≠ gb271))) (fun _ hk => hk.2) (.int .u64 t267)) (fun _ hk => hk.2) (.string t268)) (fun _ hk => hk.1.2))); (case aS => exact (below_size (by repeat (first | (with_reducible first | exact HB.out | apply below_alloc | apply pw_below_drewN | apply below_drew1 | refine below_set ?_ GE255.out | refine below_set ?_ GE262.out | refine below_set ?_ GE271.out) | exact HB.out)))); (case aL => have := LMc38.out; omega); intro v273 w47 ho hb hg hat; rw [← Ny272.out] at ho; have n0_ := Aside0.mk (Kd.R_over' (by (with_reducible repeat (first | apply Kd.R_alloc | apply Kd.R_drewN | apply Kd.R_drew)); exact (Kd.R_mono (Kd.R_far (p := ⟨gb271, 1, none⟩) (Kd.R_far (p := ⟨gb271, 0, none⟩) (Kd.R_types HO_11.out BK271.out (by decide)) (fun _ hk => hk.2) (.int .u64 t267)) (fun _ hk => hk.2) (.string t268)) (fun _ h_ => h_.1))) (Kd.R_typed (by (with_reducible repeat (first | apply Kd.R_alloc | apply Kd.R_drewN | apply Kd.R_drew)); exact (Kd.R_mono (Kd.R_far (p := ⟨gb271, 1, none⟩) (Kd.R_far (p := ⟨gb271, 0, none⟩) (Kd.R_mono HO_263003.out (fun k_ hk => (⟨hk, hk.2⟩ : _ ∧ k_ ≠ gb271))) (fun _ hk => hk.2) (.int .u64 t267)) (fun _ hk => hk.2) (.string t268)) (fun _ h_ => h_.1)))) (by decide) hg); have n1_ := Aside0.mk (blk_grown (g := gb255) (o := .cells #[.int .i64 x256000_2, .int .u64 x256001_2, .int .u64 x256002_2, .slice none 0 0] 25 (0, 0)) (by (with_reducible repeat (first | refine blk_drewN ?_ _ | refine blk_drew ?_ | refine blk_alloc ?_ _)); refine blk_far ?_ NB255_271.out _; (with_reducible repeat (first | refine blk_drewN ?_ _ | refine blk_drew ?_ | refine blk_alloc ?_ _)); refine blk_far ?_ NB255_271.out _; (with_reducible repeat (first | refine blk_drewN ?_ _ | refine blk_drew ?_ | refine blk_alloc ?_ _)); exact BK255.out) hg (Kd.R_ne HO_263003.out BK255.out (by decide))); have n2_ := Aside0.mk (blk_grown (g := gb262) (o := .cells #[.int .i64 (wrap64 ((wrap64 (256 * (wrap64 (bt a0 0)))) + (wrap64 (bt a0 1)))), .int .u64 t256, .int .u64 t259, u263003] 25 (0, 0)) (by (with_reducible repeat (first | refine blk_drewN ?_ _ | refine blk_drew ?_ | refine blk_alloc ?_ _)); refine blk_far ?_ NB262_271.out _; (with_reducible repeat (first | refine blk_drewN ?_ _ | refine blk_drew ?_ | refine blk_alloc ?_ _)); refine blk_far ?_ NB262_271.out _; (with_reducible repeat (first | refine blk_drewN ?_ _ | refine blk_drew ?_ | refine blk_alloc ?_ _)); exact BK262.out) hg (Kd.R_ne HO_263003.out BK262.out (by decide))); have n3_ := Aside0.mk (blk_grown (g := gb271) (o := .cells #[.int .u64 t267, .string t268] 42 (0, 0)) (by (with_reducible repeat (first | refine blk_drewN ?_ _ | refine blk_drew ?_ | refine blk_alloc ?_ _)); refine blk_put (cs := #[.int .u64 t267, .string (⟨#[]⟩ : ByteArray)]) ?_ 1 _ rfl; (with_reducible repeat (first | refine blk_drewN ?_ _ | refine blk_drew ?_ | refine blk_alloc ?_ _)); refine blk_put (cs := #[.int .u64 0, .string (⟨#[]⟩ : ByteArray)]) ?_ 0 _ rfl; (with_reducible repeat (first | refine blk_drewN ?_ _ | refine blk_drew ?_ | refine blk_alloc ?_ _)); exact BK271.out) hg (Kd.R_away HO_263003.out (fun _ hk => hk.2))); have n4_ := Aside0.mk (hb); have n5_ := Aside0.mk (ho); clear HO_11; clear BK255; clear BK262; clear BK271; clear HB; clear HO_263003; have HO_11 := n0_; have BK255 := n1_; have BK262 := n2_; have BK271 := n3_; have HB := n4_; have HO274 := n5_; clear n0_ n1_ n2_ n3_ n4_ n5_; clear ho hb hg hat; obtain ⟨Ao48, co48, eo48⟩ := Kd.R_slice HO274.out; subst eo48; have hcz49_0 : w47.cell? ⟨gb262, 0, none⟩ = some (.int .i64 (wrap64 ((wrap64 (256 * (wrap64 (bt a0 0)))) + (wrap64 (bt a0 1))))) := (blk_cell BK262.out 0).trans rfl; have hcz49_1 : w47.cell? ⟨gb262, 1, none⟩ = some (.int .u64 t256) := (blk_cell BK262.out 1).trans rfl; have hcz49_2 : w47.cell? ⟨gb262, 2, none⟩ = some (.int .u64 t259) := (blk_cell BK262.out 2).trans rfl; have hcz49_3 : w47.cell? ⟨gb262, 3, none⟩ = some (u263003) := (blk_cell BK262.out 3).trans rfl; have hfz49_0 := blk_frozen BK262.out 0; have hfz49_1 := blk_frozen BK262.out 1; have hfz49_2 := blk_frozen BK262.out 2; have hfz49_3 := blk_frozen BK262.out 3))
                                    go_roundg k2
                                    case measure => have := HJ1.out; have := HK2.out; omega
                                    case rel => exact ⟨(t269), (wrap64 (x13_2 + 1)), (x256000_2), (x256001_2), (x256002_2), (y272), (.slice Ao48 y272.length co48), (by first | rfl | (simp; done) | (simp [*]; done)), (by first | rfl | (simp; done) | (simp [*]; done)), H', ⟨by have := HJ1.out; have := HK2.out; omega⟩, ⟨by (with_reducible repeat (first | apply Kd.R_alloc | apply Kd.R_drewN | apply Kd.R_drew)); exact Kd.R_mono (Kd.R_far (p := ⟨gb262, 3, none⟩) (Kd.R_types HO_11.out BK262.out (by decide)) (fun _ hk => hk.2) (.slice Ao48 y272.length co48)) (fun _ hk => trivial)⟩, ⟨by (with_reducible repeat (first | apply Kd.R_alloc | apply Kd.R_drewN | apply Kd.R_drew)); exact Kd.R_mono (Kd.R_far (p := ⟨gb262, 3, none⟩) (Kd.R_types HO274.out BK262.out (by decide)) (fun _ hk => hk.2) (.slice Ao48 y272.length co48)) (fun _ hk => trivial)⟩, ⟨by (with_reducible repeat (first | refine blk_drewN ?_ _ | refine blk_drew ?_ | refine blk_alloc ?_ _)); refine blk_far ?_ NB255_262.out _; (with_reducible repeat (first | refine blk_drewN ?_ _ | refine blk_drew ?_ | refine blk_alloc ?_ _)); exact BK255.out⟩, ⟨by (with_reducible repeat (first | refine blk_drewN ?_ _ | refine blk_drew ?_ | refine blk_alloc ?_ _)); refine blk_put (cs := #[.int .i64 (wrap64 ((wrap64 (256 * (wrap64 (bt a0 0)))) + (wrap64 (bt a0 1)))), .int .u64 t256, .int .u64 t259, u263003]) ?_ 3 _ rfl; (with_reducible repeat (first | refine blk_drewN ?_ _ | refine blk_drew ?_ | refine blk_alloc ?_ _)); exact BK262.out⟩, ⟨by repeat (first | (with_reducible first | exact HB.out | apply below_alloc | apply pw_below_drewN | apply below_drew1 | refine below_set ?_ GE255.out | refine below_set ?_ GE262.out | refine below_set ?_ GE271.out) | exact HB.out)⟩⟩
                                  · rw [if_neg c38] at H
                                    exact absurd H (by simp)
                                · rw [if_neg c37] at H
                                  have c37b0 : (t270 == 0) = false := beq_eq_false_iff_ne.mpr c37
                                  have c37b1 : (t270 != 0) = true := bne_iff_ne.mpr c37
                                  simp only [Option.some.injEq, Prod.mk.injEq] at H
                                  obtain ⟨rfl, rfl, rfl, rfl, rfl⟩ := H
                                  obtain ⟨Ao50, co50, eo50⟩ := Kd.R_slice HO_11.out
                                  subst eo50
                                  have p266 : 0 ≤ (x13_2 : Int) := of_decide_eq_true (by first | (with_reducible assumption) | assumption)
                                  have q266 : x13_2 < (t263.length : Int) := of_decide_eq_true (by first | (with_reducible assumption) | assumption)
                                  obtain ⟨ad266, e266, hx266_0⟩ := Kd.at_int (Kd.R_reads' HO_11.out).2.2 x13_2 p266 q266
                                  cases e266
                                  replace p266 := eq_true p266
                                  replace q266 := eq_true q266
                                  have p35 : 0 ≤ ((rd t263 x13_2) : Int) := of_decide_eq_true (by first | (with_reducible assumption) | assumption)
                                  have q35 : (rd t263 x13_2) < (14 : Int) := of_decide_eq_true (by first | (with_reducible assumption) | assumption)
                                  have hx35 := bt_at (⟨#[83, 83, 84, 111, 111, 83, 83, 83, 83, 113, 83, 83, 83, 83]⟩ : ByteArray) (rd t263 x13_2)
                                  replace p35 := eq_true p35
                                  replace q35 := eq_true q35
                                  go_wp2_with (first | ((with_reducible refine gate_callee (f := 37) rfl ?_); refine goesL_ (some 74) rfl rfl Tryd.func37 (by kernel_rfl) rfl #[.int .u8 (bt (⟨#[83, 83, 84, 111, 111, 83, 83, 83, 83, 113, 83, 83, 83, 83]⟩ : ByteArray) (rd t263 x13_2)), .string x12_2] rfl (by (try simp only [List.map_toArray, List.map_cons, List.map_nil]); first | done | rfl | (simp only [List.length_drop, List.length_take]; rfl)) ?_; (with_reducible refine (interchangeref07_take.calls k2 (bt (⟨#[83, 83, 84, 111, 111, 83, 83, 83, 83, 113, 83, 83, 83, 83]⟩ : ByteArray) (rd t263 x13_2)) x12_2 t267 t268 t269 t270 _ A36.out).mono ?_); rintro e w51 ⟨rfl, hb⟩; refine ⟨_, rfl, ?_⟩; have n0_ := Aside0.mk (Kd.R_below (by (with_reducible repeat (first | apply Kd.R_alloc | apply Kd.R_drewN | apply Kd.R_drew)); exact HO_11.out) hb); have n1_ := Aside0.mk (Kd.R_below (by (with_reducible repeat (first | apply Kd.R_alloc | apply Kd.R_drewN | apply Kd.R_drew)); exact HO_263003.out) hb); have n2_ := Aside0.mk (blk_below (g := gb255) (o := .cells #[.int .i64 x256000_2, .int .u64 x256001_2, .int .u64 x256002_2, .slice none 0 0] 25 (0, 0)) (by (with_reducible repeat (first | refine blk_drewN ?_ _ | refine blk_drew ?_ | refine blk_alloc ?_ _)); exact BK255.out) hb); have n3_ := Aside0.mk (blk_below (g := gb262) (o := .cells #[.int .i64 (wrap64 ((wrap64 (256 * (wrap64 (bt a0 0)))) + (wrap64 (bt a0 1)))), .int .u64 t256, .int .u64 t259, u263003] 25 (0, 0)) (by (with_reducible repeat (first | refine blk_drewN ?_ _ | refine blk_drew ?_ | refine blk_alloc ?_ _)); exact BK262.out) hb); have n4_ := Aside0.mk (below_step (by repeat (first | (with_reducible first | exact HB.out | apply below_alloc | apply pw_below_drewN | apply below_drew1 | refine below_set ?_ GE255.out | refine below_set ?_ GE262.out) | exact HB.out)) hb); clear HO_11; clear HO_263003; clear BK255; clear BK262; clear HB; have HO_11 := n0_; have HO_263003 := n1_; have BK255 := n2_; have BK262 := n3_; have HB := n4_; clear n0_ n1_ n2_ n3_ n4_; (try clear hb); (try clear hb2); (try clear hk); (try clear hi)) | ((with_reducible refine gate_dst (N := 14) rfl ?_); refine box_event ?hg (N := 14) ?hd (cs := #[.int .u64 0, .string (⟨#[]⟩ : ByteArray)]) (t := 42) ?hr ?_; (case hd => rfl); (case hg => rfl); (case hr => first | (go_simp; done) | (go_simp; rfl)); intro gb271 hg w52 hbox hb; have n0_ := Aside0.mk (Kd.R_below (by (with_reducible repeat (first | apply Kd.R_alloc | apply Kd.R_drewN | apply Kd.R_drew)); exact HO_11.out) hb); have n1_ := Aside0.mk (Kd.R_below (Kd.R_elderB (by (with_reducible repeat (first | apply Kd.R_alloc | apply Kd.R_drewN | apply Kd.R_drew)); exact HO_263003.out) gb271 (Nat.le_of_eq hg.symm)) hb); have n2_ := Aside0.mk (blk_below (g := gb255) (o := .cells #[.int .i64 x256000_2, .int .u64 x256001_2, .int .u64 x256002_2, .slice none 0 0] 25 (0, 0)) (by (with_reducible repeat (first | refine blk_drewN ?_ _ | refine blk_drew ?_ | refine blk_alloc ?_ _)); exact BK255.out) hb); have n3_ := Aside0.mk (blk_below (g := gb262) (o := .cells #[.int .i64 (wrap64 ((wrap64 (256 * (wrap64 (bt a0 0)))) + (wrap64 (bt a0 1)))), .int .u64 t256, .int .u64 t259, u263003] 25 (0, 0)) (by (with_reducible repeat (first | refine blk_drewN ?_ _ | refine blk_drew ?_ | refine blk_alloc ?_ _)); exact BK262.out) hb); have n4_ := Aside0.mk (below_step (by repeat (first | (with_reducible first | exact HB.out | apply below_alloc | apply pw_below_drewN | apply below_drew1 | refine below_set ?_ GE255.out | refine below_set ?_ GE262.out) | exact HB.out)) hb); have n5_ := Aside0.mk (hbox); have n6_ := Aside0.mk ((by rw [hg]; exact (below_size (by repeat (first | (with_reducible first | exact HB.out | apply below_alloc | apply pw_below_drewN | apply below_drew1 | refine below_set ?_ GE255.out | refine below_set ?_ GE262.out) | exact HB.out))) : w.heap.size ≤ gb271)); have n7_ := Aside0.mk ((by rw [hg]; exact (below_size (by repeat (first | (with_reducible first | exact HB.out | apply below_alloc | apply pw_below_drewN | apply below_drew1 | refine below_set ?_ GE255.out | refine below_set ?_ GE262.out) | exact HB.out))) : w.heap.size ≤ gb271)); have n8_ := Aside0.mk ((by rw [hg]; exact Nat.ne_of_lt (blk_lt (g := gb255) (o := .cells #[.int .i64 x256000_2, .int .u64 x256001_2, .int .u64 x256002_2, .slice none 0 0] 25 (0, 0)) (by (with_reducible repeat (first | refine blk_drewN ?_ _ | refine blk_drew ?_ | refine blk_alloc ?_ _)); exact BK255.out)) : gb255 ≠ gb271)); have n9_ := Aside0.mk ((by rw [hg]; exact Nat.ne_of_gt (blk_lt (g := gb255) (o := .cells #[.int .i64 x256000_2, .int .u64 x256001_2, .int .u64 x256002_2, .slice none 0 0] 25 (0, 0)) (by (with_reducible repeat (first | refine blk_drewN ?_ _ | refine blk_drew ?_ | refine blk_alloc ?_ _)); exact BK255.out)) : gb271 ≠ gb255)); have n10_ := Aside0.mk ((by rw [hg]; exact Nat.ne_of_lt (blk_lt (g := gb262) (o := .cells #[.int .i64 (wrap64 ((wrap64 (256 * (wrap64 (bt a0 0)))) + (wrap64 (bt a0 1)))), .int .u64 t256, .int .u64 t259, u263003] 25 (0, 0)) (by (with_reducible repeat (first | refine blk_drewN ?_ _ | refine blk_drew ?_ | refine blk_alloc ?_ _)); exact BK262.out)) : gb262 ≠ gb271)); have n11_ := Aside0.mk ((by rw [hg]; exact Nat.ne_of_gt (blk_lt (g := gb262) (o := .cells #[.int .i64 (wrap64 ((wrap64 (256 * (wrap64 (bt a0 0)))) + (wrap64 (bt a0 1)))), .int .u64 t256, .int .u64 t259, u263003] 25 (0, 0)) (by (with_reducible repeat (first | refine blk_drewN ?_ _ | refine blk_drew ?_ | refine blk_alloc ?_ _)); exact BK262.out)) : gb271 ≠ gb262)); clear HO_11; clear HO_263003; clear BK255; clear BK262; clear HB; have HO_11 := n0_; have HO_263003 := n1_; have BK255 := n2_; have BK262 := n3_; have HB := n4_; have BK271 := n5_; have GW271 := n6_; have GE271 := n7_; have NB255_271 := n8_; have NB271_255 := n9_; have NB262_271 := n10_; have NB271_262 := n11_; clear n0_ n1_ n2_ n3_ n4_ n5_ n6_ n7_ n8_ n9_ n10_ n11_; clear hb hbox hg; have hnb53 := NB271_255.out; have hnc53 := NB255_271.out; have hnb54 := NB271_262.out; have hnc54 := NB262_271.out; have hcz55_0 : w52.cell? ⟨gb271, 0, none⟩ = some (.int .u64 0) := (blk_cell BK271.out 0).trans rfl; have hcz55_1 : w52.cell? ⟨gb271, 1, none⟩ = some (.string (⟨#[]⟩ : ByteArray)) := (blk_cell BK271.out 1).trans rfl; have hfz55_0 := blk_frozen BK271.out 0; have hfz55_1 := blk_frozen BK271.out 1; have hnb56 := NB255_262.out; have hnc56 := NB262_255.out; have hcz57_0 : w52.cell? ⟨gb255, 0, none⟩ = some (.int .i64 x256000_2) := (blk_cell BK255.out 0).trans rfl; have hcz57_1 : w52.cell? ⟨gb255, 1, none⟩ = some (.int .u64 x256001_2) := (blk_cell BK255.out 1).trans rfl; have hcz57_2 : w52.cell? ⟨gb255, 2, none⟩ = some (.int .u64 x256002_2) := (blk_cell BK255.out 2).trans rfl; have hcz57_3 : w52.cell? ⟨gb255, 3, none⟩ = some (.slice none 0 0) := (blk_cell BK255.out 3).trans rfl; have hfz57_0 := blk_frozen BK255.out 0; have hfz57_1 := blk_frozen BK255.out 1; have hfz57_2 := blk_frozen BK255.out 2; have hfz57_3 := blk_frozen BK255.out 3))
                                  refine bodyPost_ret (results_ct rfl _ _ gb255 25 #[.int .i64 0, .int .u64 0, .int .u64 0, .slice none 0 0] (0, 0) _ rfl (by (with_reducible repeat (first | refine blk_drewN ?_ _ | refine blk_drew ?_ | refine blk_alloc ?_ _)); refine blk_put (cs := #[.int .i64 0, .int .u64 0, .int .u64 0, .slice none 0 0]) ?_ 3 _ rfl; (with_reducible repeat (first | refine blk_drewN ?_ _ | refine blk_drew ?_ | refine blk_alloc ?_ _)); refine blk_put (cs := #[.int .i64 0, .int .u64 0, .int .u64 x256002_2, .slice none 0 0]) ?_ 2 _ rfl; (with_reducible repeat (first | refine blk_drewN ?_ _ | refine blk_drew ?_ | refine blk_alloc ?_ _)); refine blk_put (cs := #[.int .i64 0, .int .u64 x256001_2, .int .u64 x256002_2, .slice none 0 0]) ?_ 1 _ rfl; (with_reducible repeat (first | refine blk_drewN ?_ _ | refine blk_drew ?_ | refine blk_alloc ?_ _)); refine blk_put (cs := #[.int .i64 x256000_2, .int .u64 x256001_2, .int .u64 x256002_2, .slice none 0 0]) ?_ 0 _ rfl; (with_reducible repeat (first | refine blk_drewN ?_ _ | refine blk_drew ?_ | refine blk_alloc ?_ _)); refine blk_far ?_ NB255_271.out _; (with_reducible repeat (first | refine blk_drewN ?_ _ | refine blk_drew ?_ | refine blk_alloc ?_ _)); refine blk_far ?_ NB255_271.out _; (with_reducible repeat (first | refine blk_drewN ?_ _ | refine blk_drew ?_ | refine blk_alloc ?_ _)); exact BK255.out) Tryd.underlying25 rfl (by kernel_rfl)) rfl ?_
                                  exact ⟨_, by first | rfl | (simp [errW_none, errW_some] <;> rfl) | (simp [*, errW_none, errW_some] <;> rfl), by first | exact Kd.R_nil _ _ _ _ _ | exact Kd.N_nil _ _ _ _ _ | exact Kd.V_nil _ _ _ _ _ | exact Kd.Q_nil _ _ _ _ _ | exact Kd.S_nil _ _ _ _ _, by repeat (first | (with_reducible first | exact HB.out | apply below_alloc | apply pw_below_drewN | apply below_drew1 | refine below_set ?_ GE255.out | refine below_set ?_ GE262.out | refine below_set ?_ GE271.out) | exact HB.out)⟩
                              · rw [if_neg c34] at H
                                exact absurd H (by simp)
                            · rw [if_neg c33] at H
                              exact absurd H (by simp)
                          · rw [if_neg c32] at H
                            exact absurd H (by simp)
                        · rw [if_neg c31] at H
                          have c31b0 : decide (x13_2 < (t263.length : Int)) = false := decide_eq_false c31
                          clear c31
                          replace H := Option.bind_eq_some_iff.mp H
                          obtain ⟨t275, A580, H⟩ := H
                          replace H : (if (x12_2.size : Int) > 0 then (interchangeref07_Take.j2 k2 t256 true (wrap64 ((wrap64 (256 * (wrap64 (bt a0 0)))) + (wrap64 (bt a0 1)))) t256 t259 x263003_2) else (if t275 = true then ((interchangeref07_values.f k2 (wrap64 ((wrap64 (256 * (wrap64 (bt a0 0)))) + (wrap64 (bt a0 1)))) t256 t259 x263003_2).bind fun t276 => (interchangeref07_Take.j2 k2 t256 (t276 != 0) (wrap64 ((wrap64 (256 * (wrap64 (bt a0 0)))) + (wrap64 (bt a0 1)))) t256 t259 x263003_2)) else (interchangeref07_Take.j2 k2 t256 true (wrap64 ((wrap64 (256 * (wrap64 (bt a0 0)))) + (wrap64 (bt a0 1)))) t256 t259 x263003_2))) = some (r1, r2, r3, r4, r5) := H
                          have A58 := Aside0.mk A580
                          clear A580
                          have HC59 := Aside0.mk H
                          clear H
                          obtain ⟨Ao60, co60, eo60⟩ := Kd.R_slice HO_11.out
                          subst eo60
                          have hnb61 := NB262_255.out
                          have hnc61 := NB255_262.out
                          have hcz62_0 : wr.cell? ⟨gb262, 0, none⟩ = some (.int .i64 (wrap64 ((wrap64 (256 * (wrap64 (bt a0 0)))) + (wrap64 (bt a0 1))))) := (blk_cell BK262.out 0).trans rfl
                          have hcz62_1 : wr.cell? ⟨gb262, 1, none⟩ = some (.int .u64 t256) := (blk_cell BK262.out 1).trans rfl
                          have hcz62_2 : wr.cell? ⟨gb262, 2, none⟩ = some (.int .u64 t259) := (blk_cell BK262.out 2).trans rfl
                          have hcz62_3 : wr.cell? ⟨gb262, 3, none⟩ = some (u263003) := (blk_cell BK262.out 3).trans rfl
                          have hfz62_0 := blk_frozen BK262.out 0
                          have hfz62_1 := blk_frozen BK262.out 1
                          have hfz62_2 := blk_frozen BK262.out 2
                          have hfz62_3 := blk_frozen BK262.out 3
                          obtain ⟨Ao63, co63, eo63⟩ := Kd.R_slice HO_263003.out
                          subst eo63
                          go_upto_region 17 with (first | ((with_reducible refine gate_callee (f := 38) rfl ?_); refine goesL_ (some 89) rfl rfl Tryd.func38 (by kernel_rfl) rfl #[.agg #[.int .i64 (wrap64 ((wrap64 (256 * (wrap64 (bt a0 0)))) + (wrap64 (bt a0 1)))), .int .u64 t256, .int .u64 t259, .slice Ao63 x263003_2.length co63]] rfl (by (try simp only [List.map_toArray, List.map_cons, List.map_nil]); first | done | rfl | (simp only [List.length_drop, List.length_take]; rfl)) ?_; (with_reducible refine (interchangeref07_form.calls k2 (wrap64 ((wrap64 (256 * (wrap64 (bt a0 0)))) + (wrap64 (bt a0 1)))) t256 t259 _ _ x263003_2 t275 _ ?side1 ?side2 A58.out).mono ?_); (case side1 => repeat (first | exact (Kd.R_reads' HO_263003.out).2.2 | (with_reducible refine Kd.C_alloc ?_ _) | (with_reducible refine Kd.C_drewN ?_ _) | (with_reducible refine Kd.C_drew ?_))); (case side2 => exact (Kd.R_reads' HO_263003.out).2.1); rintro e w64 ⟨rfl, hb⟩; refine ⟨_, rfl, ?_⟩; have n0_ := Aside0.mk (Kd.R_below (by (with_reducible repeat (first | apply Kd.R_alloc | apply Kd.R_drewN | apply Kd.R_drew)); exact HO_11.out) hb); have n1_ := Aside0.mk (Kd.R_below (by (with_reducible repeat (first | apply Kd.R_alloc | apply Kd.R_drewN | apply Kd.R_drew)); exact HO_263003.out) hb); have n2_ := Aside0.mk (blk_below (g := gb255) (o := .cells #[.int .i64 x256000_2, .int .u64 x256001_2, .int .u64 x256002_2, .slice none 0 0] 25 (0, 0)) (by (with_reducible repeat (first | refine blk_drewN ?_ _ | refine blk_drew ?_ | refine blk_alloc ?_ _)); exact BK255.out) hb); have n3_ := Aside0.mk (blk_below (g := gb262) (o := .cells #[.int .i64 (wrap64 ((wrap64 (256 * (wrap64 (bt a0 0)))) + (wrap64 (bt a0 1)))), .int .u64 t256, .int .u64 t259, .slice Ao63 x263003_2.length co63] 25 (0, 0)) (by (with_reducible repeat (first | refine blk_drewN ?_ _ | refine blk_drew ?_ | refine blk_alloc ?_ _)); exact BK262.out) hb); have n4_ := Aside0.mk (below_step (by repeat (first | (with_reducible first | exact HB.out | apply below_alloc | apply pw_below_drewN | apply below_drew1 | refine below_set ?_ GE255.out | refine below_set ?_ GE262.out) | exact HB.out)) hb); clear HO_11; clear HO_263003; clear BK255; clear BK262; clear HB; have HO_11 := n0_; have HO_263003 := n1_; have BK255 := n2_; have BK262 := n3_; have HB := n4_; clear n0_ n1_ n2_ n3_ n4_; (try clear hb); (try clear hb2); (try clear hk); (try clear hi)))
                          (try simp only [Act.put, List.setIfInBounds_toArray, List.set_cons_zero, List.set_cons_succ])
                          go_cut [101] (fun v101 wc => ∃ (kq : Nat) (x101_58 : Bool), v101 = .bool x101_58 ∧ Aside0 (interchangeref07_Take.j2 kq t256 x101_58 (wrap64 ((wrap64 (256 * (wrap64 (bt a0 0)))) + (wrap64 (bt a0 1)))) t256 t259 x263003_2 = some (r1, r2, r3, r4, r5)) ∧ Aside0 (kq ≤ k2) ∧ Aside0 (Kd.R k42 42 wc w.heap.size (fun _ => True) (.slice Ao63 x263003_2.length co63) x263003_2) ∧ Aside0 (wc.heap[gb255]? = some (.cells #[.int .i64 x256000_2, .int .u64 x256001_2, .int .u64 x256002_2, (.slice none 0 0)] 25 (0, 0))) ∧ Aside0 (wc.heap[gb262]? = some (.cells #[.int .i64 (wrap64 ((wrap64 (256 * (wrap64 (bt a0 0)))) + (wrap64 (bt a0 1)))), .int .u64 t256, .int .u64 t259, (.slice Ao63 x263003_2.length co63)] 25 (0, 0))) ∧ Aside0 (Below w.heap.size w wc))
                          case first =>
                            have H := HC59.out
                            clear HC59
                            by_cases c65 : (x12_2.size : Int) > 0
                            · rw [if_pos c65] at H
                              have c65b0 : decide (0 < (x12_2.size : Int)) = true := decide_eq_true c65
                              have c65b1 : decide (0 < x12_2.size) = true := decide_eq_true (by omega)
                              clear c65
                              (first | rw [c65b0] | (simp only [i64_w, i32_w]; rw [c65b0]) | skip)
                              have H' := Aside0.mk H
                              clear H
                              go_wp2
                              go_meet
                              case rel => exact ⟨_, (true), (by first | rfl | (simp; done) | (simp [*]; done)), H', ⟨by have := HJ1.out; have := HK2.out; first | omega | exact Nat.le_refl _⟩, ⟨by (with_reducible repeat (first | apply Kd.R_alloc | apply Kd.R_drewN | apply Kd.R_drew)); exact HO_263003.out⟩, ⟨by (with_reducible repeat (first | refine blk_drewN ?_ _ | refine blk_drew ?_ | refine blk_alloc ?_ _)); exact BK255.out⟩, ⟨by (with_reducible repeat (first | refine blk_drewN ?_ _ | refine blk_drew ?_ | refine blk_alloc ?_ _)); exact BK262.out⟩, ⟨by repeat (first | (with_reducible first | exact HB.out | apply below_alloc | apply pw_below_drewN | apply below_drew1 | refine below_set ?_ GE255.out | refine below_set ?_ GE262.out) | exact HB.out)⟩⟩
                            · rw [if_neg c65] at H
                              have c65b0 : decide (0 < (x12_2.size : Int)) = false := decide_eq_false c65
                              have c65b1 : decide (0 < x12_2.size) = false := decide_eq_false (by omega)
                              clear c65
                              (first | rw [c65b0] | (simp only [i64_w, i32_w]; rw [c65b0]) | skip)
                              by_cases c66 : t275 = true
                              · subst c66
                                have H1 : ((interchangeref07_values.f k2 (wrap64 ((wrap64 (256 * (wrap64 (bt a0 0)))) + (wrap64 (bt a0 1)))) t256 t259 x263003_2).bind fun t276 => (interchangeref07_Take.j2 k2 t256 (t276 != 0) (wrap64 ((wrap64 (256 * (wrap64 (bt a0 0)))) + (wrap64 (bt a0 1)))) t256 t259 x263003_2)) = some (r1, r2, r3, r4, r5) := by rw [if_pos rfl] at H; exact H
                                clear H
                                have H := H1
                                clear H1
                                replace H := Option.bind_eq_some_iff.mp H
                                obtain ⟨t276, A670, H⟩ := H
                                replace H : (interchangeref07_Take.j2 k2 t256 (t276 != 0) (wrap64 ((wrap64 (256 * (wrap64 (bt a0 0)))) + (wrap64 (bt a0 1)))) t256 t259 x263003_2) = some (r1, r2, r3, r4, r5) := H
                                have A67 := Aside0.mk A670
                                clear A670
                                have H' := Aside0.mk H
                                clear H
                                have hnb68 := NB262_255.out
                                have hnc68 := NB255_262.out
                                have hcz69_0 : w64.cell? ⟨gb262, 0, none⟩ = some (.int .i64 (wrap64 ((wrap64 (256 * (wrap64 (bt a0 0)))) + (wrap64 (bt a0 1))))) := (blk_cell BK262.out 0).trans rfl
                                have hcz69_1 : w64.cell? ⟨gb262, 1, none⟩ = some (.int .u64 t256) := (blk_cell BK262.out 1).trans rfl
                                have hcz69_2 : w64.cell? ⟨gb262, 2, none⟩ = some (.int .u64 t259) := (blk_cell BK262.out 2).trans rfl
                                have hcz69_3 : w64.cell? ⟨gb262, 3, none⟩ = some (.slice Ao63 x263003_2.length co63) := (blk_cell BK262.out 3).trans rfl
                                have hfz69_0 := blk_frozen BK262.out 0
                                have hfz69_1 := blk_frozen BK262.out 1
                                have hfz69_2 := blk_frozen BK262.out 2
                                have hfz69_3 := blk_frozen BK262.out 3
                                go_wp2_with (first | (go_at_call 39; (with_reducible refine (interchangeref07_values.calls k2 (wrap64 ((wrap64 (256 * (wrap64 (bt a0 0)))) + (wrap64 (bt a0 1)))) t256 t259 _ _ x263003_2 t276 _ ?side1 ?side2 A67.out).mono ?_); (case side1 => repeat (first | exact (Kd.R_reads' HO_263003.out).2.2 | (with_reducible refine Kd.C_alloc ?_ _) | (with_reducible refine Kd.C_drewN ?_ _) | (with_reducible refine Kd.C_drew ?_))); (case side2 => exact (Kd.R_reads' HO_263003.out).2.1); rintro e w70 ⟨rfl, hb⟩; have n0_ := Aside0.mk (Kd.R_below (by (with_reducible repeat (first | apply Kd.R_alloc | apply Kd.R_drewN | apply Kd.R_drew)); exact HO_11.out) hb); have n1_ := Aside0.mk (Kd.R_below (by (with_reducible repeat (first | apply Kd.R_alloc | apply Kd.R_drewN | apply Kd.R_drew)); exact HO_263003.out) hb); have n2_ := Aside0.mk (blk_below (g := gb255) (o := .cells #[.int .i64 x256000_2, .int .u64 x256001_2, .int .u64 x256002_2, .slice none 0 0] 25 (0, 0)) (by (with_reducible repeat (first | refine blk_drewN ?_ _ | refine blk_drew ?_ | refine blk_alloc ?_ _)); exact BK255.out) hb); have n3_ := Aside0.mk (blk_below (g := gb262) (o := .cells #[.int .i64 (wrap64 ((wrap64 (256 * (wrap64 (bt a0 0)))) + (wrap64 (bt a0 1)))), .int .u64 t256, .int .u64 t259, .slice Ao63 x263003_2.length co63] 25 (0, 0)) (by (with_reducible repeat (first | refine blk_drewN ?_ _ | refine blk_drew ?_ | refine blk_alloc ?_ _)); exact BK262.out) hb); have n4_ := Aside0.mk (below_step (by repeat (first | (with_reducible first | exact HB.out | apply below_alloc | apply pw_below_drewN | apply below_drew1 | refine below_set ?_ GE255.out | refine below_set ?_ GE262.out) | exact HB.out)) hb); clear HO_11; clear HO_263003; clear BK255; clear BK262; clear HB; have HO_11 := n0_; have HO_263003 := n1_; have BK255 := n2_; have BK262 := n3_; have HB := n4_; clear n0_ n1_ n2_ n3_ n4_; (try clear hb); (try clear hb2); (try clear hk); (try clear hi)))
                                go_meet
                                case rel => exact ⟨_, ((t276 != 0)), (by first | rfl | (simp; done) | (simp [*]; done)), H', ⟨by have := HJ1.out; have := HK2.out; first | omega | exact Nat.le_refl _⟩, ⟨by (with_reducible repeat (first | apply Kd.R_alloc | apply Kd.R_drewN | apply Kd.R_drew)); exact HO_263003.out⟩, ⟨by (with_reducible repeat (first | refine blk_drewN ?_ _ | refine blk_drew ?_ | refine blk_alloc ?_ _)); exact BK255.out⟩, ⟨by (with_reducible repeat (first | refine blk_drewN ?_ _ | refine blk_drew ?_ | refine blk_alloc ?_ _)); exact BK262.out⟩, ⟨by repeat (first | (with_reducible first | exact HB.out | apply below_alloc | apply pw_below_drewN | apply below_drew1 | refine below_set ?_ GE255.out | refine below_set ?_ GE262.out) | exact HB.out)⟩⟩
                              · replace c66 := Bool.eq_false_iff.mpr c66
                                subst c66
                                have H1 : (interchangeref07_Take.j2 k2 t256 true (wrap64 ((wrap64 (256 * (wrap64 (bt a0 0)))) + (wrap64 (bt a0 1)))) t256 t259 x263003_2) = some (r1, r2, r3, r4, r5) := by rw [if_neg (show ¬ (false = true) by decide)] at H; exact H
                                clear H
                                have H := H1
                                clear H1
                                have H' := Aside0.mk H
                                clear H
                                go_wp2
                                go_meet
                                case rel => exact ⟨_, (true), (by first | rfl | (simp; done) | (simp [*]; done)), H', ⟨by have := HJ1.out; have := HK2.out; first | omega | exact Nat.le_refl _⟩, ⟨by (with_reducible repeat (first | apply Kd.R_alloc | apply Kd.R_drewN | apply Kd.R_drew)); exact HO_263003.out⟩, ⟨by (with_reducible repeat (first | refine blk_drewN ?_ _ | refine blk_drew ?_ | refine blk_alloc ?_ _)); exact BK255.out⟩, ⟨by (with_reducible repeat (first | refine blk_drewN ?_ _ | refine blk_drew ?_ | refine blk_alloc ?_ _)); exact BK262.out⟩, ⟨by repeat (first | (with_reducible first | exact HB.out | apply below_alloc | apply pw_below_drewN | apply below_drew1 | refine below_set ?_ GE255.out | refine below_set ?_ GE262.out) | exact HB.out)⟩⟩
                          case rest =>
                            clear HC59
                            try clear c1
                            try clear p1
                            try clear q1
                            try clear hx1
                            try clear qi1
                            try clear c2
                            try clear p2
                            try clear q2
                            try clear hx2
                            try clear qi2
                            try clear c3
                            try clear p3
                            try clear q3
                            try clear hx3
                            try clear c4
                            try clear c4b0
                            try clear c4b1
                            try clear c5
                            try clear c5b0
                            try clear c5b1
                            try clear c6
                            try clear p6
                            try clear q6
                            try clear hx6
                            try clear qi6
                            try clear c7
                            try clear c7b0
                            try clear c7b1
                            try clear c8
                            try clear c8b0
                            try clear c8b1
                            try clear p9
                            try clear q9
                            try clear hx9
                            try clear qi9
                            try clear c10
                            try clear c12
                            try clear c12b0
                            try clear c12b1
                            try clear c13
                            try clear c13b0
                            try clear c13b1
                            try clear c15
                            try clear c15b0
                            try clear c15b1
                            try clear c16
                            try clear c16b0
                            try clear c16b1
                            try clear c18
                            try clear c18b0
                            try clear c18b1
                            try clear p19
                            try clear q19
                            try clear hx19
                            try clear qi19
                            try clear c20
                            try clear c20b0
                            try clear c20b1
                            try clear p21
                            try clear q21
                            try clear hx21
                            try clear qi21
                            try clear c23
                            try clear c23b0
                            try clear p26
                            try clear q26
                            try clear hx26
                            try clear c31
                            try clear c31b0
                            try clear c32
                            try clear c32b0
                            try clear c33
                            try clear c33b0
                            try clear c34
                            try clear c34b0
                            try clear p35
                            try clear q35
                            try clear hx35
                            try clear c36
                            try clear c37
                            try clear c37b0
                            try clear c37b1
                            try clear c38
                            try clear c42
                            try clear c43
                            try clear c45
                            try clear c53
                            try clear c54
                            try clear c56
                            try clear c61
                            try clear p64
                            try clear c65
                            try clear c65b0
                            try clear c65b1
                            try clear c66
                            try clear c68
                            try clear hcz11_0
                            try clear hcz11_1
                            try clear hcz11_2
                            try clear hcz11_3
                            try clear hcz44_0
                            try clear hcz44_1
                            try clear hcz46_0
                            try clear hcz46_1
                            try clear hcz46_2
                            try clear hcz46_3
                            try clear hcz49_0
                            try clear hcz49_1
                            try clear hcz49_2
                            try clear hcz49_3
                            try clear hcz55_0
                            try clear hcz55_1
                            try clear hcz57_0
                            try clear hcz57_1
                            try clear hcz57_2
                            try clear hcz57_3
                            try clear hcz62_0
                            try clear hcz62_1
                            try clear hcz62_2
                            try clear hcz62_3
                            try clear hcz69_0
                            try clear hcz69_1
                            try clear hcz69_2
                            try clear hcz69_3
                            try clear hfz11_0
                            try clear hfz11_1
                            try clear hfz11_2
                            try clear hfz11_3
                            try clear hfz44_0
                            try clear hfz44_1
                            try clear hfz46_0
                            try clear hfz46_1
                            try clear hfz46_2
                            try clear hfz46_3
                            try clear hfz49_0
                            try clear hfz49_1
                            try clear hfz49_2
                            try clear hfz49_3
                            try clear hfz55_0
                            try clear hfz55_1
                            try clear hfz57_0
                            try clear hfz57_1
                            try clear hfz57_2
                            try clear hfz57_3
                            try clear hfz62_0
                            try clear hfz62_1
                            try clear hfz62_2
                            try clear hfz62_3
                            try clear hfz69_0
                            try clear hfz69_1
                            try clear hfz69_2
                            try clear hfz69_3
                            try clear hx266_0
                            try clear p1
                            try clear p19
                            try clear p2
                            try clear p21
                            try clear p266
                            try clear p35
                            try clear p6
                            try clear p9
                            try clear q1
                            try clear q19
                            try clear q2
                            try clear q21
                            try clear q266
                            try clear q35
                            try clear q6
                            try clear q9
                            obtain ⟨kq, x101_58, rfl, HA, HJ58, HO_263003, BK255, BK262, HB⟩ := hcut
                            cases kq with
                            | zero => exact absurd HA.out (by simp [interchangeref07_Take.j2])
                            | succ kj58 =>
                              have H := HA.out
                              clear HA
                              simp only [interchangeref07_Take.j2] at H
                              by_cases c71 : x101_58 = true
                              · subst c71
                                have H1 : (some (0, 0, 0, ([] : List (S42)), 7)) = some (r1, r2, r3, r4, r5) := by rw [if_pos rfl] at H; exact H
                                clear H
                                have H := H1
                                clear H1
                                simp only [Option.some.injEq, Prod.mk.injEq] at H
                                obtain ⟨rfl, rfl, rfl, rfl, rfl⟩ := H
                                have hnb72 := NB255_262.out
                                have hnc72 := NB262_255.out
                                have hcz73_0 : wc.cell? ⟨gb255, 0, none⟩ = some (.int .i64 x256000_2) := (blk_cell BK255.out 0).trans rfl
                                have hcz73_1 : wc.cell? ⟨gb255, 1, none⟩ = some (.int .u64 x256001_2) := (blk_cell BK255.out 1).trans rfl
                                have hcz73_2 : wc.cell? ⟨gb255, 2, none⟩ = some (.int .u64 x256002_2) := (blk_cell BK255.out 2).trans rfl
                                have hcz73_3 : wc.cell? ⟨gb255, 3, none⟩ = some (.slice none 0 0) := (blk_cell BK255.out 3).trans rfl
                                have hfz73_0 := blk_frozen BK255.out 0
                                have hfz73_1 := blk_frozen BK255.out 1
                                have hfz73_2 := blk_frozen BK255.out 2
                                have hfz73_3 := blk_frozen BK255.out 3
                                go_wp2
                                refine bodyPost_ret (results_ct rfl _ _ gb255 25 #[.int .i64 0, .int .u64 0, .int .u64 0, .slice none 0 0] (0, 0) _ rfl (by (with_reducible repeat (first | refine blk_drewN ?_ _ | refine blk_drew ?_ | refine blk_alloc ?_ _)); refine blk_put (cs := #[.int .i64 0, .int .u64 0, .int .u64 0, .slice none 0 0]) ?_ 3 _ rfl; (with_reducible repeat (first | refine blk_drewN ?_ _ | refine blk_drew ?_ | refine blk_alloc ?_ _)); refine blk_put (cs := #[.int .i64 0, .int .u64 0, .int .u64 x256002_2, .slice none 0 0]) ?_ 2 _ rfl; (with_reducible repeat (first | refine blk_drewN ?_ _ | refine blk_drew ?_ | refine blk_alloc ?_ _)); refine blk_put (cs := #[.int .i64 0, .int .u64 x256001_2, .int .u64 x256002_2, .slice none 0 0]) ?_ 1 _ rfl; (with_reducible repeat (first | refine blk_drewN ?_ _ | refine blk_drew ?_ | refine blk_alloc ?_ _)); refine blk_put (cs := #[.int .i64 x256000_2, .int .u64 x256001_2, .int .u64 x256002_2, .slice none 0 0]) ?_ 0 _ rfl; (with_reducible repeat (first | refine blk_drewN ?_ _ | refine blk_drew ?_ | refine blk_alloc ?_ _)); exact BK255.out) Tryd.underlying25 rfl (by kernel_rfl)) rfl ?_
                                exact ⟨_, by first | rfl | (simp [errW_none, errW_some] <;> rfl) | (simp [*, errW_none, errW_some] <;> rfl), by first | exact Kd.R_nil _ _ _ _ _ | exact Kd.N_nil _ _ _ _ _ | exact Kd.V_nil _ _ _ _ _ | exact Kd.Q_nil _ _ _ _ _ | exact Kd.S_nil _ _ _ _ _, by repeat (first | (with_reducible first | exact HB.out | apply below_alloc | apply pw_below_drewN | apply below_drew1 | refine below_set ?_ GE255.out | refine below_set ?_ GE262.out) | exact HB.out)⟩
                              · replace c71 := Bool.eq_false_iff.mpr c71
                                subst c71
                                have H1 : (if t256 > 65536 then (some (0, 0, 0, ([] : List (S42)), 4)) else (some ((wrap64 ((wrap64 (256 * (wrap64 (bt a0 0)))) + (wrap64 (bt a0 1)))), t256, t259, x263003_2, 0))) = some (r1, r2, r3, r4, r5) := by rw [if_neg (show ¬ (false = true) by decide)] at H; exact H
                                clear H
                                have H := H1
                                clear H1
                                by_cases c74 : t256 > 65536
                                · rw [if_pos c74] at H
                                  have c74b0 : decide (65536 < t256) = true := decide_eq_true c74
                                  clear c74
                                  simp only [Option.some.injEq, Prod.mk.injEq] at H
                                  obtain ⟨rfl, rfl, rfl, rfl, rfl⟩ := H
                                  have hnb75 := NB255_262.out
                                  have hnc75 := NB262_255.out
                                  have hcz76_0 : wc.cell? ⟨gb255, 0, none⟩ = some (.int .i64 x256000_2) := (blk_cell BK255.out 0).trans rfl
                                  have hcz76_1 : wc.cell? ⟨gb255, 1, none⟩ = some (.int .u64 x256001_2) := (blk_cell BK255.out 1).trans rfl
                                  have hcz76_2 : wc.cell? ⟨gb255, 2, none⟩ = some (.int .u64 x256002_2) := (blk_cell BK255.out 2).trans rfl
                                  have hcz76_3 : wc.cell? ⟨gb255, 3, none⟩ = some (.slice none 0 0) := (blk_cell BK255.out 3).trans rfl
                                  have hfz76_0 := blk_frozen BK255.out 0
                                  have hfz76_1 := blk_frozen BK255.out 1
                                  have hfz76_2 := blk_frozen BK255.out 2
                                  have hfz76_3 := blk_frozen BK255.out 3
                                  go_wp2
                                  refine bodyPost_ret (results_ct rfl _ _ gb255 25 #[.int .i64 0, .int .u64 0, .int .u64 0, .slice none 0 0] (0, 0) _ rfl (by (with_reducible repeat (first | refine blk_drewN ?_ _ | refine blk_drew ?_ | refine blk_alloc ?_ _)); refine blk_put (cs := #[.int .i64 0, .int .u64 0, .int .u64 0, .slice none 0 0]) ?_ 3 _ rfl; (with_reducible repeat (first | refine blk_drewN ?_ _ | refine blk_drew ?_ | refine blk_alloc ?_ _)); refine blk_put (cs := #[.int .i64 0, .int .u64 0, .int .u64 x256002_2, .slice none 0 0]) ?_ 2 _ rfl; (with_reducible repeat (first | refine blk_drewN ?_ _ | refine blk_drew ?_ | refine blk_alloc ?_ _)); refine blk_put (cs := #[.int .i64 0, .int .u64 x256001_2, .int .u64 x256002_2, .slice none 0 0]) ?_ 1 _ rfl; (with_reducible repeat (first | refine blk_drewN ?_ _ | refine blk_drew ?_ | refine blk_alloc ?_ _)); refine blk_put (cs := #[.int .i64 x256000_2, .int .u64 x256001_2, .int .u64 x256002_2, .slice none 0 0]) ?_ 0 _ rfl; (with_reducible repeat (first | refine blk_drewN ?_ _ | refine blk_drew ?_ | refine blk_alloc ?_ _)); exact BK255.out) Tryd.underlying25 rfl (by kernel_rfl)) rfl ?_
                                  exact ⟨_, by first | rfl | (simp [errW_none, errW_some] <;> rfl) | (simp [*, errW_none, errW_some] <;> rfl), by first | exact Kd.R_nil _ _ _ _ _ | exact Kd.N_nil _ _ _ _ _ | exact Kd.V_nil _ _ _ _ _ | exact Kd.Q_nil _ _ _ _ _ | exact Kd.S_nil _ _ _ _ _, by repeat (first | (with_reducible first | exact HB.out | apply below_alloc | apply pw_below_drewN | apply below_drew1 | refine below_set ?_ GE255.out | refine below_set ?_ GE262.out) | exact HB.out)⟩
                                · rw [if_neg c74] at H
                                  have c74b0 : decide (65536 < t256) = false := decide_eq_false c74
                                  clear c74
                                  simp only [Option.some.injEq, Prod.mk.injEq] at H
                                  obtain ⟨rfl, rfl, rfl, rfl, rfl⟩ := H
                                  have hnb77 := NB262_255.out
                                  have hnc77 := NB255_262.out
                                  have hcz78_0 : wc.cell? ⟨gb262, 0, none⟩ = some (.int .i64 (wrap64 ((wrap64 (256 * (wrap64 (bt a0 0)))) + (wrap64 (bt a0 1))))) := (blk_cell BK262.out 0).trans rfl
                                  have hcz78_1 : wc.cell? ⟨gb262, 1, none⟩ = some (.int .u64 t256) := (blk_cell BK262.out 1).trans rfl
                                  have hcz78_2 : wc.cell? ⟨gb262, 2, none⟩ = some (.int .u64 t259) := (blk_cell BK262.out 2).trans rfl
                                  have hcz78_3 : wc.cell? ⟨gb262, 3, none⟩ = some (.slice Ao63 x263003_2.length co63) := (blk_cell BK262.out 3).trans rfl
                                  have hfz78_0 := blk_frozen BK262.out 0
                                  have hfz78_1 := blk_frozen BK262.out 1
                                  have hfz78_2 := blk_frozen BK262.out 2
                                  have hfz78_3 := blk_frozen BK262.out 3
                                  have hcz79_0 : wc.cell? ⟨gb255, 0, none⟩ = some (.int .i64 x256000_2) := (blk_cell BK255.out 0).trans rfl
                                  have hcz79_1 : wc.cell? ⟨gb255, 1, none⟩ = some (.int .u64 x256001_2) := (blk_cell BK255.out 1).trans rfl
                                  have hcz79_2 : wc.cell? ⟨gb255, 2, none⟩ = some (.int .u64 x256002_2) := (blk_cell BK255.out 2).trans rfl
                                  have hcz79_3 : wc.cell? ⟨gb255, 3, none⟩ = some (.slice none 0 0) := (blk_cell BK255.out 3).trans rfl
                                  have hfz79_0 := blk_frozen BK255.out 0
                                  have hfz79_1 := blk_frozen BK255.out 1
                                  have hfz79_2 := blk_frozen BK255.out 2
                                  have hfz79_3 := blk_frozen BK255.out 3
                                  go_wp2
                                  refine bodyPost_ret (results_ct rfl _ _ gb255 25 #[.int .i64 (wrap64 ((wrap64 (256 * (wrap64 (bt a0 0)))) + (wrap64 (bt a0 1)))), .int .u64 t256, .int .u64 t259, .slice Ao63 x263003_2.length co63] (0, 0) _ rfl (by (with_reducible repeat (first | refine blk_drewN ?_ _ | refine blk_drew ?_ | refine blk_alloc ?_ _)); refine blk_put (cs := #[.int .i64 (wrap64 ((wrap64 (256 * (wrap64 (bt a0 0)))) + (wrap64 (bt a0 1)))), .int .u64 t256, .int .u64 t259, .slice none 0 0]) ?_ 3 _ rfl; (with_reducible repeat (first | refine blk_drewN ?_ _ | refine blk_drew ?_ | refine blk_alloc ?_ _)); refine blk_put (cs := #[.int .i64 (wrap64 ((wrap64 (256 * (wrap64 (bt a0 0)))) + (wrap64 (bt a0 1)))), .int .u64 t256, .int .u64 x256002_2, .slice none 0 0]) ?_ 2 _ rfl; (with_reducible repeat (first | refine blk_drewN ?_ _ | refine blk_drew ?_ | refine blk_alloc ?_ _)); refine blk_put (cs := #[.int .i64 (wrap64 ((wrap64 (256 * (wrap64 (bt a0 0)))) + (wrap64 (bt a0 1)))), .int .u64 x256001_2, .int .u64 x256002_2, .slice none 0 0]) ?_ 1 _ rfl; (with_reducible repeat (first | refine blk_drewN ?_ _ | refine blk_drew ?_ | refine blk_alloc ?_ _)); refine blk_put (cs := #[.int .i64 x256000_2, .int .u64 x256001_2, .int .u64 x256002_2, .slice none 0 0]) ?_ 0 _ rfl; (with_reducible repeat (first | refine blk_drewN ?_ _ | refine blk_drew ?_ | refine blk_alloc ?_ _)); exact BK255.out) Tryd.underlying25 rfl (by kernel_rfl)) rfl ?_
                                  exact ⟨_, by first | rfl | (simp [errW_none, errW_some] <;> rfl) | (simp [*, errW_none, errW_some] <;> rfl), by (with_reducible repeat (first | apply Kd.R_alloc | apply Kd.R_drewN | apply Kd.R_drew)); exact Kd.R_mono (Kd.R_far (p := ⟨gb255, 3, none⟩) (Kd.R_far (p := ⟨gb255, 2, none⟩) (Kd.R_far (p := ⟨gb255, 1, none⟩) (Kd.R_far (p := ⟨gb255, 0, none⟩) (Kd.R_types HO_263003.out BK255.out (by decide)) (fun _ hk => hk.2) (.int .i64 (wrap64 ((wrap64 (256 * (wrap64 (bt a0 0)))) + (wrap64 (bt a0 1)))))) (fun _ hk => hk.2) (.int .u64 t256)) (fun _ hk => hk.2) (.int .u64 t259)) (fun _ hk => hk.2) (.slice Ao63 x263003_2.length co63)) (fun _ hk => trivial), by repeat (first | (with_reducible first | exact HB.out | apply below_alloc | apply pw_below_drewN | apply below_drew1 | refine below_set ?_ GE255.out | refine below_set ?_ GE262.out) | exact HB.out)⟩
                  · rw [if_neg c20] at H
                    exact absurd H (by simp)
                · rw [if_neg c18] at H
                  exact absurd H (by simp)
              · rw [if_neg c16] at H
                exact absurd H (by simp)
            · rw [if_neg c15] at H
              exact absurd H (by simp)
          · rw [if_neg c13] at H
            exact absurd H (by simp)
        · rw [if_neg c12] at H
          exact absurd H (by simp)


end Go.Proofs.YthpfcplhlhnfeaaDoor.F
namespace Go.Proofs.YthpfcplhlhnfeaaDoor.F
open Go.RowKit Go.Proofs.YthpfcplhlhnfeaaDoorW.PrintWords Go.Proofs.YthpfcplhlhnfeaaDoorW.PrintLast Go.Proofs.YthpfcplhlhnfeaaDoorW.PrintMore
attribute [local go_sem] max2_int min2_int max_two min_two max_three min_three max_four min_four
set_option linter.unusedVariables false
set_option linter.unusedSimpArgs false
set_option maxRecDepth 4000
set_option linter.unnecessarySimpa false

attribute [local go_sem high] eqA42
/-! ### api_Val: function 40 -/
def api_Val.l0 : Nat → List (S42) → List (S42) → Int → Int → Option (Bool)
  | 0, _, _, _, _ => none
  | k + 1, x0, x1, x12, x13 => if x13 < x12 then (if 0 ≤ x13 then (if x13 < (x0.length : Int) then (if x13 < (x1.length : Int) then (if (!(((rd_T42 x0 x13).f0) == ((rd_T42 x1 x13).f0)) || (!((((rd_T42 x0 x13).f1).toList) == (((rd_T42 x1 x13).f1).toList)))) = true then (some false) else (api_Val.l0 k x0 x1 x12 (wrap64 (x13 + 1)))) else (none)) else (none)) else (none)) else (some true)
def api_Val.f (k : Nat) (l0 : List (S42)) (l1 : List (S42)) : Option (Bool) := if (l0.length : Int) = (l1.length : Int) then (api_Val.l0 k l0 l1 (l0.length : Int) 0) else (some false)
theorem api_Val.mono_l : ∀ k, (∀ y0 y1 y2 y3, LeO (api_Val.l0 k y0 y1 y2 y3) (api_Val.l0 (k + 1) y0 y1 y2 y3))
  | 0 => fun _ _ _ _ r h => by simp [api_Val.l0] at h
  | k + 1 => by
    have ih0 := api_Val.mono_l k
    · intro y0 y1 y2 y3
      unfold api_Val.l0
      repeat' first
      | (with_reducible exact ih0 _ _ _ _)
      | (with_reducible exact LeO.refl _)
      | (with_reducible exact LeO.none _)
      | (with_reducible refine LeO.ite ?_ ?_)
      | (with_reducible refine LeO.bind ?_ (fun _ => ?_))
      | exact ih0 _ _ _ _
      | exact LeO.none _
      | refine LeO.ite ?_ ?_
      | refine LeO.bind ?_ (fun _ => ?_)
theorem api_Val.mono : ∀ a0 a1 k, LeO (api_Val.f k a0 a1) (api_Val.f (k + 1) a0 a1) := by
  intro a0 a1 k
  have ih0 := api_Val.mono_l k
  unfold api_Val.f
  repeat' first
      | (with_reducible exact ih0 _ _ _ _)
      | (with_reducible exact LeO.refl _)
      | (with_reducible exact LeO.none _)
      | (with_reducible refine LeO.ite ?_ ?_)
      | (with_reducible refine LeO.bind ?_ (fun _ => ?_))
      | exact ih0 _ _ _ _
      | exact LeO.none _
      | refine LeO.ite ?_ ?_
      | refine LeO.bind ?_ (fun _ => ?_)
set_option maxHeartbeats 8000000 in
set_option maxRecDepth 100000 in
theorem api_Val.calls (k : Nat) (A0 : Option Addr) (c0 : Nat) (l0 : List (S42)) (A1 : Option Addr) (c1 : Nat) (l1 : List (S42)) (r : Bool) (w : World) (hr0 : Kd.C k42 w A0 l0.length l0) (hc0 : l0.length ≤ c0) (hr1 : Kd.C k42 w A1 l1.length l1) (hc1 : l1.length ≤ c1) (h : api_Val.f k l0 l1 = some r) :
    Calls Tryd.prog 40 #[.slice A0 l0.length c0, .slice A1 l1.length c1] w fun e w' => e = .returned (.bool r) ∧ Drawn0 w w' := by
  have hu42 := Tryd.underlying42
  have HR0 := Aside0.mk hr0
  have HC0 := Aside0.mk hc0
  clear hr0 hc0
  have HR1 := Aside0.mk hr1
  have HC1 := Aside0.mk hc1
  clear hr1 hc1
  have H : (if (l0.length : Int) = (l1.length : Int) then (api_Val.l0 k l0 l1 (l0.length : Int) 0) else (some false)) = some r := h
  clear h
  by_cases c3 : (l0.length : Int) = (l1.length : Int)
  · rw [if_pos c3] at H
    have c3b0 : ((l0.length : Int) == (l1.length : Int)) = true := beq_iff_eq.mpr c3
    have c3b1 : ((l0.length : Int) != (l1.length : Int)) = false := bne_eq_false_iff_eq.mpr c3
    have c3b2 : (l0.length == l1.length) = true := by first | simpa using c3 | (simp at c3 ⊢; omega)
    clear c3
    have H' := Aside0.mk H
    clear H
    go_enter Tryd.func40, Tryd.ntmps40
    go_wp2
    repeat (go_quiet (fail); try go_wp2)
    go_loopg [13] k (fun kq v13 w' => ∃ (x13_1 : Int), v13 = .int .i64 x13_1 ∧ Aside0 (api_Val.l0 kq l0 l1 (l0.length : Int) x13_1 = some r) ∧ Aside0 (kq ≤ k) ∧ Drawn0 w w')
    case atStart => exact ⟨(0), (by first | rfl | (simp; done) | (simp [*]; done)), H', ⟨Nat.le_refl _⟩, by repeat (first | exact Drawn0.refl _ | apply Drawn0.step)⟩
    case round =>
      clear H'
      try clear c1
      try clear p2
      try clear c3
      try clear c3b0
      try clear c3b1
      try clear c3b2
      obtain ⟨x13_1, rfl, HA, HK1, ⟨m1, rfl⟩⟩ := hrel
      cases gk with
      | zero => exact absurd HA.out (by simp [api_Val.l0])
      | succ k1 =>
        have H := HA.out
        clear HA
        simp only [api_Val.l0] at H
        by_cases c4 : x13_1 < (l0.length : Int)
        · rw [if_pos c4] at H
          have c4b0 : decide (x13_1 < (l0.length : Int)) = true := decide_eq_true c4
          clear c4
          by_cases c5 : 0 ≤ x13_1
          · rw [if_pos c5] at H
            have c5b0 : decide (0 ≤ x13_1) = true := decide_eq_true c5
            clear c5
            by_cases c6 : x13_1 < (l0.length : Int)
            · rw [if_pos c6] at H
              have c6b0 : decide (x13_1 < (l0.length : Int)) = true := decide_eq_true c6
              clear c6
              by_cases c7 : x13_1 < (l1.length : Int)
              · rw [if_pos c7] at H
                have c7b0 : decide (x13_1 < (l1.length : Int)) = true := decide_eq_true c7
                clear c7
                by_cases c8 : (!(((rd_T42 l0 x13_1).f0) == ((rd_T42 l1 x13_1).f0)) || (!((((rd_T42 l0 x13_1).f1).toList) == (((rd_T42 l1 x13_1).f1).toList)))) = true
                · rw [if_pos c8] at H
                  have c8b0 : (!(((rd_T42 l0 x13_1).f0) == ((rd_T42 l1 x13_1).f0)) || (!((((rd_T42 l0 x13_1).f1).toList) == (((rd_T42 l1 x13_1).f1).toList)))) = true := c8
                  clear c8
                  obtain rfl := Option.some.inj H
                  have p277 : 0 ≤ (x13_1 : Int) := of_decide_eq_true (by first | (with_reducible assumption) | assumption)
                  have q277 : x13_1 < (l0.length : Int) := of_decide_eq_true (by first | (with_reducible assumption) | assumption)
                  obtain ⟨ad277, e277, hx277_0, hx277_1⟩ := at_T42 HR0.out x13_1 p277 q277
                  cases e277
                  replace p277 := eq_true p277
                  replace q277 := eq_true q277
                  have p278 : 0 ≤ (x13_1 : Int) := of_decide_eq_true (by first | (with_reducible assumption) | assumption)
                  have q278 : x13_1 < (l1.length : Int) := of_decide_eq_true (by first | (with_reducible assumption) | assumption)
                  obtain ⟨ad278, e278, hx278_0, hx278_1⟩ := at_T42 HR1.out x13_1 p278 q278
                  cases e278
                  replace p278 := eq_true p278
                  replace q278 := eq_true q278
                  go_wp2
                  repeat (go_quiet (fail); try go_wp2)
                  go_ret
                  exact ⟨by first | rfl | (simp; done) | (simp [*]; done), by repeat (first | exact Drawn0.refl _ | apply Drawn0.step)⟩
                · rw [if_neg c8] at H
                  have c8b0 : (!(((rd_T42 l0 x13_1).f0) == ((rd_T42 l1 x13_1).f0)) || (!((((rd_T42 l0 x13_1).f1).toList) == (((rd_T42 l1 x13_1).f1).toList)))) = false := by simpa using c8
                  clear c8
                  have H' := Aside0.mk H
                  clear H
                  have p277 : 0 ≤ (x13_1 : Int) := of_decide_eq_true (by first | (with_reducible assumption) | assumption)
                  have q277 : x13_1 < (l0.length : Int) := of_decide_eq_true (by first | (with_reducible assumption) | assumption)
                  obtain ⟨ad277, e277, hx277_0, hx277_1⟩ := at_T42 HR0.out x13_1 p277 q277
                  cases e277
                  replace p277 := eq_true p277
                  replace q277 := eq_true q277
                  have p278 : 0 ≤ (x13_1 : Int) := of_decide_eq_true (by first | (with_reducible assumption) | assumption)
                  have q278 : x13_1 < (l1.length : Int) := of_decide_eq_true (by first | (with_reducible assumption) | assumption)
                  obtain ⟨ad278, e278, hx278_0, hx278_1⟩ := at_T42 HR1.out x13_1 p278 q278
                  cases e278
                  replace p278 := eq_true p278
                  replace q278 := eq_true q278
                  go_wp2
                  repeat (go_quiet (fail); try go_wp2)
                  go_roundg k1
                  case measure => have := HK1.out; omega
                  case rel => exact ⟨(wrap64 (x13_1 + 1)), (by first | rfl | (simp; done) | (simp [*]; done)), H', ⟨by have := HK1.out; omega⟩, by repeat (first | exact Drawn0.refl _ | apply Drawn0.step)⟩
              · rw [if_neg c7] at H
                exact absurd H (by simp)
            · rw [if_neg c6] at H
              exact absurd H (by simp)
          · rw [if_neg c5] at H
            exact absurd H (by simp)
        · rw [if_neg c4] at H
          have c4b0 : decide (x13_1 < (l0.length : Int)) = false := decide_eq_false c4
          clear c4
          obtain rfl := Option.some.inj H
          go_wp2
          repeat (go_quiet (fail); try go_wp2)
          go_ret
          exact ⟨by first | rfl | (simp; done) | (simp [*]; done), by repeat (first | exact Drawn0.refl _ | apply Drawn0.step)⟩
  · rw [if_neg c3] at H
    have c3b0 : ((l0.length : Int) == (l1.length : Int)) = false := beq_eq_false_iff_ne.mpr c3
    have c3b1 : ((l0.length : Int) != (l1.length : Int)) = true := bne_iff_ne.mpr c3
    have c3b2 : (l0.length == l1.length) = false := by first | simpa using c3 | (simp at c3 ⊢; omega)
    obtain rfl := Option.some.inj H
    go_enter Tryd.func40, Tryd.ntmps40
    go_wp2
    repeat (go_quiet (fail); try go_wp2)
    go_ret
    exact ⟨by first | rfl | (simp; done) | (simp [*]; done), by repeat (first | exact Drawn0.refl _ | apply Drawn0.step)⟩


end Go.Proofs.YthpfcplhlhnfeaaDoor.F
