/- Texts of this session for the law TextLays, one behind the other: interchangeref02Long, interchangeref02Short, interchangeref01Take, interchangeref02TakeLong, interchangeref02TakeShort, interchangelaw02TextLays, Hopen, Hlaid, Pcore, Pback, Ptext, PnumPut, PnumTake, PtextFn, Pshown02, PrefPut. -/
import Derived.Test.YtmpbhbbgnmkpgaaDoorRows
import Derived.SizedLaws
import Derived.ProofKit
import Derived.OpenShut
import Derived.Deep.Slices
import Derived.Lib.LaidTab
import Derived.Deep.DeepHandedRow
import Derived.Lib.Strings
import Derived.Lib.IndexBytes
import Derived.Test.YtmpbhbbgnmkpgaaDoorBTextLaysa
namespace Go.Proofs.YtmpbhbbgnmkpgaaDoor.F
open Go.RowKit Go.Proofs.YtmpbhbbgnmkpgaaDoorW.PrintWords Go.Proofs.YtmpbhbbgnmkpgaaDoorW.PrintLast Go.Proofs.YtmpbhbbgnmkpgaaDoorW.PrintMore
attribute [local go_sem] max2_int min2_int max_two min_two max_three min_three max_four min_four
set_option linter.unusedVariables false
set_option linter.unusedSimpArgs false

/-! ### interchangeref02_Long: function 23 -/
def interchangeref02_Long.f (k : Nat) (a0 : ByteArray) : Option (ByteArray × Int) := (interchangeref01_Put.f k 4 (IntKind.u64.wrap ((a0.size : Int)))).bind fun bt208 => (if bt208.2 = 0 then (if bt208.1.size + a0.size ≤ 9223372036854775807 then (some (bt208.1 ++ a0, 0)) else (none)) else (some ((⟨#[]⟩ : ByteArray), bt208.2)))
theorem interchangeref02_Long.mono : ∀ a0 k, LeO (interchangeref02_Long.f k a0) (interchangeref02_Long.f (k + 1) a0) := by
  intro a0 k
  unfold interchangeref02_Long.f
  repeat' first
      | (with_reducible exact interchangeref01_Put.mono _ _ _)
      | (with_reducible exact LeO.refl _)
      | (with_reducible exact LeO.none _)
      | (with_reducible refine LeO.ite ?_ ?_)
      | (with_reducible refine LeO.bind ?_ (fun _ => ?_))
      | exact interchangeref01_Put.mono _ _ _
      | exact LeO.none _
      | refine LeO.ite ?_ ?_
      | refine LeO.bind ?_ (fun _ => ?_)
set_option maxHeartbeats 8000000 in
set_option maxRecDepth 100000 in
theorem interchangeref02_Long.calls (k : Nat) (a0 : ByteArray) (r1 : ByteArray) (r2 : Int) (w : World) (h : interchangeref02_Long.f k a0 = some (r1, r2)) :
    Calls Tryd.prog 23 #[.string a0] w fun e w' => e = .returned (.tuple #[.string r1, .int .i64 r2]) ∧ Below w.heap.size w w' := by
  have HB := Aside0.mk (Below.refl w.heap.size w)
  have H : ((interchangeref01_Put.f k 4 (IntKind.u64.wrap ((a0.size : Int)))).bind fun bt208 => (if bt208.2 = 0 then (if bt208.1.size + a0.size ≤ 9223372036854775807 then (some (bt208.1 ++ a0, 0)) else (none)) else (some ((⟨#[]⟩ : ByteArray), bt208.2)))) = some (r1, r2) := h
  clear h
  replace H := Option.bind_eq_some_iff.mp H
  obtain ⟨⟨t208, t209⟩, A20, H⟩ := H
  replace H : (if t209 = 0 then (if t208.size + a0.size ≤ 9223372036854775807 then (some (t208 ++ a0, 0)) else (none)) else (some ((⟨#[]⟩ : ByteArray), t209))) = some (r1, r2) := H
  have A2 := Aside0.mk A20
  clear A20
  by_cases c3 : t209 = 0
  · rw [if_pos c3] at H
    have c3b0 : (t209 == 0) = true := beq_iff_eq.mpr c3
    have c3b1 : (t209 != 0) = false := bne_eq_false_iff_eq.mpr c3
    clear c3
    by_cases c4 : t208.size + a0.size ≤ 9223372036854775807
    · rw [if_pos c4] at H
      have c4b0 := eq_true c4
      have c4b1 : decide (t208.size + a0.size ≤ 9223372036854775807) = true := decide_eq_true c4
      try have c4b2 : (9223372036854775807 < t208.size + a0.size) = False := eq_false (Nat.not_lt.2 c4)
      simp only [Option.some.injEq, Prod.mk.injEq] at H
      obtain ⟨rfl, rfl⟩ := H
      have hw_ : IntKind.u64.wrap ((a0.size : Int)) = ((a0.size : Int)) := IntWalk.u64_in _ (by omega)
      have A2w := A2.out
      rw [hw_] at A2w
      clear A2
      have A2 := Aside0.mk A2w
      clear A2w
      clear hw_
      go_enter Tryd.func23, Tryd.ntmps23
      go_wp2_with (first | ((with_reducible refine gate_callee (f := 34) rfl ?_); refine goesL_ (some 10) rfl rfl Tryd.func34 (by kernel_rfl) rfl #[.int .i64 4, .int .u64 ((a0.size : Int))] rfl (by (try simp only [List.map_toArray, List.map_cons, List.map_nil]); first | done | rfl | (simp only [List.length_drop, List.length_take]; rfl)) ?_; (with_reducible refine (interchangeref01_Put.calls k 4 ((a0.size : Int)) t208 t209 _ A2.out).mono ?_); rintro e w5 ⟨rfl, hb⟩; refine ⟨_, rfl, ?_⟩; have n0_ := Aside0.mk (below_step (by repeat (first | (with_reducible first | exact HB.out | apply below_alloc | apply pw_below_drewN | apply below_drew1) | exact HB.out)) hb); clear HB; have HB := n0_; clear n0_; (try clear hb); (try clear hb2); (try clear hk); (try clear hi)))
      go_ret2
      exact ⟨by first | rfl | (simp [errW_none, errW_some] <;> rfl) | (simp [*, errW_none, errW_some] <;> rfl), by repeat (first | (with_reducible first | exact HB.out | apply below_alloc | apply pw_below_drewN | apply below_drew1) | exact HB.out)⟩
    · rw [if_neg c4] at H
      exact absurd H (by simp)
  · rw [if_neg c3] at H
    have c3b0 : (t209 == 0) = false := beq_eq_false_iff_ne.mpr c3
    have c3b1 : (t209 != 0) = true := bne_iff_ne.mpr c3
    simp only [Option.some.injEq, Prod.mk.injEq] at H
    obtain ⟨rfl, rfl⟩ := H
    go_enter Tryd.func23, Tryd.ntmps23
    go_wp2_with (first | ((with_reducible refine gate_callee (f := 34) rfl ?_); refine goesL_ (some 10) rfl rfl Tryd.func34 (by kernel_rfl) rfl #[.int .i64 4, .int .u64 (IntKind.u64.wrap ((a0.size : Int)))] rfl (by (try simp only [List.map_toArray, List.map_cons, List.map_nil]); first | done | rfl | (simp only [List.length_drop, List.length_take]; rfl)) ?_; (with_reducible refine (interchangeref01_Put.calls k 4 (IntKind.u64.wrap ((a0.size : Int))) t208 t209 _ A2.out).mono ?_); rintro e w6 ⟨rfl, hb⟩; refine ⟨_, rfl, ?_⟩; have n0_ := Aside0.mk (below_step (by repeat (first | (with_reducible first | exact HB.out | apply below_alloc | apply pw_below_drewN | apply below_drew1) | exact HB.out)) hb); clear HB; have HB := n0_; clear n0_; (try clear hb); (try clear hb2); (try clear hk); (try clear hi)))
    go_ret2
    exact ⟨by first | rfl | (simp [errW_none, errW_some] <;> rfl) | (simp [*, errW_none, errW_some] <;> rfl), by repeat (first | (with_reducible first | exact HB.out | apply below_alloc | apply pw_below_drewN | apply below_drew1) | exact HB.out)⟩


end Go.Proofs.YtmpbhbbgnmkpgaaDoor.F
namespace Go.Proofs.YtmpbhbbgnmkpgaaDoor.F
open Go.RowKit Go.Proofs.YtmpbhbbgnmkpgaaDoorW.PrintWords Go.Proofs.YtmpbhbbgnmkpgaaDoorW.PrintLast Go.Proofs.YtmpbhbbgnmkpgaaDoorW.PrintMore
attribute [local go_sem] max2_int min2_int max_two min_two max_three min_three max_four min_four
set_option linter.unusedVariables false
set_option linter.unusedSimpArgs false

/-! ### interchangeref02_Short: function 22 -/
def interchangeref02_Short.f (a0 : ByteArray) : Option (ByteArray × Int) := if (a0.size : Int) > 255 then (some ((⟨#[]⟩ : ByteArray), 4)) else ((some (([((a0.size : Int)) % 256] : List Int) : List Int)).bind fun y202 => (if (strOfNums y202).size + a0.size ≤ 9223372036854775807 then (some ((strOfNums y202) ++ a0, 0)) else (none)))
set_option maxHeartbeats 8000000 in
set_option maxRecDepth 100000 in
theorem interchangeref02_Short.calls (a0 : ByteArray) (r1 : ByteArray) (r2 : Int) (w : World) (h : interchangeref02_Short.f a0 = some (r1, r2)) :
    Calls Tryd.prog 22 #[.string a0] w fun e w' => e = .returned (.tuple #[.string r1, .int .i64 r2]) ∧ Below w.heap.size w w' := by
  have HB := Aside0.mk (Below.refl w.heap.size w)
  have H : (if (a0.size : Int) > 255 then (some ((⟨#[]⟩ : ByteArray), 4)) else ((some (([((a0.size : Int)) % 256] : List Int) : List Int)).bind fun y202 => (if (strOfNums y202).size + a0.size ≤ 9223372036854775807 then (some ((strOfNums y202) ++ a0, 0)) else (none)))) = some (r1, r2) := h
  clear h
  by_cases c2 : (a0.size : Int) > 255
  · rw [if_pos c2] at H
    have c2b0 : decide (255 < (a0.size : Int)) = true := decide_eq_true c2
    have c2b1 : decide (255 < a0.size) = true := decide_eq_true (by omega)
    clear c2
    simp only [Option.some.injEq, Prod.mk.injEq] at H
    obtain ⟨rfl, rfl⟩ := H
    go_enter Tryd.func22, Tryd.ntmps22
    go_wp2
    go_ret2
    exact ⟨by first | rfl | (simp [errW_none, errW_some] <;> rfl) | (simp [*, errW_none, errW_some] <;> rfl), by repeat (first | (with_reducible first | exact HB.out | apply below_alloc | apply pw_below_drewN | apply below_drew1) | exact HB.out)⟩
  · rw [if_neg c2] at H
    have c2b0 : decide (255 < (a0.size : Int)) = false := decide_eq_false c2
    have c2b1 : decide (255 < a0.size) = false := decide_eq_false (by omega)
    clear c2
    obtain ⟨y202, hy202⟩ : ∃ y_ : List Int, y_ = (([((a0.size : Int)) % 256] : List Int)) := ⟨_, rfl⟩
    replace H : (if (strOfNums y202).size + a0.size ≤ 9223372036854775807 then (some ((strOfNums y202) ++ a0, 0)) else (none)) = some (r1, r2) := by first | (rw [hy202]; with_reducible exact H) | (have H2_ := (Option.bind_some _ _).symm.trans H; rw [hy202]; with_reducible exact H2_) | (have H2_ := (Option.bind_some _ _).symm.trans H; with_reducible exact H2_) | with_reducible exact H | (rw [hy202]; exact H) | exact H
    have Ny202 := Aside0.mk hy202
    clear hy202
    by_cases c3 : (strOfNums y202).size + a0.size ≤ 9223372036854775807
    · rw [if_pos c3] at H
      have c3b0 := eq_true c3
      have c3b1 : decide ((strOfNums y202).size + a0.size ≤ 9223372036854775807) = true := decide_eq_true c3
      try have c3b2 : (9223372036854775807 < (strOfNums y202).size + a0.size) = False := eq_false (Nat.not_lt.2 c3)
      simp only [Option.some.injEq, Prod.mk.injEq] at H
      obtain ⟨rfl, rfl⟩ := H
      go_enter Tryd.func22, Tryd.ntmps22
      go_wp2_with (first | ((with_reducible refine gate_dst (N := 10) rfl ?_); refine Kd.R_lit (Kd.int .u8) _ 5 ?hg (N := 10) ?hd (xs := ([((a0.size : Int)) % 256] : List Int)) (inner := [.int .u8 (((a0.size : Int)) % 256)]) (ok := fun _ => True) (okp := fun _ => True) ?hr ?hp (fun _ hk => hk) trivial (Below.refl _ _) (Nat.le_refl _) (by simp) ?_; (case hd => rfl); (case hg => rfl); (case hr => first | (go_simp; done) | (go_simp; rfl)); (case hp => exact (Reps.one (show Kd.M (Kd.int .u8) _ _ _ (((a0.size : Int)) % 256) [.int .u8 (((a0.size : Int)) % 256)] from rfl) (Reps.none _ _))); intro v203 w4 ho5 hb hg_ hnew_; clear hg_ hnew_; (first | rw [← Ny202.out] at ho5 | (simp only [Int.reduceToNat] at ho5; rw [← Ny202.out] at ho5)); have n0_ := Aside0.mk (Kd.R_lower ho5 (below_size (by repeat (first | (with_reducible first | exact HB.out | apply below_alloc | apply pw_below_drewN | apply below_drew1) | exact HB.out)))); have n1_ := Aside0.mk (below_step (by repeat (first | (with_reducible first | exact HB.out | apply below_alloc | apply pw_below_drewN | apply below_drew1) | exact HB.out)) hb); clear HB; have HO204 := n0_; have HB := n1_; clear n0_ n1_; clear hb ho5; have hcv6 := own_string (P := Tryd.prog) Tryd.underlying52 Tryd.underlying5 Tryd.underlying9 (Kd.own_of_R HO204.out)))
      go_ret2
      exact ⟨by first | rfl | (simp [errW_none, errW_some] <;> rfl) | (simp [*, errW_none, errW_some] <;> rfl), by repeat (first | (with_reducible first | exact HB.out | apply below_alloc | apply pw_below_drewN | apply below_drew1) | exact HB.out)⟩
    · rw [if_neg c3] at H
      exact absurd H (by simp)


end Go.Proofs.YtmpbhbbgnmkpgaaDoor.F
namespace Go.Proofs.YtmpbhbbgnmkpgaaDoor.F
open Go.RowKit Go.Proofs.YtmpbhbbgnmkpgaaDoorW.PrintWords Go.Proofs.YtmpbhbbgnmkpgaaDoorW.PrintLast Go.Proofs.YtmpbhbbgnmkpgaaDoorW.PrintMore
attribute [local go_sem] max2_int min2_int max_two min_two max_three min_three max_four min_four
set_option linter.unusedVariables false
set_option linter.unusedSimpArgs false

/-! ### interchangeref01_Take: function 35 -/
mutual
def interchangeref01_Take.j0 : Nat → ByteArray → Int → Bool → Option (Int × ByteArray × Int)
  | 0, _, _, _ => none
  | k + 1, x0, x1, x22 => if x22 = true then (some (0, (⟨#[]⟩ : ByteArray), 1)) else (if (x0.size : Int) < x1 then (some (0, (⟨#[]⟩ : ByteArray), 2)) else (interchangeref01_Take.l0 k x0 x1 0 0))
def interchangeref01_Take.l0 : Nat → ByteArray → Int → Int → Int → Option (Int × ByteArray × Int)
  | 0, _, _, _, _ => none
  | k + 1, x0, x1, x7, x8 => if x8 < x1 then (if 0 ≤ x8 then (if x8 < (x0.size : Int) then (interchangeref01_Take.l0 k x0 x1 (IntKind.u64.wrap ((IntKind.u64.wrap (256 * x7)) + (IntKind.u64.wrap (bt x0 x8)))) (wrap64 (x8 + 1))) else (none)) else (none)) else (if 0 ≤ x1 then (if x1 ≤ (x0.size : Int) then (some (x7, x0.extract (x1 : Int).toNat x0.size, 0)) else (none)) else (none))
end
def interchangeref01_Take.f (k : Nat) (a0 : ByteArray) (a1 : Int) : Option (Int × ByteArray × Int) := if a1 = 1 then (interchangeref01_Take.j0 k a0 a1 false) else (if a1 = 2 then (interchangeref01_Take.j0 k a0 a1 false) else (if a1 = 4 then (interchangeref01_Take.j0 k a0 a1 false) else (interchangeref01_Take.j0 k a0 a1 (a1 != 8))))
theorem interchangeref01_Take.mono_l : ∀ k, (∀ y0 y1 y2, LeO (interchangeref01_Take.j0 k y0 y1 y2) (interchangeref01_Take.j0 (k + 1) y0 y1 y2)) ∧ (∀ y0 y1 y2 y3, LeO (interchangeref01_Take.l0 k y0 y1 y2 y3) (interchangeref01_Take.l0 (k + 1) y0 y1 y2 y3))
  | 0 => ⟨fun _ _ _ r h => by simp [interchangeref01_Take.j0] at h, fun _ _ _ _ r h => by simp [interchangeref01_Take.l0] at h⟩
  | k + 1 => by
    obtain ⟨ih0, ih1⟩ := interchangeref01_Take.mono_l k
    refine ⟨?_, ?_⟩
    · intro y0 y1 y2
      unfold interchangeref01_Take.j0
      repeat' first
      | (with_reducible exact ih0 _ _ _)
      | (with_reducible exact ih1 _ _ _ _)
      | (with_reducible exact LeO.refl _)
      | (with_reducible exact LeO.none _)
      | (with_reducible refine LeO.ite ?_ ?_)
      | (with_reducible refine LeO.bind ?_ (fun _ => ?_))
      | exact ih0 _ _ _
      | exact ih1 _ _ _ _
      | exact LeO.none _
      | refine LeO.ite ?_ ?_
      | refine LeO.bind ?_ (fun _ => ?_)
    · intro y0 y1 y2 y3
      unfold interchangeref01_Take.l0
      repeat' first
      | (with_reducible exact ih0 _ _ _)
      | (with_reducible exact ih1 _ _ _ _)
      | (with_reducible exact LeO.refl _)
      | (with_reducible exact LeO.none _)
      | (with_reducible refine LeO.ite ?_ ?_)
      | (with_reducible refine LeO.bind ?_ (fun _ => ?_))
      | exact ih0 _ _ _
      | exact ih1 _ _ _ _
      | exact LeO.none _
      | refine LeO.ite ?_ ?_
      | refine LeO.bind ?_ (fun _ => ?_)
theorem interchangeref01_Take.mono : ∀ a0 a1 k, LeO (interchangeref01_Take.f k a0 a1) (interchangeref01_Take.f (k + 1) a0 a1) := by
  intro a0 a1 k
  obtain ⟨ih0, ih1⟩ := interchangeref01_Take.mono_l k
  unfold interchangeref01_Take.f
  repeat' first
      | (with_reducible exact ih0 _ _ _)
      | (with_reducible exact ih1 _ _ _ _)
      | (with_reducible exact LeO.refl _)
      | (with_reducible exact LeO.none _)
      | (with_reducible refine LeO.ite ?_ ?_)
      | (with_reducible refine LeO.bind ?_ (fun _ => ?_))
      | exact ih0 _ _ _
      | exact ih1 _ _ _ _
      | exact LeO.none _
      | refine LeO.ite ?_ ?_
      | refine LeO.bind ?_ (fun _ => ?_)
set_option maxHeartbeats 8000000 in
set_option maxRecDepth 100000 in
theorem interchangeref01_Take.calls (k : Nat) (a0 : ByteArray) (a1 : Int) (r1 : Int) (r2 : ByteArray) (r3 : Int) (w : World) (h : interchangeref01_Take.f k a0 a1 = some (r1, r2, r3)) :
    Calls Tryd.prog 35 #[.string a0, .int .i64 a1] w fun e w' => e = .returned (.tuple #[.int .u64 r1, .string r2, .int .i64 r3]) ∧ Drawn0 w w' := by
  have H : (if a1 = 1 then (interchangeref01_Take.j0 k a0 a1 false) else (if a1 = 2 then (interchangeref01_Take.j0 k a0 a1 false) else (if a1 = 4 then (interchangeref01_Take.j0 k a0 a1 false) else (interchangeref01_Take.j0 k a0 a1 (a1 != 8))))) = some (r1, r2, r3) := h
  clear h
  have HC3 := Aside0.mk H
  clear H
  go_enter Tryd.func35, Tryd.ntmps35
  go_upto_region 1 with (fail)
  repeat (go_quiet (fail); go_upto_region 1 with (fail))
  go_cut [22] (fun v22 wc => ∃ (kq : Nat) (x22_2 : Bool), v22 = .bool x22_2 ∧ Aside0 (interchangeref01_Take.j0 kq a0 a1 x22_2 = some (r1, r2, r3)) ∧ Aside0 (kq ≤ k) ∧ Drawn0 w wc)
  case first =>
    have H := HC3.out
    clear HC3
    by_cases c4 : a1 = 1
    · rw [if_pos c4] at H
      have c4b0 : (a1 == 1) = true := beq_iff_eq.mpr c4
      have c4b1 : (a1 != 1) = false := bne_eq_false_iff_eq.mpr c4
      clear c4
      (first | rw [c4b0] | (simp only [i64_w, i32_w]; rw [c4b0]) | skip)
      have H' := Aside0.mk H
      clear H
      go_wp2
      repeat (go_quiet (fail); try go_wp2)
      go_meet
      case rel => exact ⟨_, (false), (by first | rfl | (simp; done) | (simp [*]; done)), H', ⟨by first | omega | exact Nat.le_refl _⟩, by repeat (first | exact Drawn0.refl _ | apply Drawn0.step)⟩
    · rw [if_neg c4] at H
      have c4b0 : (a1 == 1) = false := beq_eq_false_iff_ne.mpr c4
      have c4b1 : (a1 != 1) = true := bne_iff_ne.mpr c4
      (first | rw [c4b0] | (simp only [i64_w, i32_w]; rw [c4b0]) | skip)
      by_cases c5 : a1 = 2
      · rw [if_pos c5] at H
        have c5b0 : (a1 == 2) = true := beq_iff_eq.mpr c5
        have c5b1 : (a1 != 2) = false := bne_eq_false_iff_eq.mpr c5
        clear c5
        have H' := Aside0.mk H
        clear H
        go_wp2
        repeat (go_quiet (fail); try go_wp2)
        go_meet
        case rel => exact ⟨_, (false), (by first | rfl | (simp; done) | (simp [*]; done)), H', ⟨by first | omega | exact Nat.le_refl _⟩, by repeat (first | exact Drawn0.refl _ | apply Drawn0.step)⟩
      · rw [if_neg c5] at H
        have c5b0 : (a1 == 2) = false := beq_eq_false_iff_ne.mpr c5
        have c5b1 : (a1 != 2) = true := bne_iff_ne.mpr c5
        by_cases c6 : a1 = 4
        · rw [if_pos c6] at H
          have c6b0 : (a1 == 4) = true := beq_iff_eq.mpr c6
          have c6b1 : (a1 != 4) = false := bne_eq_false_iff_eq.mpr c6
          clear c6
          have H' := Aside0.mk H
          clear H
          go_wp2
          repeat (go_quiet (fail); try go_wp2)
          go_meet
          case rel => exact ⟨_, (false), (by first | rfl | (simp; done) | (simp [*]; done)), H', ⟨by first | omega | exact Nat.le_refl _⟩, by repeat (first | exact Drawn0.refl _ | apply Drawn0.step)⟩
        · rw [if_neg c6] at H
          have c6b0 : (a1 == 4) = false := beq_eq_false_iff_ne.mpr c6
          have c6b1 : (a1 != 4) = true := bne_iff_ne.mpr c6
          have H' := Aside0.mk H
          clear H
          go_wp2
          repeat (go_quiet (fail); try go_wp2)
          go_meet
          case rel => exact ⟨_, ((a1 != 8)), (by first | rfl | (simp; done) | (simp [*]; done)), H', ⟨by first | omega | exact Nat.le_refl _⟩, by repeat (first | exact Drawn0.refl _ | apply Drawn0.step)⟩
  case rest =>
    clear HC3
    try clear p2
    try clear c3
    try clear c4
    try clear c4b0
    try clear c4b1
    try clear c5
    try clear c5b0
    try clear c5b1
    try clear c6
    try clear c6b0
    try clear c6b1
    obtain ⟨kq, x22_2, rfl, HA, HJ2, ⟨mc2, rfl⟩⟩ := hcut
    cases kq with
    | zero => exact absurd HA.out (by simp [interchangeref01_Take.j0])
    | succ kj2 =>
      have H := HA.out
      clear HA
      simp only [interchangeref01_Take.j0] at H
      by_cases c7 : x22_2 = true
      · subst c7
        have H1 : (some (0, (⟨#[]⟩ : ByteArray), 1)) = some (r1, r2, r3) := by rw [if_pos rfl] at H; exact H
        clear H
        have H := H1
        clear H1
        simp only [Option.some.injEq, Prod.mk.injEq] at H
        obtain ⟨rfl, rfl, rfl⟩ := H
        go_wp2
        repeat (go_quiet (fail); try go_wp2)
        go_ret3
        exact ⟨by first | rfl | (simp; done) | (simp [*]; done), by repeat (first | exact Drawn0.refl _ | apply Drawn0.step)⟩
      · replace c7 := Bool.eq_false_iff.mpr c7
        subst c7
        have H1 : (if (a0.size : Int) < a1 then (some (0, (⟨#[]⟩ : ByteArray), 2)) else (interchangeref01_Take.l0 kj2 a0 a1 0 0)) = some (r1, r2, r3) := by rw [if_neg (show ¬ (false = true) by decide)] at H; exact H
        clear H
        have H := H1
        clear H1
        by_cases c8 : (a0.size : Int) < a1
        · rw [if_pos c8] at H
          have c8b0 : decide ((a0.size : Int) < a1) = true := decide_eq_true c8
          clear c8
          simp only [Option.some.injEq, Prod.mk.injEq] at H
          obtain ⟨rfl, rfl, rfl⟩ := H
          go_wp2
          repeat (go_quiet (fail); try go_wp2)
          go_ret3
          exact ⟨by first | rfl | (simp; done) | (simp [*]; done), by repeat (first | exact Drawn0.refl _ | apply Drawn0.step)⟩
        · rw [if_neg c8] at H
          have c8b0 : decide ((a0.size : Int) < a1) = false := decide_eq_false c8
          clear c8
          have H' := Aside0.mk H
          clear H
          go_wp2
          repeat (go_quiet (fail); try go_wp2)
          go_loopg [7, 8] kj2 (fun kq v7 v8 w' => ∃ (x7_2 : Int) (x8_2 : Int), v7 = .int .u64 x7_2 ∧ v8 = .int .i64 x8_2 ∧ Aside0 (interchangeref01_Take.l0 kq a0 a1 x7_2 x8_2 = some (r1, r2, r3)) ∧ Aside0 (kq ≤ kj2) ∧ Drawn0 w w')
          case atStart => exact ⟨(0), (0), (by first | rfl | (simp; done) | (simp [*]; done)), (by first | rfl | (simp; done) | (simp [*]; done)), H', ⟨Nat.le_refl _⟩, by repeat (first | exact Drawn0.refl _ | apply Drawn0.step)⟩
          case round =>
            clear H'
            try clear c2
            try clear p2
            try clear c3
            try clear c4
            try clear c4b0
            try clear c4b1
            try clear c5
            try clear c5b0
            try clear c5b1
            try clear c6
            try clear c6b0
            try clear c6b1
            try clear c7
            try clear c8
            try clear c8b0
            try clear p2
            obtain ⟨x7_2, x8_2, rfl, rfl, HA, HK2, ⟨m2, rfl⟩⟩ := hrel
            cases gk with
            | zero => exact absurd HA.out (by simp [interchangeref01_Take.l0])
            | succ k2 =>
              have H := HA.out
              clear HA
              simp only [interchangeref01_Take.l0] at H
              by_cases c9 : x8_2 < a1
              · rw [if_pos c9] at H
                have c9b0 : decide (x8_2 < a1) = true := decide_eq_true c9
                clear c9
                by_cases c10 : 0 ≤ x8_2
                · rw [if_pos c10] at H
                  have c10b0 : decide (0 ≤ x8_2) = true := decide_eq_true c10
                  clear c10
                  by_cases c11 : x8_2 < (a0.size : Int)
                  · rw [if_pos c11] at H
                    have c11b0 : decide (x8_2 < (a0.size : Int)) = true := decide_eq_true c11
                    clear c11
                    have H' := Aside0.mk H
                    clear H
                    have p12 : 0 ≤ (x8_2 : Int) := of_decide_eq_true (by first | (with_reducible assumption) | assumption)
                    have q12 : x8_2 < (a0.size : Int) := of_decide_eq_true (by first | (with_reducible assumption) | assumption)
                    have hx12 := bt_at a0 x8_2
                    replace p12 := eq_true p12
                    replace q12 := eq_true q12
                    go_wp2
                    repeat (go_quiet (fail); try go_wp2)
                    go_roundg k2
                    case measure => have := HJ2.out; have := HK2.out; omega
                    case rel => exact ⟨(IntKind.u64.wrap ((IntKind.u64.wrap (256 * x7_2)) + (IntKind.u64.wrap (bt a0 x8_2)))), (wrap64 (x8_2 + 1)), (by first | rfl | (simp; done) | (simp [*]; done)), (by first | rfl | (simp; done) | (simp [*]; done)), H', ⟨by have := HJ2.out; have := HK2.out; omega⟩, by repeat (first | exact Drawn0.refl _ | apply Drawn0.step)⟩
                  · rw [if_neg c11] at H
                    exact absurd H (by simp)
                · rw [if_neg c10] at H
                  exact absurd H (by simp)
              · rw [if_neg c9] at H
                have c9b0 : decide (x8_2 < a1) = false := decide_eq_false c9
                clear c9
                by_cases c13 : 0 ≤ a1
                · rw [if_pos c13] at H
                  have c13b0 := eq_true c13
                  have c13b1 : decide (0 ≤ a1) = true := decide_eq_true c13
                  clear c13
                  by_cases c14 : a1 ≤ (a0.size : Int)
                  · rw [if_pos c14] at H
                    have c14b0 := eq_true c14
                    have c14b1 : decide (a1 ≤ (a0.size : Int)) = true := decide_eq_true c14
                    clear c14
                    simp only [Option.some.injEq, Prod.mk.injEq] at H
                    obtain ⟨rfl, rfl, rfl⟩ := H
                    go_wp2
                    repeat (go_quiet (fail); try go_wp2)
                    go_ret3
                    exact ⟨by first | rfl | (simp; done) | (simp [*]; done), by repeat (first | exact Drawn0.refl _ | apply Drawn0.step)⟩
                  · rw [if_neg c14] at H
                    exact absurd H (by simp)
                · rw [if_neg c13] at H
                  exact absurd H (by simp)


end Go.Proofs.YtmpbhbbgnmkpgaaDoor.F
namespace Go.Proofs.YtmpbhbbgnmkpgaaDoor.F
open Go.RowKit Go.Proofs.YtmpbhbbgnmkpgaaDoorW.PrintWords Go.Proofs.YtmpbhbbgnmkpgaaDoorW.PrintLast Go.Proofs.YtmpbhbbgnmkpgaaDoorW.PrintMore
attribute [local go_sem] max2_int min2_int max_two min_two max_three min_three max_four min_four
set_option linter.unusedVariables false
set_option linter.unusedSimpArgs false

/-! ### interchangeref02_TakeLong: function 26 -/
def interchangeref02_TakeLong.f (k : Nat) (a0 : ByteArray) : Option (ByteArray × ByteArray × Int) := (interchangeref01_Take.f k a0 4).bind fun bt210 => (if bt210.2.2 = 0 then (if bt210.1 > (IntKind.u64.wrap ((bt210.2.1.size : Int))) then (some ((⟨#[]⟩ : ByteArray), (⟨#[]⟩ : ByteArray), 2)) else (if 0 ≤ bt210.1 then (if bt210.1 ≤ (bt210.2.1.size : Int) then (some (bt210.2.1.extract 0 (bt210.1 : Int).toNat, bt210.2.1.extract (bt210.1 : Int).toNat bt210.2.1.size, 0)) else (none)) else (none))) else (some ((⟨#[]⟩ : ByteArray), (⟨#[]⟩ : ByteArray), 2)))
theorem interchangeref02_TakeLong.mono : ∀ a0 k, LeO (interchangeref02_TakeLong.f k a0) (interchangeref02_TakeLong.f (k + 1) a0) := by
  intro a0 k
  unfold interchangeref02_TakeLong.f
  repeat' first
      | (with_reducible exact interchangeref01_Take.mono _ _ _)
      | (with_reducible exact LeO.refl _)
      | (with_reducible exact LeO.none _)
      | (with_reducible refine LeO.ite ?_ ?_)
      | (with_reducible refine LeO.bind ?_ (fun _ => ?_))
      | exact interchangeref01_Take.mono _ _ _
      | exact LeO.none _
      | refine LeO.ite ?_ ?_
      | refine LeO.bind ?_ (fun _ => ?_)
set_option maxHeartbeats 8000000 in
set_option maxRecDepth 100000 in
theorem interchangeref02_TakeLong.calls (k : Nat) (a0 : ByteArray) (r1 : ByteArray) (r2 : ByteArray) (r3 : Int) (w : World) (h : interchangeref02_TakeLong.f k a0 = some (r1, r2, r3)) :
    Calls Tryd.prog 26 #[.string a0] w fun e w' => e = .returned (.tuple #[.string r1, .string r2, .int .i64 r3]) ∧ Drawn0 w w' := by
  have H : ((interchangeref01_Take.f k a0 4).bind fun bt210 => (if bt210.2.2 = 0 then (if bt210.1 > (IntKind.u64.wrap ((bt210.2.1.size : Int))) then (some ((⟨#[]⟩ : ByteArray), (⟨#[]⟩ : ByteArray), 2)) else (if 0 ≤ bt210.1 then (if bt210.1 ≤ (bt210.2.1.size : Int) then (some (bt210.2.1.extract 0 (bt210.1 : Int).toNat, bt210.2.1.extract (bt210.1 : Int).toNat bt210.2.1.size, 0)) else (none)) else (none))) else (some ((⟨#[]⟩ : ByteArray), (⟨#[]⟩ : ByteArray), 2)))) = some (r1, r2, r3) := h
  clear h
  replace H := Option.bind_eq_some_iff.mp H
  obtain ⟨⟨t210, t211, t212⟩, A20, H⟩ := H
  replace H : (if t212 = 0 then (if t210 > (IntKind.u64.wrap ((t211.size : Int))) then (some ((⟨#[]⟩ : ByteArray), (⟨#[]⟩ : ByteArray), 2)) else (if 0 ≤ t210 then (if t210 ≤ (t211.size : Int) then (some (t211.extract 0 (t210 : Int).toNat, t211.extract (t210 : Int).toNat t211.size, 0)) else (none)) else (none))) else (some ((⟨#[]⟩ : ByteArray), (⟨#[]⟩ : ByteArray), 2))) = some (r1, r2, r3) := H
  have A2 := Aside0.mk A20
  clear A20
  by_cases c3 : t212 = 0
  · rw [if_pos c3] at H
    have c3b0 : (t212 == 0) = true := beq_iff_eq.mpr c3
    have c3b1 : (t212 != 0) = false := bne_eq_false_iff_eq.mpr c3
    clear c3
    by_cases c4 : t210 > (IntKind.u64.wrap ((t211.size : Int)))
    · rw [if_pos c4] at H
      have c4b0 : decide ((IntKind.u64.wrap ((t211.size : Int))) < t210) = true := decide_eq_true c4
      clear c4
      simp only [Option.some.injEq, Prod.mk.injEq] at H
      obtain ⟨rfl, rfl, rfl⟩ := H
      go_enter Tryd.func26, Tryd.ntmps26
      go_wp2_with (first | (go_at_call 35; (with_reducible refine (interchangeref01_Take.calls k a0 4 t210 t211 t212 _ A2.out).mono ?_); rintro e w' ⟨rfl, ⟨nd, rfl⟩⟩; (try first | exact ⟨rfl, _, World.drewN_drewN _ _ _⟩ | exact ⟨rfl, _, Eq.trans (World.drewN_drewN _ _ _) (congrArg (World.drewN _) (Nat.add_assoc _ _ _))⟩)))
      repeat (go_quiet (first | (go_at_call 35; (with_reducible refine (interchangeref01_Take.calls k a0 4 t210 t211 t212 _ A2.out).mono ?_); rintro e w' ⟨rfl, ⟨nd, rfl⟩⟩; (try first | exact ⟨rfl, _, World.drewN_drewN _ _ _⟩ | exact ⟨rfl, _, Eq.trans (World.drewN_drewN _ _ _) (congrArg (World.drewN _) (Nat.add_assoc _ _ _))⟩))); try go_wp2_with (first | (go_at_call 35; (with_reducible refine (interchangeref01_Take.calls k a0 4 t210 t211 t212 _ A2.out).mono ?_); rintro e w' ⟨rfl, ⟨nd, rfl⟩⟩; (try first | exact ⟨rfl, _, World.drewN_drewN _ _ _⟩ | exact ⟨rfl, _, Eq.trans (World.drewN_drewN _ _ _) (congrArg (World.drewN _) (Nat.add_assoc _ _ _))⟩))))
      go_ret3
      exact ⟨by first | rfl | (simp; done) | (simp [*]; done), by repeat (first | exact Drawn0.refl _ | apply Drawn0.step)⟩
    · rw [if_neg c4] at H
      have c4b0 : decide ((IntKind.u64.wrap ((t211.size : Int))) < t210) = false := decide_eq_false c4
      clear c4
      by_cases c5 : 0 ≤ t210
      · rw [if_pos c5] at H
        have c5b0 := eq_true c5
        have c5b1 : decide (0 ≤ t210) = true := decide_eq_true c5
        clear c5
        by_cases c6 : t210 ≤ (t211.size : Int)
        · rw [if_pos c6] at H
          have c6b0 := eq_true c6
          have c6b1 : decide (t210 ≤ (t211.size : Int)) = true := decide_eq_true c6
          clear c6
          have c7b0 := eq_true (of_decide_eq_true (by first | (with_reducible assumption) | assumption) : 0 ≤ t210)
          have c8b0 := eq_true (of_decide_eq_true (by first | (with_reducible assumption) | assumption) : t210 ≤ (t211.size : Int))
          simp only [Option.some.injEq, Prod.mk.injEq] at H
          obtain ⟨rfl, rfl, rfl⟩ := H
          go_enter Tryd.func26, Tryd.ntmps26
          go_wp2_with (first | (go_at_call 35; (with_reducible refine (interchangeref01_Take.calls k a0 4 t210 t211 t212 _ A2.out).mono ?_); rintro e w' ⟨rfl, ⟨nd, rfl⟩⟩; (try first | exact ⟨rfl, _, World.drewN_drewN _ _ _⟩ | exact ⟨rfl, _, Eq.trans (World.drewN_drewN _ _ _) (congrArg (World.drewN _) (Nat.add_assoc _ _ _))⟩)))
          repeat (go_quiet (first | (go_at_call 35; (with_reducible refine (interchangeref01_Take.calls k a0 4 t210 t211 t212 _ A2.out).mono ?_); rintro e w' ⟨rfl, ⟨nd, rfl⟩⟩; (try first | exact ⟨rfl, _, World.drewN_drewN _ _ _⟩ | exact ⟨rfl, _, Eq.trans (World.drewN_drewN _ _ _) (congrArg (World.drewN _) (Nat.add_assoc _ _ _))⟩))); try go_wp2_with (first | (go_at_call 35; (with_reducible refine (interchangeref01_Take.calls k a0 4 t210 t211 t212 _ A2.out).mono ?_); rintro e w' ⟨rfl, ⟨nd, rfl⟩⟩; (try first | exact ⟨rfl, _, World.drewN_drewN _ _ _⟩ | exact ⟨rfl, _, Eq.trans (World.drewN_drewN _ _ _) (congrArg (World.drewN _) (Nat.add_assoc _ _ _))⟩))))
          go_ret3
          exact ⟨by first | rfl | (simp; done) | (simp [*]; done), by repeat (first | exact Drawn0.refl _ | apply Drawn0.step)⟩
        · rw [if_neg c6] at H
          exact absurd H (by simp)
      · rw [if_neg c5] at H
        exact absurd H (by simp)
  · rw [if_neg c3] at H
    have c3b0 : (t212 == 0) = false := beq_eq_false_iff_ne.mpr c3
    have c3b1 : (t212 != 0) = true := bne_iff_ne.mpr c3
    simp only [Option.some.injEq, Prod.mk.injEq] at H
    obtain ⟨rfl, rfl, rfl⟩ := H
    go_enter Tryd.func26, Tryd.ntmps26
    go_wp2_with (first | (go_at_call 35; (with_reducible refine (interchangeref01_Take.calls k a0 4 t210 t211 t212 _ A2.out).mono ?_); rintro e w' ⟨rfl, ⟨nd, rfl⟩⟩; (try first | exact ⟨rfl, _, World.drewN_drewN _ _ _⟩ | exact ⟨rfl, _, Eq.trans (World.drewN_drewN _ _ _) (congrArg (World.drewN _) (Nat.add_assoc _ _ _))⟩)))
    repeat (go_quiet (first | (go_at_call 35; (with_reducible refine (interchangeref01_Take.calls k a0 4 t210 t211 t212 _ A2.out).mono ?_); rintro e w' ⟨rfl, ⟨nd, rfl⟩⟩; (try first | exact ⟨rfl, _, World.drewN_drewN _ _ _⟩ | exact ⟨rfl, _, Eq.trans (World.drewN_drewN _ _ _) (congrArg (World.drewN _) (Nat.add_assoc _ _ _))⟩))); try go_wp2_with (first | (go_at_call 35; (with_reducible refine (interchangeref01_Take.calls k a0 4 t210 t211 t212 _ A2.out).mono ?_); rintro e w' ⟨rfl, ⟨nd, rfl⟩⟩; (try first | exact ⟨rfl, _, World.drewN_drewN _ _ _⟩ | exact ⟨rfl, _, Eq.trans (World.drewN_drewN _ _ _) (congrArg (World.drewN _) (Nat.add_assoc _ _ _))⟩))))
    go_ret3
    exact ⟨by first | rfl | (simp; done) | (simp [*]; done), by repeat (first | exact Drawn0.refl _ | apply Drawn0.step)⟩


end Go.Proofs.YtmpbhbbgnmkpgaaDoor.F
namespace Go.Proofs.YtmpbhbbgnmkpgaaDoor.F
open Go.RowKit Go.Proofs.YtmpbhbbgnmkpgaaDoorW.PrintWords Go.Proofs.YtmpbhbbgnmkpgaaDoorW.PrintLast Go.Proofs.YtmpbhbbgnmkpgaaDoorW.PrintMore
attribute [local go_sem] max2_int min2_int max_two min_two max_three min_three max_four min_four
set_option linter.unusedVariables false
set_option linter.unusedSimpArgs false

/-! ### interchangeref02_TakeShort: function 25 -/
def interchangeref02_TakeShort.f (a0 : ByteArray) : Option (ByteArray × ByteArray × Int) := if (a0.size : Int) < 1 then (some ((⟨#[]⟩ : ByteArray), (⟨#[]⟩ : ByteArray), 2)) else (if 0 < (a0.size : Int) then (if (a0.size : Int) < (wrap64 (1 + (wrap64 (bt a0 0)))) then (some ((⟨#[]⟩ : ByteArray), (⟨#[]⟩ : ByteArray), 2)) else (if 1 ≤ (wrap64 (1 + (wrap64 (bt a0 0)))) then (if (wrap64 (1 + (wrap64 (bt a0 0)))) ≤ (a0.size : Int) then (if 0 ≤ (wrap64 (1 + (wrap64 (bt a0 0)))) then (some (a0.extract 1 ((wrap64 (1 + (wrap64 (bt a0 0)))) : Int).toNat, a0.extract ((wrap64 (1 + (wrap64 (bt a0 0)))) : Int).toNat a0.size, 0)) else (none)) else (none)) else (none))) else (none))
set_option maxHeartbeats 8000000 in
set_option maxRecDepth 100000 in
theorem interchangeref02_TakeShort.calls (a0 : ByteArray) (r1 : ByteArray) (r2 : ByteArray) (r3 : Int) (w : World) (h : interchangeref02_TakeShort.f a0 = some (r1, r2, r3)) :
    Calls Tryd.prog 25 #[.string a0] w fun e w' => e = .returned (.tuple #[.string r1, .string r2, .int .i64 r3]) ∧ Drawn0 w w' := by
  have H : (if (a0.size : Int) < 1 then (some ((⟨#[]⟩ : ByteArray), (⟨#[]⟩ : ByteArray), 2)) else (if 0 < (a0.size : Int) then (if (a0.size : Int) < (wrap64 (1 + (wrap64 (bt a0 0)))) then (some ((⟨#[]⟩ : ByteArray), (⟨#[]⟩ : ByteArray), 2)) else (if 1 ≤ (wrap64 (1 + (wrap64 (bt a0 0)))) then (if (wrap64 (1 + (wrap64 (bt a0 0)))) ≤ (a0.size : Int) then (if 0 ≤ (wrap64 (1 + (wrap64 (bt a0 0)))) then (some (a0.extract 1 ((wrap64 (1 + (wrap64 (bt a0 0)))) : Int).toNat, a0.extract ((wrap64 (1 + (wrap64 (bt a0 0)))) : Int).toNat a0.size, 0)) else (none)) else (none)) else (none))) else (none))) = some (r1, r2, r3) := h
  clear h
  by_cases c2 : (a0.size : Int) < 1
  · rw [if_pos c2] at H
    have c2b0 : decide ((a0.size : Int) < 1) = true := decide_eq_true c2
    have c2b1 : decide (a0.size < 1) = true := decide_eq_true (by omega)
    clear c2
    simp only [Option.some.injEq, Prod.mk.injEq] at H
    obtain ⟨rfl, rfl, rfl⟩ := H
    go_enter Tryd.func25, Tryd.ntmps25
    go_wp2
    repeat (go_quiet (fail); try go_wp2)
    go_ret3
    exact ⟨by first | rfl | (simp; done) | (simp [*]; done), by repeat (first | exact Drawn0.refl _ | apply Drawn0.step)⟩
  · rw [if_neg c2] at H
    have c2b0 : decide ((a0.size : Int) < 1) = false := decide_eq_false c2
    have c2b1 : decide (a0.size < 1) = false := decide_eq_false (by omega)
    clear c2
    by_cases c3 : 0 < (a0.size : Int)
    · rw [if_pos c3] at H
      have c3b0 : decide (0 < (a0.size : Int)) = true := decide_eq_true c3
      have c3b1 : decide (0 < a0.size) = true := decide_eq_true (by omega)
      clear c3
      by_cases c5 : (a0.size : Int) < (wrap64 (1 + (wrap64 (bt a0 0))))
      · rw [if_pos c5] at H
        have c5b0 : decide ((a0.size : Int) < (wrap64 (1 + (wrap64 (bt a0 0))))) = true := decide_eq_true c5
        clear c5
        simp only [Option.some.injEq, Prod.mk.injEq] at H
        obtain ⟨rfl, rfl, rfl⟩ := H
        have p4 : 0 ≤ (0 : Int) := (by omega)
        have q4 : 0 < a0.size := (by have : (0 : Int) < (a0.size : Int) := of_decide_eq_true (by first | (with_reducible assumption) | assumption); omega)
        have hx4 : ∀ h : 0 < a0.size, ((a0[0]'h).toNat : Int) = bt a0 0 := bt_at a0 0
        clear p4
        have qi4 : (0 < (a0.size : Int)) = True := eq_true (of_decide_eq_true (by first | (with_reducible assumption) | assumption))
        replace q4 := eq_true q4
        go_enter Tryd.func25, Tryd.ntmps25
        go_wp2
        repeat (go_quiet (fail); try go_wp2)
        go_ret3
        exact ⟨by first | rfl | (simp; done) | (simp [*]; done), by repeat (first | exact Drawn0.refl _ | apply Drawn0.step)⟩
      · rw [if_neg c5] at H
        have c5b0 : decide ((a0.size : Int) < (wrap64 (1 + (wrap64 (bt a0 0))))) = false := decide_eq_false c5
        clear c5
        by_cases c7 : 1 ≤ (wrap64 (1 + (wrap64 (bt a0 0))))
        · rw [if_pos c7] at H
          have c7b0 := eq_true c7
          have c7b1 : decide (1 ≤ (wrap64 (1 + (wrap64 (bt a0 0))))) = true := decide_eq_true c7
          by_cases c8 : (wrap64 (1 + (wrap64 (bt a0 0)))) ≤ (a0.size : Int)
          · rw [if_pos c8] at H
            have c8b0 := eq_true c8
            have c8b1 : decide ((wrap64 (1 + (wrap64 (bt a0 0)))) ≤ (a0.size : Int)) = true := decide_eq_true c8
            obtain ⟨ji9, hji9⟩ : ∃ j_ : Int, (wrap64 (1 + (wrap64 (bt a0 0)))) = j_ := ⟨_, rfl⟩
            replace H : (if 0 ≤ (ji9) then (some (a0.extract 1 ((ji9) : Int).toNat, a0.extract ((ji9) : Int).toNat a0.size, 0)) else (none)) = some (r1, r2, r3) := by first | (rw [hji9] at H; exact H) | (simp only [hji9] at H ⊢; exact H)
            (try rw [hji9] at c5b0)
            (try rw [hji9] at c7b0)
            (try rw [hji9] at c7b1)
            (try rw [hji9] at c7)
            (try rw [hji9] at c8b0)
            (try rw [hji9] at c8b1)
            (try rw [hji9] at c8)
            have hji9w : (IntKind.i64.wrap (1 + (wrap64 (bt a0 0)))) = ji9 := (i64_w _).trans hji9
            by_cases c10 : 0 ≤ (ji9)
            · rw [if_pos c10] at H
              have c10b0 := eq_true c10
              have c10b1 : decide (0 ≤ (ji9)) = true := decide_eq_true c10
              clear c10
              have c11b0 := eq_true (of_decide_eq_true (by first | (with_reducible assumption) | assumption) : (ji9) ≤ (a0.size : Int))
              simp only [Option.some.injEq, Prod.mk.injEq] at H
              obtain ⟨rfl, rfl, rfl⟩ := H
              have p4 : 0 ≤ (0 : Int) := (by omega)
              have q4 : 0 < a0.size := (by have : (0 : Int) < (a0.size : Int) := of_decide_eq_true (by first | (with_reducible assumption) | assumption); omega)
              have hx4 : ∀ h : 0 < a0.size, ((a0[0]'h).toNat : Int) = bt a0 0 := bt_at a0 0
              clear p4
              have qi4 : (0 < (a0.size : Int)) = True := eq_true (of_decide_eq_true (by first | (with_reducible assumption) | assumption))
              replace q4 := eq_true q4
              have p6 : 0 ≤ (0 : Int) := (by omega)
              have q6 : 0 < a0.size := (by have : (0 : Int) < (a0.size : Int) := of_decide_eq_true (by first | (with_reducible assumption) | assumption); omega)
              have hx6 : ∀ h : 0 < a0.size, ((a0[0]'h).toNat : Int) = bt a0 0 := bt_at a0 0
              clear p6
              have qi6 : (0 < (a0.size : Int)) = True := eq_true (of_decide_eq_true (by first | (with_reducible assumption) | assumption))
              replace q6 := eq_true q6
              go_enter Tryd.func25, Tryd.ntmps25
              go_wp2
              repeat (go_quiet (fail); try go_wp2)
              go_ret3
              exact ⟨by first | rfl | (simp; done) | (simp only [← hji9] <;> (first | rfl | simp)) | (simp [*]; done), by repeat (first | exact Drawn0.refl _ | apply Drawn0.step)⟩
            · rw [if_neg c10] at H
              exact absurd H (by simp)
          · rw [if_neg c8] at H
            exact absurd H (by simp)
        · rw [if_neg c7] at H
          exact absurd H (by simp)
    · rw [if_neg c3] at H
      exact absurd H (by simp)


end Go.Proofs.YtmpbhbbgnmkpgaaDoor.F
namespace Go.Proofs.YtmpbhbbgnmkpgaaDoor.F
open Go.RowKit Go.Proofs.YtmpbhbbgnmkpgaaDoorW.PrintWords Go.Proofs.YtmpbhbbgnmkpgaaDoorW.PrintLast Go.Proofs.YtmpbhbbgnmkpgaaDoorW.PrintMore
attribute [local go_sem] max2_int min2_int max_two min_two max_three min_three max_four min_four
set_option linter.unusedVariables false
set_option linter.unusedSimpArgs false

/-! ### interchangelaw02_TextLays: function 8 -/
def interchangelaw02_TextLays.f (k : Nat) (a0 : ByteArray) : Option (Bool) := (interchangelaw02_shown.f k).bind fun t213 => ((text_Short.f k a0).bind fun bt214 => ((interchangeref02_Short.f a0).bind fun bt216 => ((text_Long.f k a0).bind fun bt218 => ((interchangeref02_Long.f k a0).bind fun bt220 => ((text_TakeShort.f k a0).bind fun bt222 => ((interchangeref02_TakeShort.f a0).bind fun bt225 => ((text_TakeLong.f k a0).bind fun bt228 => ((interchangeref02_TakeLong.f k a0).bind fun bt231 => (if t213 = true then (if bt214.1.toList = bt216.1.toList then (if bt214.2 = bt216.2 then (if bt218.1.toList = bt220.1.toList then (if bt218.2 = bt220.2 then (if bt222.1.toList = bt225.1.toList then (if bt222.2.1.toList = bt225.2.1.toList then (if bt222.2.2 = bt225.2.2 then (if bt228.1.toList = bt231.1.toList then (if bt228.2.1.toList = bt231.2.1.toList then (some (bt228.2.2 == bt231.2.2)) else (some false)) else (some false)) else (some false)) else (some false)) else (some false)) else (some false)) else (some false)) else (some false)) else (some false)) else (some false))))))))))
theorem interchangelaw02_TextLays.mono : ∀ a0 k, LeO (interchangelaw02_TextLays.f k a0) (interchangelaw02_TextLays.f (k + 1) a0) := by
  intro a0 k
  unfold interchangelaw02_TextLays.f
  repeat' first
      | (with_reducible exact interchangelaw02_shown.mono _)
      | (with_reducible exact interchangeref02_Long.mono _ _)
      | (with_reducible exact interchangeref02_TakeLong.mono _ _)
      | (with_reducible exact text_Long.mono _ _)
      | (with_reducible exact text_Short.mono _ _)
      | (with_reducible exact text_TakeLong.mono _ _)
      | (with_reducible exact text_TakeShort.mono _ _)
      | (with_reducible exact LeO.refl _)
      | (with_reducible exact LeO.none _)
      | (with_reducible refine LeO.ite ?_ ?_)
      | (with_reducible refine LeO.bind ?_ (fun _ => ?_))
      | exact interchangelaw02_shown.mono _
      | exact interchangeref02_Long.mono _ _
      | exact interchangeref02_TakeLong.mono _ _
      | exact text_Long.mono _ _
      | exact text_Short.mono _ _
      | exact text_TakeLong.mono _ _
      | exact text_TakeShort.mono _ _
      | exact LeO.none _
      | refine LeO.ite ?_ ?_
      | refine LeO.bind ?_ (fun _ => ?_)
set_option maxHeartbeats 8000000 in
set_option maxRecDepth 100000 in
theorem interchangelaw02_TextLays.calls (k : Nat) (a0 : ByteArray) (w : World) (hg : Laid w) (h : interchangelaw02_TextLays.f k a0 = some true) :
    Calls Tryd.prog 8 #[.string a0] w fun e w' => e = .returned (.bool true) ∧ Below w.heap.size w w' := by
  have HG := Aside0.mk hg
  clear hg
  have HB := Aside0.mk (Below.refl w.heap.size w)
  have H : ((interchangelaw02_shown.f k).bind fun t213 => ((text_Short.f k a0).bind fun bt214 => ((interchangeref02_Short.f a0).bind fun bt216 => ((text_Long.f k a0).bind fun bt218 => ((interchangeref02_Long.f k a0).bind fun bt220 => ((text_TakeShort.f k a0).bind fun bt222 => ((interchangeref02_TakeShort.f a0).bind fun bt225 => ((text_TakeLong.f k a0).bind fun bt228 => ((interchangeref02_TakeLong.f k a0).bind fun bt231 => (if t213 = true then (if bt214.1.toList = bt216.1.toList then (if bt214.2 = bt216.2 then (if bt218.1.toList = bt220.1.toList then (if bt218.2 = bt220.2 then (if bt222.1.toList = bt225.1.toList then (if bt222.2.1.toList = bt225.2.1.toList then (if bt222.2.2 = bt225.2.2 then (if bt228.1.toList = bt231.1.toList then (if bt228.2.1.toList = bt231.2.1.toList then (some (bt228.2.2 == bt231.2.2)) else (some false)) else (some false)) else (some false)) else (some false)) else (some false)) else (some false)) else (some false)) else (some false)) else (some false)) else (some false))))))))))) = some true := h
  clear h
  replace H := Option.bind_eq_some_iff.mp H
  obtain ⟨t213, A20, H⟩ := H
  replace H : ((text_Short.f k a0).bind fun bt214 => ((interchangeref02_Short.f a0).bind fun bt216 => ((text_Long.f k a0).bind fun bt218 => ((interchangeref02_Long.f k a0).bind fun bt220 => ((text_TakeShort.f k a0).bind fun bt222 => ((interchangeref02_TakeShort.f a0).bind fun bt225 => ((text_TakeLong.f k a0).bind fun bt228 => ((interchangeref02_TakeLong.f k a0).bind fun bt231 => (if t213 = true then (if bt214.1.toList = bt216.1.toList then (if bt214.2 = bt216.2 then (if bt218.1.toList = bt220.1.toList then (if bt218.2 = bt220.2 then (if bt222.1.toList = bt225.1.toList then (if bt222.2.1.toList = bt225.2.1.toList then (if bt222.2.2 = bt225.2.2 then (if bt228.1.toList = bt231.1.toList then (if bt228.2.1.toList = bt231.2.1.toList then (some (bt228.2.2 == bt231.2.2)) else (some false)) else (some false)) else (some false)) else (some false)) else (some false)) else (some false)) else (some false)) else (some false)) else (some false)) else (some false)))))))))) = some true := H
  have A2 := Aside0.mk A20
  clear A20
  replace H := Option.bind_eq_some_iff.mp H
  obtain ⟨⟨t214, t215⟩, A30, H⟩ := H
  replace H : ((interchangeref02_Short.f a0).bind fun bt216 => ((text_Long.f k a0).bind fun bt218 => ((interchangeref02_Long.f k a0).bind fun bt220 => ((text_TakeShort.f k a0).bind fun bt222 => ((interchangeref02_TakeShort.f a0).bind fun bt225 => ((text_TakeLong.f k a0).bind fun bt228 => ((interchangeref02_TakeLong.f k a0).bind fun bt231 => (if t213 = true then (if t214.toList = bt216.1.toList then (if t215 = bt216.2 then (if bt218.1.toList = bt220.1.toList then (if bt218.2 = bt220.2 then (if bt222.1.toList = bt225.1.toList then (if bt222.2.1.toList = bt225.2.1.toList then (if bt222.2.2 = bt225.2.2 then (if bt228.1.toList = bt231.1.toList then (if bt228.2.1.toList = bt231.2.1.toList then (some (bt228.2.2 == bt231.2.2)) else (some false)) else (some false)) else (some false)) else (some false)) else (some false)) else (some false)) else (some false)) else (some false)) else (some false)) else (some false))))))))) = some true := H
  have A3 := Aside0.mk A30
  clear A30
  replace H := Option.bind_eq_some_iff.mp H
  obtain ⟨⟨t216, t217⟩, A40, H⟩ := H
  replace H : ((text_Long.f k a0).bind fun bt218 => ((interchangeref02_Long.f k a0).bind fun bt220 => ((text_TakeShort.f k a0).bind fun bt222 => ((interchangeref02_TakeShort.f a0).bind fun bt225 => ((text_TakeLong.f k a0).bind fun bt228 => ((interchangeref02_TakeLong.f k a0).bind fun bt231 => (if t213 = true then (if t214.toList = t216.toList then (if t215 = t217 then (if bt218.1.toList = bt220.1.toList then (if bt218.2 = bt220.2 then (if bt222.1.toList = bt225.1.toList then (if bt222.2.1.toList = bt225.2.1.toList then (if bt222.2.2 = bt225.2.2 then (if bt228.1.toList = bt231.1.toList then (if bt228.2.1.toList = bt231.2.1.toList then (some (bt228.2.2 == bt231.2.2)) else (some false)) else (some false)) else (some false)) else (some false)) else (some false)) else (some false)) else (some false)) else (some false)) else (some false)) else (some false)))))))) = some true := H
  have A4 := Aside0.mk A40
  clear A40
  replace H := Option.bind_eq_some_iff.mp H
  obtain ⟨⟨t218, t219⟩, A50, H⟩ := H
  replace H : ((interchangeref02_Long.f k a0).bind fun bt220 => ((text_TakeShort.f k a0).bind fun bt222 => ((interchangeref02_TakeShort.f a0).bind fun bt225 => ((text_TakeLong.f k a0).bind fun bt228 => ((interchangeref02_TakeLong.f k a0).bind fun bt231 => (if t213 = true then (if t214.toList = t216.toList then (if t215 = t217 then (if t218.toList = bt220.1.toList then (if t219 = bt220.2 then (if bt222.1.toList = bt225.1.toList then (if bt222.2.1.toList = bt225.2.1.toList then (if bt222.2.2 = bt225.2.2 then (if bt228.1.toList = bt231.1.toList then (if bt228.2.1.toList = bt231.2.1.toList then (some (bt228.2.2 == bt231.2.2)) else (some false)) else (some false)) else (some false)) else (some false)) else (some false)) else (some false)) else (some false)) else (some false)) else (some false)) else (some false))))))) = some true := H
  have A5 := Aside0.mk A50
  clear A50
  replace H := Option.bind_eq_some_iff.mp H
  obtain ⟨⟨t220, t221⟩, A60, H⟩ := H
  replace H : ((text_TakeShort.f k a0).bind fun bt222 => ((interchangeref02_TakeShort.f a0).bind fun bt225 => ((text_TakeLong.f k a0).bind fun bt228 => ((interchangeref02_TakeLong.f k a0).bind fun bt231 => (if t213 = true then (if t214.toList = t216.toList then (if t215 = t217 then (if t218.toList = t220.toList then (if t219 = t221 then (if bt222.1.toList = bt225.1.toList then (if bt222.2.1.toList = bt225.2.1.toList then (if bt222.2.2 = bt225.2.2 then (if bt228.1.toList = bt231.1.toList then (if bt228.2.1.toList = bt231.2.1.toList then (some (bt228.2.2 == bt231.2.2)) else (some false)) else (some false)) else (some false)) else (some false)) else (some false)) else (some false)) else (some false)) else (some false)) else (some false)) else (some false)))))) = some true := H
  have A6 := Aside0.mk A60
  clear A60
  replace H := Option.bind_eq_some_iff.mp H
  obtain ⟨⟨t222, t223, t224⟩, A70, H⟩ := H
  replace H : ((interchangeref02_TakeShort.f a0).bind fun bt225 => ((text_TakeLong.f k a0).bind fun bt228 => ((interchangeref02_TakeLong.f k a0).bind fun bt231 => (if t213 = true then (if t214.toList = t216.toList then (if t215 = t217 then (if t218.toList = t220.toList then (if t219 = t221 then (if t222.toList = bt225.1.toList then (if t223.toList = bt225.2.1.toList then (if t224 = bt225.2.2 then (if bt228.1.toList = bt231.1.toList then (if bt228.2.1.toList = bt231.2.1.toList then (some (bt228.2.2 == bt231.2.2)) else (some false)) else (some false)) else (some false)) else (some false)) else (some false)) else (some false)) else (some false)) else (some false)) else (some false)) else (some false))))) = some true := H
  have A7 := Aside0.mk A70
  clear A70
  replace H := Option.bind_eq_some_iff.mp H
  obtain ⟨⟨t225, t226, t227⟩, A80, H⟩ := H
  replace H : ((text_TakeLong.f k a0).bind fun bt228 => ((interchangeref02_TakeLong.f k a0).bind fun bt231 => (if t213 = true then (if t214.toList = t216.toList then (if t215 = t217 then (if t218.toList = t220.toList then (if t219 = t221 then (if t222.toList = t225.toList then (if t223.toList = t226.toList then (if t224 = t227 then (if bt228.1.toList = bt231.1.toList then (if bt228.2.1.toList = bt231.2.1.toList then (some (bt228.2.2 == bt231.2.2)) else (some false)) else (some false)) else (some false)) else (some false)) else (some false)) else (some false)) else (some false)) else (some false)) else (some false)) else (some false)))) = some true := H
  have A8 := Aside0.mk A80
  clear A80
  replace H := Option.bind_eq_some_iff.mp H
  obtain ⟨⟨t228, t229, t230⟩, A90, H⟩ := H
  replace H : ((interchangeref02_TakeLong.f k a0).bind fun bt231 => (if t213 = true then (if t214.toList = t216.toList then (if t215 = t217 then (if t218.toList = t220.toList then (if t219 = t221 then (if t222.toList = t225.toList then (if t223.toList = t226.toList then (if t224 = t227 then (if t228.toList = bt231.1.toList then (if t229.toList = bt231.2.1.toList then (some (t230 == bt231.2.2)) else (some false)) else (some false)) else (some false)) else (some false)) else (some false)) else (some false)) else (some false)) else (some false)) else (some false)) else (some false))) = some true := H
  have A9 := Aside0.mk A90
  clear A90
  replace H := Option.bind_eq_some_iff.mp H
  obtain ⟨⟨t231, t232, t233⟩, A100, H⟩ := H
  replace H : (if t213 = true then (if t214.toList = t216.toList then (if t215 = t217 then (if t218.toList = t220.toList then (if t219 = t221 then (if t222.toList = t225.toList then (if t223.toList = t226.toList then (if t224 = t227 then (if t228.toList = t231.toList then (if t229.toList = t232.toList then (some (t230 == t233)) else (some false)) else (some false)) else (some false)) else (some false)) else (some false)) else (some false)) else (some false)) else (some false)) else (some false)) else (some false)) = some true := H
  have A10 := Aside0.mk A100
  clear A100
  by_cases c11 : t213 = true
  · subst c11
    have H1 : (if t214.toList = t216.toList then (if t215 = t217 then (if t218.toList = t220.toList then (if t219 = t221 then (if t222.toList = t225.toList then (if t223.toList = t226.toList then (if t224 = t227 then (if t228.toList = t231.toList then (if t229.toList = t232.toList then (some (t230 == t233)) else (some false)) else (some false)) else (some false)) else (some false)) else (some false)) else (some false)) else (some false)) else (some false)) else (some false)) = some true := by rw [if_pos rfl] at H; exact H
    clear H
    have H := H1
    clear H1
    by_cases c12 : t214.toList = t216.toList
    · rw [if_pos c12] at H
      have c12b0 : (t214.toList == t216.toList) = true := beq_iff_eq.mpr c12
      have c12b1 : (t214.toList != t216.toList) = false := bne_eq_false_iff_eq.mpr c12
      clear c12
      by_cases c13 : t215 = t217
      · rw [if_pos c13] at H
        have c13b0 : (t215 == t217) = true := beq_iff_eq.mpr c13
        have c13b1 : (t215 != t217) = false := bne_eq_false_iff_eq.mpr c13
        clear c13
        by_cases c14 : t218.toList = t220.toList
        · rw [if_pos c14] at H
          have c14b0 : (t218.toList == t220.toList) = true := beq_iff_eq.mpr c14
          have c14b1 : (t218.toList != t220.toList) = false := bne_eq_false_iff_eq.mpr c14
          clear c14
          by_cases c15 : t219 = t221
          · rw [if_pos c15] at H
            have c15b0 : (t219 == t221) = true := beq_iff_eq.mpr c15
            have c15b1 : (t219 != t221) = false := bne_eq_false_iff_eq.mpr c15
            clear c15
            by_cases c16 : t222.toList = t225.toList
            · rw [if_pos c16] at H
              have c16b0 : (t222.toList == t225.toList) = true := beq_iff_eq.mpr c16
              have c16b1 : (t222.toList != t225.toList) = false := bne_eq_false_iff_eq.mpr c16
              clear c16
              by_cases c17 : t223.toList = t226.toList
              · rw [if_pos c17] at H
                have c17b0 : (t223.toList == t226.toList) = true := beq_iff_eq.mpr c17
                have c17b1 : (t223.toList != t226.toList) = false := bne_eq_false_iff_eq.mpr c17
                clear c17
                by_cases c18 : t224 = t227
                · rw [if_pos c18] at H
                  have c18b0 : (t224 == t227) = true := beq_iff_eq.mpr c18
                  have c18b1 : (t224 != t227) = false := bne_eq_false_iff_eq.mpr c18
                  clear c18
                  by_cases c19 : t228.toList = t231.toList
                  · rw [if_pos c19] at H
                    have c19b0 : (t228.toList == t231.toList) = true := beq_iff_eq.mpr c19
                    have c19b1 : (t228.toList != t231.toList) = false := bne_eq_false_iff_eq.mpr c19
                    clear c19
                    by_cases c20 : t229.toList = t232.toList
                    · rw [if_pos c20] at H
                      have c20b0 : (t229.toList == t232.toList) = true := beq_iff_eq.mpr c20
                      have c20b1 : (t229.toList != t232.toList) = false := bne_eq_false_iff_eq.mpr c20
                      clear c20
                      have HR_ := Aside0.mk (Option.some.inj H)
                      clear H
                      go_enter Tryd.func8, Tryd.ntmps8
                      go_wp2_with (first | ((with_reducible refine gate_callee (f := 11) rfl ?_); refine goesL_ (some 24) rfl rfl Tryd.func11 (by kernel_rfl) rfl #[] rfl (by (try simp only [List.map_toArray, List.map_cons, List.map_nil]); first | done | rfl | (simp only [List.length_drop, List.length_take]; rfl)) ?_; (with_reducible refine (interchangelaw02_shown.calls k true _ ?lg A2.out).mono ?_); (case lg => exact (HG.out.below (by repeat (first | (with_reducible first | exact HB.out | apply below_alloc | apply pw_below_drewN | apply below_drew1) | exact HB.out)))); rintro e w21 ⟨rfl, hb⟩; refine ⟨_, rfl, ?_⟩; have n0_ := Aside0.mk (below_step (by repeat (first | (with_reducible first | exact HB.out | apply below_alloc | apply pw_below_drewN | apply below_drew1) | exact HB.out)) hb); clear HB; have HB := n0_; clear n0_; (try clear hb); (try clear hb2); (try clear hk); (try clear hi)) | ((with_reducible refine gate_callee (f := 19) rfl ?_); refine goesL_ (some 27) rfl rfl Tryd.func19 (by kernel_rfl) rfl #[.string a0] rfl (by (try simp only [List.map_toArray, List.map_cons, List.map_nil]); first | done | rfl | (simp only [List.length_drop, List.length_take]; rfl)) ?_; (with_reducible refine (text_Short.calls k a0 t214 t215 _ ?lg A3.out).mono ?_); (case lg => exact (HG.out.below (by repeat (first | (with_reducible first | exact HB.out | apply below_alloc | apply pw_below_drewN | apply below_drew1) | exact HB.out)))); rintro e w22 ⟨rfl, hb⟩; refine ⟨_, rfl, ?_⟩; have n0_ := Aside0.mk (below_step (by repeat (first | (with_reducible first | exact HB.out | apply below_alloc | apply pw_below_drewN | apply below_drew1) | exact HB.out)) hb); clear HB; have HB := n0_; clear n0_; (try clear hb); (try clear hb2); (try clear hk); (try clear hi)) | ((with_reducible refine gate_callee (f := 22) rfl ?_); refine goesL_ (some 32) rfl rfl Tryd.func22 (by kernel_rfl) rfl #[.string a0] rfl (by (try simp only [List.map_toArray, List.map_cons, List.map_nil]); first | done | rfl | (simp only [List.length_drop, List.length_take]; rfl)) ?_; (with_reducible refine (interchangeref02_Short.calls a0 t216 t217 _ A4.out).mono ?_); rintro e w23 ⟨rfl, hb⟩; refine ⟨_, rfl, ?_⟩; have n0_ := Aside0.mk (below_step (by repeat (first | (with_reducible first | exact HB.out | apply below_alloc | apply pw_below_drewN | apply below_drew1) | exact HB.out)) hb); clear HB; have HB := n0_; clear n0_; (try clear hb); (try clear hb2); (try clear hk); (try clear hi)) | ((with_reducible refine gate_callee (f := 20) rfl ?_); refine goesL_ (some 37) rfl rfl Tryd.func20 (by kernel_rfl) rfl #[.string a0] rfl (by (try simp only [List.map_toArray, List.map_cons, List.map_nil]); first | done | rfl | (simp only [List.length_drop, List.length_take]; rfl)) ?_; (with_reducible refine (text_Long.calls k a0 t218 t219 _ ?lg A5.out).mono ?_); (case lg => exact (HG.out.below (by repeat (first | (with_reducible first | exact HB.out | apply below_alloc | apply pw_below_drewN | apply below_drew1) | exact HB.out)))); rintro e w24 ⟨rfl, hb⟩; refine ⟨_, rfl, ?_⟩; have n0_ := Aside0.mk (below_step (by repeat (first | (with_reducible first | exact HB.out | apply below_alloc | apply pw_below_drewN | apply below_drew1) | exact HB.out)) hb); clear HB; have HB := n0_; clear n0_; (try clear hb); (try clear hb2); (try clear hk); (try clear hi)) | ((with_reducible refine gate_callee (f := 23) rfl ?_); refine goesL_ (some 42) rfl rfl Tryd.func23 (by kernel_rfl) rfl #[.string a0] rfl (by (try simp only [List.map_toArray, List.map_cons, List.map_nil]); first | done | rfl | (simp only [List.length_drop, List.length_take]; rfl)) ?_; (with_reducible refine (interchangeref02_Long.calls k a0 t220 t221 _ A6.out).mono ?_); rintro e w25 ⟨rfl, hb⟩; refine ⟨_, rfl, ?_⟩; have n0_ := Aside0.mk (below_step (by repeat (first | (with_reducible first | exact HB.out | apply below_alloc | apply pw_below_drewN | apply below_drew1) | exact HB.out)) hb); clear HB; have HB := n0_; clear n0_; (try clear hb); (try clear hb2); (try clear hk); (try clear hi)) | ((with_reducible refine gate_callee (f := 24) rfl ?_); refine goesL_ (some 47) rfl rfl Tryd.func24 (by kernel_rfl) rfl #[.string a0] rfl (by (try simp only [List.map_toArray, List.map_cons, List.map_nil]); first | done | rfl | (simp only [List.length_drop, List.length_take]; rfl)) ?_; (with_reducible refine (text_TakeShort.calls k a0 t222 t223 t224 _ ?lg A7.out).mono ?_); (case lg => exact (HG.out.below (by repeat (first | (with_reducible first | exact HB.out | apply below_alloc | apply pw_below_drewN | apply below_drew1) | exact HB.out)))); rintro e w' ⟨rfl, ⟨nd, rfl⟩⟩; refine ⟨_, rfl, ?_⟩) | ((with_reducible refine gate_callee (f := 25) rfl ?_); refine goesL_ (some 53) rfl rfl Tryd.func25 (by kernel_rfl) rfl #[.string a0] rfl (by (try simp only [List.map_toArray, List.map_cons, List.map_nil]); first | done | rfl | (simp only [List.length_drop, List.length_take]; rfl)) ?_; (with_reducible refine (interchangeref02_TakeShort.calls a0 t225 t226 t227 _ A8.out).mono ?_); rintro e w' ⟨rfl, ⟨nd, rfl⟩⟩; refine ⟨_, rfl, ?_⟩) | ((with_reducible refine gate_callee (f := 21) rfl ?_); refine goesL_ (some 59) rfl rfl Tryd.func21 (by kernel_rfl) rfl #[.string a0] rfl (by (try simp only [List.map_toArray, List.map_cons, List.map_nil]); first | done | rfl | (simp only [List.length_drop, List.length_take]; rfl)) ?_; (with_reducible refine (text_TakeLong.calls k a0 t228 t229 t230 _ ?lg A9.out).mono ?_); (case lg => exact (HG.out.below (by repeat (first | (with_reducible first | exact HB.out | apply below_alloc | apply pw_below_drewN | apply below_drew1) | exact HB.out)))); rintro e w' ⟨rfl, ⟨nd, rfl⟩⟩; refine ⟨_, rfl, ?_⟩) | ((with_reducible refine gate_callee (f := 26) rfl ?_); refine goesL_ (some 65) rfl rfl Tryd.func26 (by kernel_rfl) rfl #[.string a0] rfl (by (try simp only [List.map_toArray, List.map_cons, List.map_nil]); first | done | rfl | (simp only [List.length_drop, List.length_take]; rfl)) ?_; (with_reducible refine (interchangeref02_TakeLong.calls k a0 t231 t232 t233 _ A10.out).mono ?_); rintro e w' ⟨rfl, ⟨nd, rfl⟩⟩; refine ⟨_, rfl, ?_⟩))
                      go_ret
                      exact ⟨by have HR0_ := HR_.out; first | exact congrArg (fun b_ => Ending.returned (Value.bool b_)) HR0_ | rfl | (simp [errW_none, errW_some] <;> rfl) | (simp [*, errW_none, errW_some] <;> rfl), by repeat (first | (with_reducible first | exact HB.out | apply below_alloc | apply pw_below_drewN | apply below_drew1) | exact HB.out)⟩
                    · rw [if_neg c20] at H
                      have c20b0 : (t229.toList == t232.toList) = false := beq_eq_false_iff_ne.mpr c20
                      have c20b1 : (t229.toList != t232.toList) = true := bne_iff_ne.mpr c20
                      exact absurd H (by decide)
                  · rw [if_neg c19] at H
                    have c19b0 : (t228.toList == t231.toList) = false := beq_eq_false_iff_ne.mpr c19
                    have c19b1 : (t228.toList != t231.toList) = true := bne_iff_ne.mpr c19
                    exact absurd H (by decide)
                · rw [if_neg c18] at H
                  have c18b0 : (t224 == t227) = false := beq_eq_false_iff_ne.mpr c18
                  have c18b1 : (t224 != t227) = true := bne_iff_ne.mpr c18
                  exact absurd H (by decide)
              · rw [if_neg c17] at H
                have c17b0 : (t223.toList == t226.toList) = false := beq_eq_false_iff_ne.mpr c17
                have c17b1 : (t223.toList != t226.toList) = true := bne_iff_ne.mpr c17
                exact absurd H (by decide)
            · rw [if_neg c16] at H
              have c16b0 : (t222.toList == t225.toList) = false := beq_eq_false_iff_ne.mpr c16
              have c16b1 : (t222.toList != t225.toList) = true := bne_iff_ne.mpr c16
              exact absurd H (by decide)
          · rw [if_neg c15] at H
            have c15b0 : (t219 == t221) = false := beq_eq_false_iff_ne.mpr c15
            have c15b1 : (t219 != t221) = true := bne_iff_ne.mpr c15
            exact absurd H (by decide)
        · rw [if_neg c14] at H
          have c14b0 : (t218.toList == t220.toList) = false := beq_eq_false_iff_ne.mpr c14
          have c14b1 : (t218.toList != t220.toList) = true := bne_iff_ne.mpr c14
          exact absurd H (by decide)
      · rw [if_neg c13] at H
        have c13b0 : (t215 == t217) = false := beq_eq_false_iff_ne.mpr c13
        have c13b1 : (t215 != t217) = true := bne_iff_ne.mpr c13
        exact absurd H (by decide)
    · rw [if_neg c12] at H
      have c12b0 : (t214.toList == t216.toList) = false := beq_eq_false_iff_ne.mpr c12
      have c12b1 : (t214.toList != t216.toList) = true := bne_iff_ne.mpr c12
      exact absurd H (by decide)
  · replace c11 := Bool.eq_false_iff.mpr c11
    subst c11
    have H1 : (some false) = some true := by rw [if_neg (show ¬ (false = true) by decide)] at H; exact H
    clear H
    have H := H1
    clear H1
    exact absurd H (by decide)


end Go.Proofs.YtmpbhbbgnmkpgaaDoor.F
namespace Go.Proofs.YtmpbhbbgnmkpgaaDoor.F
open Go.RowKit Go.Proofs.YtmpbhbbgnmkpgaaDoorW.PrintWords Go.Proofs.YtmpbhbbgnmkpgaaDoorW.PrintLast Go.Proofs.YtmpbhbbgnmkpgaaDoorW.PrintMore
set_option linter.unusedVariables false
set_option linter.unusedSimpArgs false

theorem drop_split {β : Type} (cs : List β) (o n : Nat) : cs.drop o = (cs.drop o).take n ++ cs.drop (o + n) := by
  rw [← List.drop_drop, List.take_append_drop]

structure Opened {α : Type} (t : TypeId) (R : World → α → List Value → Prop) (good sized : α → Prop) (bulk : α → Nat) : Prop where
  out : ∀ {H : Type} (enc : TypeId × Value → H) (W : World) (fuel : Nat) (cs : List Value) (y : DataW H × List MemPlace),
    DataW.trod enc Tryd.prog W 0 (fun _ => true) true fuel t cs = some y → ∃ a : α, R W a cs ∧ good a ∧ ((∀ n ∈ y.1.weights Tryd.prog t, n ≤ reachBytes) → sized a) ∧ bulk a ≤ Rows.uptoBulk y.1

theorem Opened.iso {α β : Type} {t : TypeId} {R : World → α → List Value → Prop} {g s : α → Prop} {b : α → Nat} (h : Opened t R g s b) (f : α → β) {R' : World → β → List Value → Prop} {g' s' : β → Prop} {b' : β → Nat}
    (hR : ∀ W a cs, R W a cs → R' W (f a) cs) (hg : ∀ a, g a → g' (f a)) (hs : ∀ a, s a → s' (f a)) (hb : ∀ a, b' (f a) ≤ b a) : Opened t R' g' s' b' := by
  constructor
  intro H enc W fuel cs y hy
  obtain ⟨a, r, k, z, u⟩ := h.out enc W fuel cs y hy
  exact ⟨f a, hR _ _ _ r, hg _ k, fun hw => hs _ (z hw), Nat.le_trans (hb a) u⟩

theorem opened_int {t : TypeId} {k : IntKind} (ht : Tryd.prog.underlying t = some (.int k)) : Opened t (Kd.int k).K (fun a => (Lit.int k a).wf = true) (fun _ => True) (fun _ => 1) := by
  constructor
  intro H enc W fuel cs y hy
  cases fuel with
  | zero => simp [DataW.trod] at hy
  | succ fuel =>
    unfold DataW.trod at hy
    rw [ht] at hy
    split at hy <;> simp_all
    obtain ⟨⟨rfl, h⟩, rfl⟩ := hy
    exact ⟨_, rfl, h, by simp [Rows.uptoBulk]⟩
theorem opened_bool {t : TypeId} (ht : Tryd.prog.underlying t = some .bool) : Opened t Kd.bool.K (fun _ => True) (fun _ => True) (fun _ => 1) := by
  constructor
  intro H enc W fuel cs y hy
  cases fuel with
  | zero => simp [DataW.trod] at hy
  | succ fuel =>
    unfold DataW.trod at hy
    rw [ht] at hy
    cases cs with
    | nil => simp at hy
    | cons v r =>
      cases r with
      | cons _ _ => cases v <;> simp at hy
      | nil =>
        cases v <;> simp at hy
        rename_i b
        subst hy
        exact ⟨b, rfl, trivial, fun _ => trivial, by simp [Rows.uptoBulk]⟩
theorem opened_string {t : TypeId} (ht : Tryd.prog.underlying t = some .string) : Opened t Kd.string.K (fun a => a.size ≤ maxLen) (fun a => a.size ≤ 140737488351232) (fun a => a.size + 1) := by
  constructor
  intro H enc W fuel cs y hy
  cases fuel with
  | zero => simp [DataW.trod] at hy
  | succ fuel =>
    unfold DataW.trod at hy
    rw [ht] at hy
    cases cs with
    | nil => simp at hy
    | cons v r =>
      cases r with
      | cons _ _ => cases v <;> simp at hy
      | nil =>
        cases v <;> simp at hy
        rename_i s
        obtain ⟨h, rfl⟩ := hy
        have e : s.data.toList.length = s.size := by simp
        refine ⟨s, rfl, h, ?_, ?_⟩
        · intro hw
          have := hw s.data.toList.length (by simp [DataW.weights])
          rw [e] at this
          exact Nat.le_trans this (by decide)
        · simp only [Rows.uptoBulk]; omega

/-- a value's shape, out of its one cell -/
theorem shape_int {t : TypeId} {k : IntKind} {W : World} {r : Reach} {b : Nat} {v : Value} {a : Int} (ht : Tryd.prog.underlying t = some (.int k)) (hv : Value.okWide Tryd.prog W r b t v) (h : (Kd.int k).K W a v.cells.toList) : v = .int k a := by
  obtain ⟨n, rfl⟩ := WideShapes.okWide_int ht hv
  have h' : [Value.int k n] = [Value.int k a] := h
  simpa using h'
theorem shape_bool {t : TypeId} {W : World} {r : Reach} {b : Nat} {v : Value} {a : Bool} (ht : Tryd.prog.underlying t = some .bool) (hv : Value.okWide Tryd.prog W r b t v) (h : Kd.bool.K W a v.cells.toList) : v = .bool a := by
  obtain ⟨n, rfl⟩ := WideShapes.okWide_bool ht hv
  have h' : [Value.bool n] = [Value.bool a] := h
  simpa using h'
theorem shape_string {t : TypeId} {W : World} {r : Reach} {b : Nat} {v : Value} {a : ByteArray} (ht : Tryd.prog.underlying t = some .string) (hv : Value.okWide Tryd.prog W r b t v) (h : Kd.string.K W a v.cells.toList) : v = .string a := by
  obtain ⟨n, rfl⟩ := WideShapes.okWide_string ht hv
  have h' : [Value.string n] = [Value.string a] := h
  simpa using h'
theorem shape_slice {α : Type} {t e : TypeId} {d : Kd α} {W : World} {r : Reach} {b : Nat} {v : Value} {l : List α} (ht : Tryd.prog.underlying t = some (.slice e)) (hv : Value.okWide Tryd.prog W r b t v) (h : (Kd.slice e d).K W l v.cells.toList) : ∃ A c, v = .slice A l.length c ∧ l.length ≤ c ∧ d.C W A l.length l := by
  obtain ⟨a, n, m, rfl⟩ := WideShapes.okWide_slice ht hv
  obtain ⟨A, c, h1, h2, h3⟩ := h
  have h' : [Value.slice a n m] = [Value.slice A l.length c] := h1
  exact ⟨A, c, by simpa using h', h2, h3⟩
theorem shape_struct {t : TypeId} {fs : Array Field} {W : World} {r : Reach} {b : Nat} {v : Value} {l : List Value} (ht : Tryd.prog.underlying t = some (.struct fs)) (hv : Value.okWide Tryd.prog W r b t v) (h : v.cells.toList = l) : v = .agg l.toArray := by
  obtain ⟨cs, rfl, _⟩ := WideShapes.okWide_struct ht hv
  have h' : cs.toList = l := h
  subst h'
  rfl
theorem laid_out : laidOutB Tryd.prog = true := by kernel_rfl
theorem own_knob : ownKnob Tryd.prog.godebug = none := by kernel_rfl

theorem exists_list {α : Type} {n : Nat} {p : Nat → α → Prop} (h : ∀ i, i < n → ∃ x, p i x) : ∃ l : List α, l.length = n ∧ ∀ i x, l[i]? = some x → p i x := by
  induction n with
  | zero => exact ⟨[], rfl, fun i x hx => by simp at hx⟩
  | succ n ih =>
    obtain ⟨l, hl, hp⟩ := ih (fun i hi => h i (by omega))
    obtain ⟨x, hx⟩ := h n (by omega)
    refine ⟨l ++ [x], by simp [hl], fun i y hy => ?_⟩
    rcases Nat.lt_trichotomy i l.length with hlt | heq | hgt
    · rw [List.getElem?_append_left hlt] at hy; exact hp i y hy
    · subst heq
      rw [List.getElem?_append_right (Nat.le_refl _)] at hy
      simp at hy
      subst hy
      rw [hl]; exact hx
    · rw [List.getElem?_append_right (by omega)] at hy
      have : i - l.length = (i - l.length - 1) + 1 := by omega
      rw [this] at hy
      simp at hy

theorem bulk_sum {α H : Type} (b : α → Nat) : ∀ (l : List α) (ds : List (DataW H)), l.length = ds.length → (∀ (i : Nat) (x : α) (d : DataW H), l[i]? = some x → ds[i]? = some d → b x ≤ Rows.uptoBulk d) → (l.map b).sum ≤ Rows.uptoBulkAll ds
  | [], [], _, _ => by simp [Rows.uptoBulkAll]
  | x :: l, d :: ds, h, hb => by
    have h1 := hb 0 x d rfl rfl
    have h2 := bulk_sum b l ds (by simpa using h) (fun i y e hy he => hb (i + 1) y e (by simpa using hy) (by simpa using he))
    simp only [List.map_cons, List.sum_cons, Rows.uptoBulkAll]
    omega
  | [], _ :: _, h, _ => by simp at h
  | _ :: _, [], h, _ => by simp at h

theorem weights_mem_all {H : Type} {P : Program} {e : TypeId} : ∀ {ds : List (DataW H)} {d : DataW H} {n : Nat}, d ∈ ds → n ∈ d.weights P e → n ∈ DataW.weightsAll P e ds
  | x :: ds, d, n, hd, hn => by
    simp only [DataW.weightsAll, List.mem_append]
    rcases List.mem_cons.1 hd with rfl | hd
    · exact .inl hn
    · exact .inr (weights_mem_all hd hn)
  | [], _, _, hd, _ => by simp at hd

theorem opened_slice {α : Type} {t e : TypeId} {d : Kd α} {g s : α → Prop} {b : α → Nat} (ht : Tryd.prog.underlying t = some (.slice e)) (hsz : Tryd.prog.cellsOf e = d.sz) (h : Opened e d.K g s b) :
    Opened t (Kd.slice e d).K (fun l => l.length ≤ maxLen ∧ ∀ x ∈ l, g x) (fun l => l.length * Tryd.prog.bytesOf e ≤ 140737488351232 ∧ ∀ x ∈ l, s x) (fun l => (l.map b).sum + 1) := by
  constructor
  intro H enc W fuel cs y hy
  rcases DataW.trod_slice ht hy with ⟨rfl, rfl⟩ | ⟨a, len, cap, elems, rest, n, rfl, rfl, rfl, hba, hl, hm, hlen, hel, _, _⟩
  · refine ⟨[], ⟨none, 0, rfl, Nat.le_refl _, rfl, by simp, fun h0 => absurd h0 (by simp)⟩, ⟨by simp, by simp⟩, fun _ => ⟨by simp, by simp⟩, by simp [Rows.uptoBulk]⟩
  · have hx : ∀ i, i < len → ∃ x : α, (∃ c y, W.cells? 0 (a.add (i * Tryd.prog.cellsOf e)) (Tryd.prog.cellsOf e) = some c ∧ elems[i]? = some y ∧ d.K W x c ∧ g x ∧ ((∀ n ∈ y.1.weights Tryd.prog e, n ≤ reachBytes) → s x) ∧ b x ≤ Rows.uptoBulk y.1) := by
      intro i hi
      have h1 := hel i hi
      have h2 : elems[i]? = some elems[i] := List.getElem?_eq_getElem (by omega)
      rw [h2] at h1
      obtain ⟨c, hc, hd⟩ := Option.bind_eq_some_iff.1 h1
      obtain ⟨x, r, k, z, u⟩ := h.out enc W n c _ hd
      exact ⟨x, c, _, hc, h2, r, k, z, u⟩
    obtain ⟨l, hll, hp⟩ := exists_list hx
    have hmem : ∀ x ∈ l, ∃ y, y ∈ elems ∧ g x ∧ ((∀ n ∈ y.1.weights Tryd.prog e, n ≤ reachBytes) → s x) := by
      intro x hx
      obtain ⟨i, hi⟩ := List.mem_iff_getElem?.1 hx
      obtain ⟨c, y, _, hy, _, k, z, _⟩ := hp i x hi
      exact ⟨y, List.mem_of_getElem? hy, k, z⟩
    refine ⟨l, ⟨some a, cap, by rw [hll], by omega, rfl, ?_, fun h0 => ⟨a, rfl, fun j p hj => ?_⟩⟩, ⟨by omega, fun x hx => ?_⟩, fun hw => ⟨?_, fun x hx => ?_⟩, ?_⟩
    · unfold maxLen at hm; omega
    · obtain ⟨c, y, hc, _, r, _⟩ := hp j p hj
      obtain ⟨_, hc1, hc2⟩ := World.cells?_some hc
      refine ⟨c, d.K_len r, r, fun i u hu => ?_⟩
      have := hc2 i (by have := (List.getElem?_eq_some_iff.1 hu).1; omega)
      rw [hu, hsz, Deep.add_add] at this
      exact this
    · obtain ⟨y, _, k, _⟩ := hmem x hx
      exact k
    · have := hw ((elems.length + rest.length) * Tryd.prog.bytesOf e) (by simp [DataW.weights, ht])
      have h2 : l.length * Tryd.prog.bytesOf e ≤ (elems.length + rest.length) * Tryd.prog.bytesOf e := Nat.mul_le_mul_right _ (by omega)
      exact Nat.le_trans (Nat.le_trans h2 this) (by decide)
    · obtain ⟨y, hy, _, z⟩ := hmem x hx
      exact z fun n hn => hw n (by
        simp only [DataW.weights, ht, List.mem_cons, List.mem_append]
        exact .inr (.inl (weights_mem_all (List.mem_map_of_mem hy) hn)))
    · have := bulk_sum b l (elems.map (·.1)) (by simp; omega) (fun i x dd hx hd => by
        obtain ⟨c, y, _, hy, _, _, _, u⟩ := hp i x hx
        rw [List.getElem?_map, hy] at hd
        simp at hd
        subst hd
        exact u)
      simp only [Rows.uptoBulk]
      omega

theorem cells_split1 {β : Type} {cs : List β} {n0 : Nat} (h : cs.length = n0) : cs = (cs.drop (0)).take n0 := by
  have q : (cs.drop (0)).take n0 = cs.drop (0) := List.take_of_length_le (by rw [List.length_drop]; omega)
  rw [q]
  rfl
theorem opened_struct1 {α0 : Type} {t : TypeId} {f0 : Field} {n0 : Nat}
    {R0 : World → α0 → List Value → Prop} {g0 s0 : α0 → Prop} {b0 : α0 → Nat}
    (hs : Tryd.prog.underlying t = some (.struct #[f0])) (hc : Tryd.prog.cellsOf t = n0)
    (hn0 : Tryd.prog.cellsOf f0.type = n0) (ho0 : f0.offset = 0) (h0 : Opened f0.type R0 g0 s0 b0)
    : Opened t (fun W (a : α0) cs => ∃ c0, cs = c0 ∧ R0 W a c0) (fun a => g0 a) (fun a => s0 a) (fun a => b0 a) := by
  constructor
  intro H enc W fuel cs y hy
  obtain ⟨xs, m, rfl, rfl, hl, hx, hf⟩ := DataW.trod_struct hs hy
  obtain ⟨x0, rfl⟩ : ∃ x0, xs = [x0] := by
    match xs, hx with
    | [x0], _ => exact ⟨x0, rfl⟩
  have e0 := hf 0 f0 rfl
  rw [hn0, ho0] at e0
  obtain ⟨a0, r0, k0, z0, u0⟩ := h0.out enc W m _ _ (e0.trans rfl)
  rw [hc] at hl
  refine ⟨a0, ⟨_, ?_, r0⟩, k0, fun hw => ?_, ?_⟩
  · exact cells_split1 hl
  · have hw' : ∀ n ∈ DataW.weightsEach Tryd.prog [f0.type] [x0.1], n ≤ reachBytes := fun n hn => hw n (by simp only [DataW.weights, hs]; exact hn)
    exact z0 fun n hn => hw' n (DataW.weights_mem_each (j := 0) rfl rfl n hn)
  · simp only [Rows.uptoBulk, Rows.uptoBulkAll, List.map]
    omega

theorem cells_split2 {β : Type} {cs : List β} {n0 n1 : Nat} (h : cs.length = n0 + n1) : cs = (cs.drop (0)).take n0 ++ ((cs.drop (n0)).take n1) := by
  have p0 := drop_split cs (0) n0
  rw [Nat.zero_add] at p0
  have q : (cs.drop (n0)).take n1 = cs.drop (n0) := List.take_of_length_le (by rw [List.length_drop]; omega)
  rw [q]
  rw [← p0]
  rfl
theorem opened_struct2 {α0 α1 : Type} {t : TypeId} {f0 f1 : Field} {n0 n1 : Nat}
    {R0 : World → α0 → List Value → Prop} {g0 s0 : α0 → Prop} {b0 : α0 → Nat}
    {R1 : World → α1 → List Value → Prop} {g1 s1 : α1 → Prop} {b1 : α1 → Nat}
    (hs : Tryd.prog.underlying t = some (.struct #[f0, f1])) (hc : Tryd.prog.cellsOf t = n0 + n1)
    (hn0 : Tryd.prog.cellsOf f0.type = n0) (ho0 : f0.offset = 0) (h0 : Opened f0.type R0 g0 s0 b0)
    (hn1 : Tryd.prog.cellsOf f1.type = n1) (ho1 : f1.offset = n0) (h1 : Opened f1.type R1 g1 s1 b1)
    : Opened t (fun W (a : α0 × α1) cs => ∃ c0 c1, cs = c0 ++ (c1) ∧ R0 W a.1 c0 ∧ R1 W a.2 c1) (fun a => g0 a.1 ∧ g1 a.2) (fun a => s0 a.1 ∧ s1 a.2) (fun a => b0 a.1 + b1 a.2) := by
  constructor
  intro H enc W fuel cs y hy
  obtain ⟨xs, m, rfl, rfl, hl, hx, hf⟩ := DataW.trod_struct hs hy
  obtain ⟨x0, x1, rfl⟩ : ∃ x0 x1, xs = [x0, x1] := by
    match xs, hx with
    | [x0, x1], _ => exact ⟨x0, x1, rfl⟩
  have e0 := hf 0 f0 rfl
  rw [hn0, ho0] at e0
  obtain ⟨a0, r0, k0, z0, u0⟩ := h0.out enc W m _ _ (e0.trans rfl)
  have e1 := hf 1 f1 rfl
  rw [hn1, ho1] at e1
  obtain ⟨a1, r1, k1, z1, u1⟩ := h1.out enc W m _ _ (e1.trans rfl)
  rw [hc] at hl
  refine ⟨(a0, a1), ⟨_, _, ?_, r0, r1⟩, ⟨k0, k1⟩, fun hw => ?_, ?_⟩
  · exact cells_split2 hl
  · have hw' : ∀ n ∈ DataW.weightsEach Tryd.prog [f0.type, f1.type] [x0.1, x1.1], n ≤ reachBytes := fun n hn => hw n (by simp only [DataW.weights, hs]; exact hn)
    exact ⟨z0 fun n hn => hw' n (DataW.weights_mem_each (j := 0) rfl rfl n hn), z1 fun n hn => hw' n (DataW.weights_mem_each (j := 1) rfl rfl n hn)⟩
  · simp only [Rows.uptoBulk, Rows.uptoBulkAll, List.map]
    omega

theorem cells_split3 {β : Type} {cs : List β} {n0 n1 n2 : Nat} (h : cs.length = n0 + n1 + n2) : cs = (cs.drop (0)).take n0 ++ ((cs.drop (n0)).take n1 ++ ((cs.drop (n0 + n1)).take n2)) := by
  have p0 := drop_split cs (0) n0
  rw [Nat.zero_add] at p0
  have p1 := drop_split cs (n0) n1
  have q : (cs.drop (n0 + n1)).take n2 = cs.drop (n0 + n1) := List.take_of_length_le (by rw [List.length_drop]; omega)
  rw [q]
  rw [← p1]
  rw [← p0]
  rfl
theorem opened_struct3 {α0 α1 α2 : Type} {t : TypeId} {f0 f1 f2 : Field} {n0 n1 n2 : Nat}
    {R0 : World → α0 → List Value → Prop} {g0 s0 : α0 → Prop} {b0 : α0 → Nat}
    {R1 : World → α1 → List Value → Prop} {g1 s1 : α1 → Prop} {b1 : α1 → Nat}
    {R2 : World → α2 → List Value → Prop} {g2 s2 : α2 → Prop} {b2 : α2 → Nat}
    (hs : Tryd.prog.underlying t = some (.struct #[f0, f1, f2])) (hc : Tryd.prog.cellsOf t = n0 + n1 + n2)
    (hn0 : Tryd.prog.cellsOf f0.type = n0) (ho0 : f0.offset = 0) (h0 : Opened f0.type R0 g0 s0 b0)
    (hn1 : Tryd.prog.cellsOf f1.type = n1) (ho1 : f1.offset = n0) (h1 : Opened f1.type R1 g1 s1 b1)
    (hn2 : Tryd.prog.cellsOf f2.type = n2) (ho2 : f2.offset = n0 + n1) (h2 : Opened f2.type R2 g2 s2 b2)
    : Opened t (fun W (a : α0 × α1 × α2) cs => ∃ c0 c1 c2, cs = c0 ++ (c1 ++ (c2)) ∧ R0 W a.1 c0 ∧ R1 W a.2.1 c1 ∧ R2 W a.2.2 c2) (fun a => g0 a.1 ∧ g1 a.2.1 ∧ g2 a.2.2) (fun a => s0 a.1 ∧ s1 a.2.1 ∧ s2 a.2.2) (fun a => b0 a.1 + b1 a.2.1 + b2 a.2.2) := by
  constructor
  intro H enc W fuel cs y hy
  obtain ⟨xs, m, rfl, rfl, hl, hx, hf⟩ := DataW.trod_struct hs hy
  obtain ⟨x0, x1, x2, rfl⟩ : ∃ x0 x1 x2, xs = [x0, x1, x2] := by
    match xs, hx with
    | [x0, x1, x2], _ => exact ⟨x0, x1, x2, rfl⟩
  have e0 := hf 0 f0 rfl
  rw [hn0, ho0] at e0
  obtain ⟨a0, r0, k0, z0, u0⟩ := h0.out enc W m _ _ (e0.trans rfl)
  have e1 := hf 1 f1 rfl
  rw [hn1, ho1] at e1
  obtain ⟨a1, r1, k1, z1, u1⟩ := h1.out enc W m _ _ (e1.trans rfl)
  have e2 := hf 2 f2 rfl
  rw [hn2, ho2] at e2
  obtain ⟨a2, r2, k2, z2, u2⟩ := h2.out enc W m _ _ (e2.trans rfl)
  rw [hc] at hl
  refine ⟨(a0, a1, a2), ⟨_, _, _, ?_, r0, r1, r2⟩, ⟨k0, k1, k2⟩, fun hw => ?_, ?_⟩
  · exact cells_split3 hl
  · have hw' : ∀ n ∈ DataW.weightsEach Tryd.prog [f0.type, f1.type, f2.type] [x0.1, x1.1, x2.1], n ≤ reachBytes := fun n hn => hw n (by simp only [DataW.weights, hs]; exact hn)
    exact ⟨z0 fun n hn => hw' n (DataW.weights_mem_each (j := 0) rfl rfl n hn), z1 fun n hn => hw' n (DataW.weights_mem_each (j := 1) rfl rfl n hn), z2 fun n hn => hw' n (DataW.weights_mem_each (j := 2) rfl rfl n hn)⟩
  · simp only [Rows.uptoBulk, Rows.uptoBulkAll, List.map]
    omega

theorem cells_split4 {β : Type} {cs : List β} {n0 n1 n2 n3 : Nat} (h : cs.length = n0 + n1 + n2 + n3) : cs = (cs.drop (0)).take n0 ++ ((cs.drop (n0)).take n1 ++ ((cs.drop (n0 + n1)).take n2 ++ ((cs.drop (n0 + n1 + n2)).take n3))) := by
  have p0 := drop_split cs (0) n0
  rw [Nat.zero_add] at p0
  have p1 := drop_split cs (n0) n1
  have p2 := drop_split cs (n0 + n1) n2
  have q : (cs.drop (n0 + n1 + n2)).take n3 = cs.drop (n0 + n1 + n2) := List.take_of_length_le (by rw [List.length_drop]; omega)
  rw [q]
  rw [← p2]
  rw [← p1]
  rw [← p0]
  rfl
theorem opened_struct4 {α0 α1 α2 α3 : Type} {t : TypeId} {f0 f1 f2 f3 : Field} {n0 n1 n2 n3 : Nat}
    {R0 : World → α0 → List Value → Prop} {g0 s0 : α0 → Prop} {b0 : α0 → Nat}
    {R1 : World → α1 → List Value → Prop} {g1 s1 : α1 → Prop} {b1 : α1 → Nat}
    {R2 : World → α2 → List Value → Prop} {g2 s2 : α2 → Prop} {b2 : α2 → Nat}
    {R3 : World → α3 → List Value → Prop} {g3 s3 : α3 → Prop} {b3 : α3 → Nat}
    (hs : Tryd.prog.underlying t = some (.struct #[f0, f1, f2, f3])) (hc : Tryd.prog.cellsOf t = n0 + n1 + n2 + n3)
    (hn0 : Tryd.prog.cellsOf f0.type = n0) (ho0 : f0.offset = 0) (h0 : Opened f0.type R0 g0 s0 b0)
    (hn1 : Tryd.prog.cellsOf f1.type = n1) (ho1 : f1.offset = n0) (h1 : Opened f1.type R1 g1 s1 b1)
    (hn2 : Tryd.prog.cellsOf f2.type = n2) (ho2 : f2.offset = n0 + n1) (h2 : Opened f2.type R2 g2 s2 b2)
    (hn3 : Tryd.prog.cellsOf f3.type = n3) (ho3 : f3.offset = n0 + n1 + n2) (h3 : Opened f3.type R3 g3 s3 b3)
    : Opened t (fun W (a : α0 × α1 × α2 × α3) cs => ∃ c0 c1 c2 c3, cs = c0 ++ (c1 ++ (c2 ++ (c3))) ∧ R0 W a.1 c0 ∧ R1 W a.2.1 c1 ∧ R2 W a.2.2.1 c2 ∧ R3 W a.2.2.2 c3) (fun a => g0 a.1 ∧ g1 a.2.1 ∧ g2 a.2.2.1 ∧ g3 a.2.2.2) (fun a => s0 a.1 ∧ s1 a.2.1 ∧ s2 a.2.2.1 ∧ s3 a.2.2.2) (fun a => b0 a.1 + b1 a.2.1 + b2 a.2.2.1 + b3 a.2.2.2) := by
  constructor
  intro H enc W fuel cs y hy
  obtain ⟨xs, m, rfl, rfl, hl, hx, hf⟩ := DataW.trod_struct hs hy
  obtain ⟨x0, x1, x2, x3, rfl⟩ : ∃ x0 x1 x2 x3, xs = [x0, x1, x2, x3] := by
    match xs, hx with
    | [x0, x1, x2, x3], _ => exact ⟨x0, x1, x2, x3, rfl⟩
  have e0 := hf 0 f0 rfl
  rw [hn0, ho0] at e0
  obtain ⟨a0, r0, k0, z0, u0⟩ := h0.out enc W m _ _ (e0.trans rfl)
  have e1 := hf 1 f1 rfl
  rw [hn1, ho1] at e1
  obtain ⟨a1, r1, k1, z1, u1⟩ := h1.out enc W m _ _ (e1.trans rfl)
  have e2 := hf 2 f2 rfl
  rw [hn2, ho2] at e2
  obtain ⟨a2, r2, k2, z2, u2⟩ := h2.out enc W m _ _ (e2.trans rfl)
  have e3 := hf 3 f3 rfl
  rw [hn3, ho3] at e3
  obtain ⟨a3, r3, k3, z3, u3⟩ := h3.out enc W m _ _ (e3.trans rfl)
  rw [hc] at hl
  refine ⟨(a0, a1, a2, a3), ⟨_, _, _, _, ?_, r0, r1, r2, r3⟩, ⟨k0, k1, k2, k3⟩, fun hw => ?_, ?_⟩
  · exact cells_split4 hl
  · have hw' : ∀ n ∈ DataW.weightsEach Tryd.prog [f0.type, f1.type, f2.type, f3.type] [x0.1, x1.1, x2.1, x3.1], n ≤ reachBytes := fun n hn => hw n (by simp only [DataW.weights, hs]; exact hn)
    exact ⟨z0 fun n hn => hw' n (DataW.weights_mem_each (j := 0) rfl rfl n hn), z1 fun n hn => hw' n (DataW.weights_mem_each (j := 1) rfl rfl n hn), z2 fun n hn => hw' n (DataW.weights_mem_each (j := 2) rfl rfl n hn), z3 fun n hn => hw' n (DataW.weights_mem_each (j := 3) rfl rfl n hn)⟩
  · simp only [Rows.uptoBulk, Rows.uptoBulkAll, List.map]
    omega

theorem cells_split5 {β : Type} {cs : List β} {n0 n1 n2 n3 n4 : Nat} (h : cs.length = n0 + n1 + n2 + n3 + n4) : cs = (cs.drop (0)).take n0 ++ ((cs.drop (n0)).take n1 ++ ((cs.drop (n0 + n1)).take n2 ++ ((cs.drop (n0 + n1 + n2)).take n3 ++ ((cs.drop (n0 + n1 + n2 + n3)).take n4)))) := by
  have p0 := drop_split cs (0) n0
  rw [Nat.zero_add] at p0
  have p1 := drop_split cs (n0) n1
  have p2 := drop_split cs (n0 + n1) n2
  have p3 := drop_split cs (n0 + n1 + n2) n3
  have q : (cs.drop (n0 + n1 + n2 + n3)).take n4 = cs.drop (n0 + n1 + n2 + n3) := List.take_of_length_le (by rw [List.length_drop]; omega)
  rw [q]
  rw [← p3]
  rw [← p2]
  rw [← p1]
  rw [← p0]
  rfl
theorem opened_struct5 {α0 α1 α2 α3 α4 : Type} {t : TypeId} {f0 f1 f2 f3 f4 : Field} {n0 n1 n2 n3 n4 : Nat}
    {R0 : World → α0 → List Value → Prop} {g0 s0 : α0 → Prop} {b0 : α0 → Nat}
    {R1 : World → α1 → List Value → Prop} {g1 s1 : α1 → Prop} {b1 : α1 → Nat}
    {R2 : World → α2 → List Value → Prop} {g2 s2 : α2 → Prop} {b2 : α2 → Nat}
    {R3 : World → α3 → List Value → Prop} {g3 s3 : α3 → Prop} {b3 : α3 → Nat}
    {R4 : World → α4 → List Value → Prop} {g4 s4 : α4 → Prop} {b4 : α4 → Nat}
    (hs : Tryd.prog.underlying t = some (.struct #[f0, f1, f2, f3, f4])) (hc : Tryd.prog.cellsOf t = n0 + n1 + n2 + n3 + n4)
    (hn0 : Tryd.prog.cellsOf f0.type = n0) (ho0 : f0.offset = 0) (h0 : Opened f0.type R0 g0 s0 b0)
    (hn1 : Tryd.prog.cellsOf f1.type = n1) (ho1 : f1.offset = n0) (h1 : Opened f1.type R1 g1 s1 b1)
    (hn2 : Tryd.prog.cellsOf f2.type = n2) (ho2 : f2.offset = n0 + n1) (h2 : Opened f2.type R2 g2 s2 b2)
    (hn3 : Tryd.prog.cellsOf f3.type = n3) (ho3 : f3.offset = n0 + n1 + n2) (h3 : Opened f3.type R3 g3 s3 b3)
    (hn4 : Tryd.prog.cellsOf f4.type = n4) (ho4 : f4.offset = n0 + n1 + n2 + n3) (h4 : Opened f4.type R4 g4 s4 b4)
    : Opened t (fun W (a : α0 × α1 × α2 × α3 × α4) cs => ∃ c0 c1 c2 c3 c4, cs = c0 ++ (c1 ++ (c2 ++ (c3 ++ (c4)))) ∧ R0 W a.1 c0 ∧ R1 W a.2.1 c1 ∧ R2 W a.2.2.1 c2 ∧ R3 W a.2.2.2.1 c3 ∧ R4 W a.2.2.2.2 c4) (fun a => g0 a.1 ∧ g1 a.2.1 ∧ g2 a.2.2.1 ∧ g3 a.2.2.2.1 ∧ g4 a.2.2.2.2) (fun a => s0 a.1 ∧ s1 a.2.1 ∧ s2 a.2.2.1 ∧ s3 a.2.2.2.1 ∧ s4 a.2.2.2.2) (fun a => b0 a.1 + b1 a.2.1 + b2 a.2.2.1 + b3 a.2.2.2.1 + b4 a.2.2.2.2) := by
  constructor
  intro H enc W fuel cs y hy
  obtain ⟨xs, m, rfl, rfl, hl, hx, hf⟩ := DataW.trod_struct hs hy
  obtain ⟨x0, x1, x2, x3, x4, rfl⟩ : ∃ x0 x1 x2 x3 x4, xs = [x0, x1, x2, x3, x4] := by
    match xs, hx with
    | [x0, x1, x2, x3, x4], _ => exact ⟨x0, x1, x2, x3, x4, rfl⟩
  have e0 := hf 0 f0 rfl
  rw [hn0, ho0] at e0
  obtain ⟨a0, r0, k0, z0, u0⟩ := h0.out enc W m _ _ (e0.trans rfl)
  have e1 := hf 1 f1 rfl
  rw [hn1, ho1] at e1
  obtain ⟨a1, r1, k1, z1, u1⟩ := h1.out enc W m _ _ (e1.trans rfl)
  have e2 := hf 2 f2 rfl
  rw [hn2, ho2] at e2
  obtain ⟨a2, r2, k2, z2, u2⟩ := h2.out enc W m _ _ (e2.trans rfl)
  have e3 := hf 3 f3 rfl
  rw [hn3, ho3] at e3
  obtain ⟨a3, r3, k3, z3, u3⟩ := h3.out enc W m _ _ (e3.trans rfl)
  have e4 := hf 4 f4 rfl
  rw [hn4, ho4] at e4
  obtain ⟨a4, r4, k4, z4, u4⟩ := h4.out enc W m _ _ (e4.trans rfl)
  rw [hc] at hl
  refine ⟨(a0, a1, a2, a3, a4), ⟨_, _, _, _, _, ?_, r0, r1, r2, r3, r4⟩, ⟨k0, k1, k2, k3, k4⟩, fun hw => ?_, ?_⟩
  · exact cells_split5 hl
  · have hw' : ∀ n ∈ DataW.weightsEach Tryd.prog [f0.type, f1.type, f2.type, f3.type, f4.type] [x0.1, x1.1, x2.1, x3.1, x4.1], n ≤ reachBytes := fun n hn => hw n (by simp only [DataW.weights, hs]; exact hn)
    exact ⟨z0 fun n hn => hw' n (DataW.weights_mem_each (j := 0) rfl rfl n hn), z1 fun n hn => hw' n (DataW.weights_mem_each (j := 1) rfl rfl n hn), z2 fun n hn => hw' n (DataW.weights_mem_each (j := 2) rfl rfl n hn), z3 fun n hn => hw' n (DataW.weights_mem_each (j := 3) rfl rfl n hn), z4 fun n hn => hw' n (DataW.weights_mem_each (j := 4) rfl rfl n hn)⟩
  · simp only [Rows.uptoBulk, Rows.uptoBulkAll, List.map]
    omega

theorem cells_split6 {β : Type} {cs : List β} {n0 n1 n2 n3 n4 n5 : Nat} (h : cs.length = n0 + n1 + n2 + n3 + n4 + n5) : cs = (cs.drop (0)).take n0 ++ ((cs.drop (n0)).take n1 ++ ((cs.drop (n0 + n1)).take n2 ++ ((cs.drop (n0 + n1 + n2)).take n3 ++ ((cs.drop (n0 + n1 + n2 + n3)).take n4 ++ ((cs.drop (n0 + n1 + n2 + n3 + n4)).take n5))))) := by
  have p0 := drop_split cs (0) n0
  rw [Nat.zero_add] at p0
  have p1 := drop_split cs (n0) n1
  have p2 := drop_split cs (n0 + n1) n2
  have p3 := drop_split cs (n0 + n1 + n2) n3
  have p4 := drop_split cs (n0 + n1 + n2 + n3) n4
  have q : (cs.drop (n0 + n1 + n2 + n3 + n4)).take n5 = cs.drop (n0 + n1 + n2 + n3 + n4) := List.take_of_length_le (by rw [List.length_drop]; omega)
  rw [q]
  rw [← p4]
  rw [← p3]
  rw [← p2]
  rw [← p1]
  rw [← p0]
  rfl
theorem opened_struct6 {α0 α1 α2 α3 α4 α5 : Type} {t : TypeId} {f0 f1 f2 f3 f4 f5 : Field} {n0 n1 n2 n3 n4 n5 : Nat}
    {R0 : World → α0 → List Value → Prop} {g0 s0 : α0 → Prop} {b0 : α0 → Nat}
    {R1 : World → α1 → List Value → Prop} {g1 s1 : α1 → Prop} {b1 : α1 → Nat}
    {R2 : World → α2 → List Value → Prop} {g2 s2 : α2 → Prop} {b2 : α2 → Nat}
    {R3 : World → α3 → List Value → Prop} {g3 s3 : α3 → Prop} {b3 : α3 → Nat}
    {R4 : World → α4 → List Value → Prop} {g4 s4 : α4 → Prop} {b4 : α4 → Nat}
    {R5 : World → α5 → List Value → Prop} {g5 s5 : α5 → Prop} {b5 : α5 → Nat}
    (hs : Tryd.prog.underlying t = some (.struct #[f0, f1, f2, f3, f4, f5])) (hc : Tryd.prog.cellsOf t = n0 + n1 + n2 + n3 + n4 + n5)
    (hn0 : Tryd.prog.cellsOf f0.type = n0) (ho0 : f0.offset = 0) (h0 : Opened f0.type R0 g0 s0 b0)
    (hn1 : Tryd.prog.cellsOf f1.type = n1) (ho1 : f1.offset = n0) (h1 : Opened f1.type R1 g1 s1 b1)
    (hn2 : Tryd.prog.cellsOf f2.type = n2) (ho2 : f2.offset = n0 + n1) (h2 : Opened f2.type R2 g2 s2 b2)
    (hn3 : Tryd.prog.cellsOf f3.type = n3) (ho3 : f3.offset = n0 + n1 + n2) (h3 : Opened f3.type R3 g3 s3 b3)
    (hn4 : Tryd.prog.cellsOf f4.type = n4) (ho4 : f4.offset = n0 + n1 + n2 + n3) (h4 : Opened f4.type R4 g4 s4 b4)
    (hn5 : Tryd.prog.cellsOf f5.type = n5) (ho5 : f5.offset = n0 + n1 + n2 + n3 + n4) (h5 : Opened f5.type R5 g5 s5 b5)
    : Opened t (fun W (a : α0 × α1 × α2 × α3 × α4 × α5) cs => ∃ c0 c1 c2 c3 c4 c5, cs = c0 ++ (c1 ++ (c2 ++ (c3 ++ (c4 ++ (c5))))) ∧ R0 W a.1 c0 ∧ R1 W a.2.1 c1 ∧ R2 W a.2.2.1 c2 ∧ R3 W a.2.2.2.1 c3 ∧ R4 W a.2.2.2.2.1 c4 ∧ R5 W a.2.2.2.2.2 c5) (fun a => g0 a.1 ∧ g1 a.2.1 ∧ g2 a.2.2.1 ∧ g3 a.2.2.2.1 ∧ g4 a.2.2.2.2.1 ∧ g5 a.2.2.2.2.2) (fun a => s0 a.1 ∧ s1 a.2.1 ∧ s2 a.2.2.1 ∧ s3 a.2.2.2.1 ∧ s4 a.2.2.2.2.1 ∧ s5 a.2.2.2.2.2) (fun a => b0 a.1 + b1 a.2.1 + b2 a.2.2.1 + b3 a.2.2.2.1 + b4 a.2.2.2.2.1 + b5 a.2.2.2.2.2) := by
  constructor
  intro H enc W fuel cs y hy
  obtain ⟨xs, m, rfl, rfl, hl, hx, hf⟩ := DataW.trod_struct hs hy
  obtain ⟨x0, x1, x2, x3, x4, x5, rfl⟩ : ∃ x0 x1 x2 x3 x4 x5, xs = [x0, x1, x2, x3, x4, x5] := by
    match xs, hx with
    | [x0, x1, x2, x3, x4, x5], _ => exact ⟨x0, x1, x2, x3, x4, x5, rfl⟩
  have e0 := hf 0 f0 rfl
  rw [hn0, ho0] at e0
  obtain ⟨a0, r0, k0, z0, u0⟩ := h0.out enc W m _ _ (e0.trans rfl)
  have e1 := hf 1 f1 rfl
  rw [hn1, ho1] at e1
  obtain ⟨a1, r1, k1, z1, u1⟩ := h1.out enc W m _ _ (e1.trans rfl)
  have e2 := hf 2 f2 rfl
  rw [hn2, ho2] at e2
  obtain ⟨a2, r2, k2, z2, u2⟩ := h2.out enc W m _ _ (e2.trans rfl)
  have e3 := hf 3 f3 rfl
  rw [hn3, ho3] at e3
  obtain ⟨a3, r3, k3, z3, u3⟩ := h3.out enc W m _ _ (e3.trans rfl)
  have e4 := hf 4 f4 rfl
  rw [hn4, ho4] at e4
  obtain ⟨a4, r4, k4, z4, u4⟩ := h4.out enc W m _ _ (e4.trans rfl)
  have e5 := hf 5 f5 rfl
  rw [hn5, ho5] at e5
  obtain ⟨a5, r5, k5, z5, u5⟩ := h5.out enc W m _ _ (e5.trans rfl)
  rw [hc] at hl
  refine ⟨(a0, a1, a2, a3, a4, a5), ⟨_, _, _, _, _, _, ?_, r0, r1, r2, r3, r4, r5⟩, ⟨k0, k1, k2, k3, k4, k5⟩, fun hw => ?_, ?_⟩
  · exact cells_split6 hl
  · have hw' : ∀ n ∈ DataW.weightsEach Tryd.prog [f0.type, f1.type, f2.type, f3.type, f4.type, f5.type] [x0.1, x1.1, x2.1, x3.1, x4.1, x5.1], n ≤ reachBytes := fun n hn => hw n (by simp only [DataW.weights, hs]; exact hn)
    exact ⟨z0 fun n hn => hw' n (DataW.weights_mem_each (j := 0) rfl rfl n hn), z1 fun n hn => hw' n (DataW.weights_mem_each (j := 1) rfl rfl n hn), z2 fun n hn => hw' n (DataW.weights_mem_each (j := 2) rfl rfl n hn), z3 fun n hn => hw' n (DataW.weights_mem_each (j := 3) rfl rfl n hn), z4 fun n hn => hw' n (DataW.weights_mem_each (j := 4) rfl rfl n hn), z5 fun n hn => hw' n (DataW.weights_mem_each (j := 5) rfl rfl n hn)⟩
  · simp only [Rows.uptoBulk, Rows.uptoBulkAll, List.map]
    omega

theorem cells_split7 {β : Type} {cs : List β} {n0 n1 n2 n3 n4 n5 n6 : Nat} (h : cs.length = n0 + n1 + n2 + n3 + n4 + n5 + n6) : cs = (cs.drop (0)).take n0 ++ ((cs.drop (n0)).take n1 ++ ((cs.drop (n0 + n1)).take n2 ++ ((cs.drop (n0 + n1 + n2)).take n3 ++ ((cs.drop (n0 + n1 + n2 + n3)).take n4 ++ ((cs.drop (n0 + n1 + n2 + n3 + n4)).take n5 ++ ((cs.drop (n0 + n1 + n2 + n3 + n4 + n5)).take n6)))))) := by
  have p0 := drop_split cs (0) n0
  rw [Nat.zero_add] at p0
  have p1 := drop_split cs (n0) n1
  have p2 := drop_split cs (n0 + n1) n2
  have p3 := drop_split cs (n0 + n1 + n2) n3
  have p4 := drop_split cs (n0 + n1 + n2 + n3) n4
  have p5 := drop_split cs (n0 + n1 + n2 + n3 + n4) n5
  have q : (cs.drop (n0 + n1 + n2 + n3 + n4 + n5)).take n6 = cs.drop (n0 + n1 + n2 + n3 + n4 + n5) := List.take_of_length_le (by rw [List.length_drop]; omega)
  rw [q]
  rw [← p5]
  rw [← p4]
  rw [← p3]
  rw [← p2]
  rw [← p1]
  rw [← p0]
  rfl
theorem opened_struct7 {α0 α1 α2 α3 α4 α5 α6 : Type} {t : TypeId} {f0 f1 f2 f3 f4 f5 f6 : Field} {n0 n1 n2 n3 n4 n5 n6 : Nat}
    {R0 : World → α0 → List Value → Prop} {g0 s0 : α0 → Prop} {b0 : α0 → Nat}
    {R1 : World → α1 → List Value → Prop} {g1 s1 : α1 → Prop} {b1 : α1 → Nat}
    {R2 : World → α2 → List Value → Prop} {g2 s2 : α2 → Prop} {b2 : α2 → Nat}
    {R3 : World → α3 → List Value → Prop} {g3 s3 : α3 → Prop} {b3 : α3 → Nat}
    {R4 : World → α4 → List Value → Prop} {g4 s4 : α4 → Prop} {b4 : α4 → Nat}
    {R5 : World → α5 → List Value → Prop} {g5 s5 : α5 → Prop} {b5 : α5 → Nat}
    {R6 : World → α6 → List Value → Prop} {g6 s6 : α6 → Prop} {b6 : α6 → Nat}
    (hs : Tryd.prog.underlying t = some (.struct #[f0, f1, f2, f3, f4, f5, f6])) (hc : Tryd.prog.cellsOf t = n0 + n1 + n2 + n3 + n4 + n5 + n6)
    (hn0 : Tryd.prog.cellsOf f0.type = n0) (ho0 : f0.offset = 0) (h0 : Opened f0.type R0 g0 s0 b0)
    (hn1 : Tryd.prog.cellsOf f1.type = n1) (ho1 : f1.offset = n0) (h1 : Opened f1.type R1 g1 s1 b1)
    (hn2 : Tryd.prog.cellsOf f2.type = n2) (ho2 : f2.offset = n0 + n1) (h2 : Opened f2.type R2 g2 s2 b2)
    (hn3 : Tryd.prog.cellsOf f3.type = n3) (ho3 : f3.offset = n0 + n1 + n2) (h3 : Opened f3.type R3 g3 s3 b3)
    (hn4 : Tryd.prog.cellsOf f4.type = n4) (ho4 : f4.offset = n0 + n1 + n2 + n3) (h4 : Opened f4.type R4 g4 s4 b4)
    (hn5 : Tryd.prog.cellsOf f5.type = n5) (ho5 : f5.offset = n0 + n1 + n2 + n3 + n4) (h5 : Opened f5.type R5 g5 s5 b5)
    (hn6 : Tryd.prog.cellsOf f6.type = n6) (ho6 : f6.offset = n0 + n1 + n2 + n3 + n4 + n5) (h6 : Opened f6.type R6 g6 s6 b6)
    : Opened t (fun W (a : α0 × α1 × α2 × α3 × α4 × α5 × α6) cs => ∃ c0 c1 c2 c3 c4 c5 c6, cs = c0 ++ (c1 ++ (c2 ++ (c3 ++ (c4 ++ (c5 ++ (c6)))))) ∧ R0 W a.1 c0 ∧ R1 W a.2.1 c1 ∧ R2 W a.2.2.1 c2 ∧ R3 W a.2.2.2.1 c3 ∧ R4 W a.2.2.2.2.1 c4 ∧ R5 W a.2.2.2.2.2.1 c5 ∧ R6 W a.2.2.2.2.2.2 c6) (fun a => g0 a.1 ∧ g1 a.2.1 ∧ g2 a.2.2.1 ∧ g3 a.2.2.2.1 ∧ g4 a.2.2.2.2.1 ∧ g5 a.2.2.2.2.2.1 ∧ g6 a.2.2.2.2.2.2) (fun a => s0 a.1 ∧ s1 a.2.1 ∧ s2 a.2.2.1 ∧ s3 a.2.2.2.1 ∧ s4 a.2.2.2.2.1 ∧ s5 a.2.2.2.2.2.1 ∧ s6 a.2.2.2.2.2.2) (fun a => b0 a.1 + b1 a.2.1 + b2 a.2.2.1 + b3 a.2.2.2.1 + b4 a.2.2.2.2.1 + b5 a.2.2.2.2.2.1 + b6 a.2.2.2.2.2.2) := by
  constructor
  intro H enc W fuel cs y hy
  obtain ⟨xs, m, rfl, rfl, hl, hx, hf⟩ := DataW.trod_struct hs hy
  obtain ⟨x0, x1, x2, x3, x4, x5, x6, rfl⟩ : ∃ x0 x1 x2 x3 x4 x5 x6, xs = [x0, x1, x2, x3, x4, x5, x6] := by
    match xs, hx with
    | [x0, x1, x2, x3, x4, x5, x6], _ => exact ⟨x0, x1, x2, x3, x4, x5, x6, rfl⟩
  have e0 := hf 0 f0 rfl
  rw [hn0, ho0] at e0
  obtain ⟨a0, r0, k0, z0, u0⟩ := h0.out enc W m _ _ (e0.trans rfl)
  have e1 := hf 1 f1 rfl
  rw [hn1, ho1] at e1
  obtain ⟨a1, r1, k1, z1, u1⟩ := h1.out enc W m _ _ (e1.trans rfl)
  have e2 := hf 2 f2 rfl
  rw [hn2, ho2] at e2
  obtain ⟨a2, r2, k2, z2, u2⟩ := h2.out enc W m _ _ (e2.trans rfl)
  have e3 := hf 3 f3 rfl
  rw [hn3, ho3] at e3
  obtain ⟨a3, r3, k3, z3, u3⟩ := h3.out enc W m _ _ (e3.trans rfl)
  have e4 := hf 4 f4 rfl
  rw [hn4, ho4] at e4
  obtain ⟨a4, r4, k4, z4, u4⟩ := h4.out enc W m _ _ (e4.trans rfl)
  have e5 := hf 5 f5 rfl
  rw [hn5, ho5] at e5
  obtain ⟨a5, r5, k5, z5, u5⟩ := h5.out enc W m _ _ (e5.trans rfl)
  have e6 := hf 6 f6 rfl
  rw [hn6, ho6] at e6
  obtain ⟨a6, r6, k6, z6, u6⟩ := h6.out enc W m _ _ (e6.trans rfl)
  rw [hc] at hl
  refine ⟨(a0, a1, a2, a3, a4, a5, a6), ⟨_, _, _, _, _, _, _, ?_, r0, r1, r2, r3, r4, r5, r6⟩, ⟨k0, k1, k2, k3, k4, k5, k6⟩, fun hw => ?_, ?_⟩
  · exact cells_split7 hl
  · have hw' : ∀ n ∈ DataW.weightsEach Tryd.prog [f0.type, f1.type, f2.type, f3.type, f4.type, f5.type, f6.type] [x0.1, x1.1, x2.1, x3.1, x4.1, x5.1, x6.1], n ≤ reachBytes := fun n hn => hw n (by simp only [DataW.weights, hs]; exact hn)
    exact ⟨z0 fun n hn => hw' n (DataW.weights_mem_each (j := 0) rfl rfl n hn), z1 fun n hn => hw' n (DataW.weights_mem_each (j := 1) rfl rfl n hn), z2 fun n hn => hw' n (DataW.weights_mem_each (j := 2) rfl rfl n hn), z3 fun n hn => hw' n (DataW.weights_mem_each (j := 3) rfl rfl n hn), z4 fun n hn => hw' n (DataW.weights_mem_each (j := 4) rfl rfl n hn), z5 fun n hn => hw' n (DataW.weights_mem_each (j := 5) rfl rfl n hn), z6 fun n hn => hw' n (DataW.weights_mem_each (j := 6) rfl rfl n hn)⟩
  · simp only [Rows.uptoBulk, Rows.uptoBulkAll, List.map]
    omega

theorem cells_split8 {β : Type} {cs : List β} {n0 n1 n2 n3 n4 n5 n6 n7 : Nat} (h : cs.length = n0 + n1 + n2 + n3 + n4 + n5 + n6 + n7) : cs = (cs.drop (0)).take n0 ++ ((cs.drop (n0)).take n1 ++ ((cs.drop (n0 + n1)).take n2 ++ ((cs.drop (n0 + n1 + n2)).take n3 ++ ((cs.drop (n0 + n1 + n2 + n3)).take n4 ++ ((cs.drop (n0 + n1 + n2 + n3 + n4)).take n5 ++ ((cs.drop (n0 + n1 + n2 + n3 + n4 + n5)).take n6 ++ ((cs.drop (n0 + n1 + n2 + n3 + n4 + n5 + n6)).take n7))))))) := by
  have p0 := drop_split cs (0) n0
  rw [Nat.zero_add] at p0
  have p1 := drop_split cs (n0) n1
  have p2 := drop_split cs (n0 + n1) n2
  have p3 := drop_split cs (n0 + n1 + n2) n3
  have p4 := drop_split cs (n0 + n1 + n2 + n3) n4
  have p5 := drop_split cs (n0 + n1 + n2 + n3 + n4) n5
  have p6 := drop_split cs (n0 + n1 + n2 + n3 + n4 + n5) n6
  have q : (cs.drop (n0 + n1 + n2 + n3 + n4 + n5 + n6)).take n7 = cs.drop (n0 + n1 + n2 + n3 + n4 + n5 + n6) := List.take_of_length_le (by rw [List.length_drop]; omega)
  rw [q]
  rw [← p6]
  rw [← p5]
  rw [← p4]
  rw [← p3]
  rw [← p2]
  rw [← p1]
  rw [← p0]
  rfl
theorem opened_struct8 {α0 α1 α2 α3 α4 α5 α6 α7 : Type} {t : TypeId} {f0 f1 f2 f3 f4 f5 f6 f7 : Field} {n0 n1 n2 n3 n4 n5 n6 n7 : Nat}
    {R0 : World → α0 → List Value → Prop} {g0 s0 : α0 → Prop} {b0 : α0 → Nat}
    {R1 : World → α1 → List Value → Prop} {g1 s1 : α1 → Prop} {b1 : α1 → Nat}
    {R2 : World → α2 → List Value → Prop} {g2 s2 : α2 → Prop} {b2 : α2 → Nat}
    {R3 : World → α3 → List Value → Prop} {g3 s3 : α3 → Prop} {b3 : α3 → Nat}
    {R4 : World → α4 → List Value → Prop} {g4 s4 : α4 → Prop} {b4 : α4 → Nat}
    {R5 : World → α5 → List Value → Prop} {g5 s5 : α5 → Prop} {b5 : α5 → Nat}
    {R6 : World → α6 → List Value → Prop} {g6 s6 : α6 → Prop} {b6 : α6 → Nat}
    {R7 : World → α7 → List Value → Prop} {g7 s7 : α7 → Prop} {b7 : α7 → Nat}
    (hs : Tryd.prog.underlying t = some (.struct #[f0, f1, f2, f3, f4, f5, f6, f7])) (hc : Tryd.prog.cellsOf t = n0 + n1 + n2 + n3 + n4 + n5 + n6 + n7)
    (hn0 : Tryd.prog.cellsOf f0.type = n0) (ho0 : f0.offset = 0) (h0 : Opened f0.type R0 g0 s0 b0)
    (hn1 : Tryd.prog.cellsOf f1.type = n1) (ho1 : f1.offset = n0) (h1 : Opened f1.type R1 g1 s1 b1)
    (hn2 : Tryd.prog.cellsOf f2.type = n2) (ho2 : f2.offset = n0 + n1) (h2 : Opened f2.type R2 g2 s2 b2)
    (hn3 : Tryd.prog.cellsOf f3.type = n3) (ho3 : f3.offset = n0 + n1 + n2) (h3 : Opened f3.type R3 g3 s3 b3)
    (hn4 : Tryd.prog.cellsOf f4.type = n4) (ho4 : f4.offset = n0 + n1 + n2 + n3) (h4 : Opened f4.type R4 g4 s4 b4)
    (hn5 : Tryd.prog.cellsOf f5.type = n5) (ho5 : f5.offset = n0 + n1 + n2 + n3 + n4) (h5 : Opened f5.type R5 g5 s5 b5)
    (hn6 : Tryd.prog.cellsOf f6.type = n6) (ho6 : f6.offset = n0 + n1 + n2 + n3 + n4 + n5) (h6 : Opened f6.type R6 g6 s6 b6)
    (hn7 : Tryd.prog.cellsOf f7.type = n7) (ho7 : f7.offset = n0 + n1 + n2 + n3 + n4 + n5 + n6) (h7 : Opened f7.type R7 g7 s7 b7)
    : Opened t (fun W (a : α0 × α1 × α2 × α3 × α4 × α5 × α6 × α7) cs => ∃ c0 c1 c2 c3 c4 c5 c6 c7, cs = c0 ++ (c1 ++ (c2 ++ (c3 ++ (c4 ++ (c5 ++ (c6 ++ (c7))))))) ∧ R0 W a.1 c0 ∧ R1 W a.2.1 c1 ∧ R2 W a.2.2.1 c2 ∧ R3 W a.2.2.2.1 c3 ∧ R4 W a.2.2.2.2.1 c4 ∧ R5 W a.2.2.2.2.2.1 c5 ∧ R6 W a.2.2.2.2.2.2.1 c6 ∧ R7 W a.2.2.2.2.2.2.2 c7) (fun a => g0 a.1 ∧ g1 a.2.1 ∧ g2 a.2.2.1 ∧ g3 a.2.2.2.1 ∧ g4 a.2.2.2.2.1 ∧ g5 a.2.2.2.2.2.1 ∧ g6 a.2.2.2.2.2.2.1 ∧ g7 a.2.2.2.2.2.2.2) (fun a => s0 a.1 ∧ s1 a.2.1 ∧ s2 a.2.2.1 ∧ s3 a.2.2.2.1 ∧ s4 a.2.2.2.2.1 ∧ s5 a.2.2.2.2.2.1 ∧ s6 a.2.2.2.2.2.2.1 ∧ s7 a.2.2.2.2.2.2.2) (fun a => b0 a.1 + b1 a.2.1 + b2 a.2.2.1 + b3 a.2.2.2.1 + b4 a.2.2.2.2.1 + b5 a.2.2.2.2.2.1 + b6 a.2.2.2.2.2.2.1 + b7 a.2.2.2.2.2.2.2) := by
  constructor
  intro H enc W fuel cs y hy
  obtain ⟨xs, m, rfl, rfl, hl, hx, hf⟩ := DataW.trod_struct hs hy
  obtain ⟨x0, x1, x2, x3, x4, x5, x6, x7, rfl⟩ : ∃ x0 x1 x2 x3 x4 x5 x6 x7, xs = [x0, x1, x2, x3, x4, x5, x6, x7] := by
    match xs, hx with
    | [x0, x1, x2, x3, x4, x5, x6, x7], _ => exact ⟨x0, x1, x2, x3, x4, x5, x6, x7, rfl⟩
  have e0 := hf 0 f0 rfl
  rw [hn0, ho0] at e0
  obtain ⟨a0, r0, k0, z0, u0⟩ := h0.out enc W m _ _ (e0.trans rfl)
  have e1 := hf 1 f1 rfl
  rw [hn1, ho1] at e1
  obtain ⟨a1, r1, k1, z1, u1⟩ := h1.out enc W m _ _ (e1.trans rfl)
  have e2 := hf 2 f2 rfl
  rw [hn2, ho2] at e2
  obtain ⟨a2, r2, k2, z2, u2⟩ := h2.out enc W m _ _ (e2.trans rfl)
  have e3 := hf 3 f3 rfl
  rw [hn3, ho3] at e3
  obtain ⟨a3, r3, k3, z3, u3⟩ := h3.out enc W m _ _ (e3.trans rfl)
  have e4 := hf 4 f4 rfl
  rw [hn4, ho4] at e4
  obtain ⟨a4, r4, k4, z4, u4⟩ := h4.out enc W m _ _ (e4.trans rfl)
  have e5 := hf 5 f5 rfl
  rw [hn5, ho5] at e5
  obtain ⟨a5, r5, k5, z5, u5⟩ := h5.out enc W m _ _ (e5.trans rfl)
  have e6 := hf 6 f6 rfl
  rw [hn6, ho6] at e6
  obtain ⟨a6, r6, k6, z6, u6⟩ := h6.out enc W m _ _ (e6.trans rfl)
  have e7 := hf 7 f7 rfl
  rw [hn7, ho7] at e7
  obtain ⟨a7, r7, k7, z7, u7⟩ := h7.out enc W m _ _ (e7.trans rfl)
  rw [hc] at hl
  refine ⟨(a0, a1, a2, a3, a4, a5, a6, a7), ⟨_, _, _, _, _, _, _, _, ?_, r0, r1, r2, r3, r4, r5, r6, r7⟩, ⟨k0, k1, k2, k3, k4, k5, k6, k7⟩, fun hw => ?_, ?_⟩
  · exact cells_split8 hl
  · have hw' : ∀ n ∈ DataW.weightsEach Tryd.prog [f0.type, f1.type, f2.type, f3.type, f4.type, f5.type, f6.type, f7.type] [x0.1, x1.1, x2.1, x3.1, x4.1, x5.1, x6.1, x7.1], n ≤ reachBytes := fun n hn => hw n (by simp only [DataW.weights, hs]; exact hn)
    exact ⟨z0 fun n hn => hw' n (DataW.weights_mem_each (j := 0) rfl rfl n hn), z1 fun n hn => hw' n (DataW.weights_mem_each (j := 1) rfl rfl n hn), z2 fun n hn => hw' n (DataW.weights_mem_each (j := 2) rfl rfl n hn), z3 fun n hn => hw' n (DataW.weights_mem_each (j := 3) rfl rfl n hn), z4 fun n hn => hw' n (DataW.weights_mem_each (j := 4) rfl rfl n hn), z5 fun n hn => hw' n (DataW.weights_mem_each (j := 5) rfl rfl n hn), z6 fun n hn => hw' n (DataW.weights_mem_each (j := 6) rfl rfl n hn), z7 fun n hn => hw' n (DataW.weights_mem_each (j := 7) rfl rfl n hn)⟩
  · simp only [Rows.uptoBulk, Rows.uptoBulkAll, List.map]
    omega

end Go.Proofs.YtmpbhbbgnmkpgaaDoor.F
namespace Go.Proofs.YtmpbhbbgnmkpgaaDoor.F
open Go.RowKit Go.Proofs.YtmpbhbbgnmkpgaaDoorW.PrintWords Go.Proofs.YtmpbhbbgnmkpgaaDoorW.PrintLast Go.Proofs.YtmpbhbbgnmkpgaaDoorW.PrintMore
set_option linter.unusedVariables false
set_option linter.unusedSimpArgs false
theorem g_widths : Tryd.prog.globalNamed "interchange/num.widths" = some 1 := by kernel_rfl
theorem g_widths_type : (Tryd.prog.globals[1]?).map (·.type) = some 67 := by kernel_rfl
theorem cells_widths : Tryd.prog.cellsOf 67 = 4 := by kernel_rfl
theorem cells_int : Tryd.prog.cellsOf 3 = 1 := by kernel_rfl
theorem table_widths {W : World} (h : laidMetH Tryd.prog [("interchange/num.widths", Rows.laid_interchange_num_widths)] W) : Lib.TabIs Tryd.prog W "interchange/num.widths" .i64 [1, 2, 4, 8] :=
  Lib.tabIs_of_head (rest := []) g_widths g_widths_type Tryd.underlying67 Tryd.underlying3 cells_int cells_widths h
theorem laid_of {W : World} (h : laidMetH Tryd.prog [("interchange/num.widths", Rows.laid_interchange_num_widths)] W) : Laid W :=
  ⟨(table_widths h).cell g_widths 0 (by decide), (table_widths h).cell g_widths 1 (by decide), (table_widths h).cell g_widths 2 (by decide), (table_widths h).cell g_widths 3 (by decide)⟩
noncomputable def laid_world (os : Os) : World :=
  { World.holding Tryd.prog os ⟨#[], #[], []⟩ with heap := (World.holding Tryd.prog os ⟨#[], #[], []⟩).heap.modify 1 fun
      | .cells _ t frozen => .cells #[.int .i64 1, .int .i64 2, .int .i64 4, .int .i64 8] t frozen
      | o => o }
end Go.Proofs.YtmpbhbbgnmkpgaaDoor.F
namespace Go.Proofs.YtmpbhbbgnmkpgaaDoor.F
open Go.RowKit Go.Proofs.YtmpbhbbgnmkpgaaDoorW.PrintWords Go.Proofs.YtmpbhbbgnmkpgaaDoorW.PrintLast Go.Proofs.YtmpbhbbgnmkpgaaDoorW.PrintMore
set_option linter.unusedVariables false
set_option linter.unusedSimpArgs false

theorem snoc_ind {α : Type} {P : List α → Prop} (h0 : P []) (h1 : ∀ l a, P l → P (l ++ [a])) (l : List α) : P l := by
  have h : ∀ l : List α, P l.reverse := by
    intro l
    induction l with
    | nil => exact h0
    | cons a l ih => rw [List.reverse_cons]; exact h1 _ _ ih
  have := h l.reverse
  rwa [List.reverse_reverse] at this
/-- n bytes of v. -/
def be : Nat → Nat → List UInt8
  | 0, _ => []
  | n + 1, v => be n (v / 256) ++ [UInt8.ofNat (v % 256)]
/-- The number of bytes. -/
def beNum (l : List UInt8) : Nat := l.foldl (fun a b => a * 256 + b.toNat) 0
def toBA (l : List UInt8) : ByteArray := ⟨l.toArray⟩
theorem toBA_toList (l : List UInt8) : (toBA l).toList = l := by simp [toBA, ByteArray.toList_eq]
theorem toBA_size (l : List UInt8) : (toBA l).size = l.length := by simp [toBA, ByteArray.size]
theorem toBA_data (l : List UInt8) : (toBA l).data = l.toArray := rfl

theorem toBA_append (a b : List UInt8) : toBA a ++ toBA b = toBA (a ++ b) := by
  apply ByteArray.ext
  simp [toBA]
theorem toBA_of (s : ByteArray) : s = toBA s.data.toList := by simp [toBA]
theorem strOfNums_toBA (xs : List Int) : strOfNums xs = toBA (xs.map fun n => UInt8.ofNat n.toNat) := rfl
theorem toBA_nil : (⟨#[]⟩ : ByteArray) = toBA [] := rfl
theorem wrapU {x : Int} (h0 : 0 ≤ x) (h1 : x < 18446744073709551616) : IntKind.u64.wrap x = x := by
  simp only [IntKind.wrap, IntKind.signed, show IntKind.u64.bits = 64 from rfl]
  simp
  omega
theorem be_length (n v : Nat) : (be n v).length = n := by
  induction n generalizing v with
  | zero => rfl
  | succ n ih => simp [be, ih]
theorem beNum_snoc (l : List UInt8) (b : UInt8) : beNum (l ++ [b]) = beNum l * 256 + b.toNat := by simp [beNum, List.foldl_append]
theorem beNum_be (n v : Nat) (h : v < 256 ^ n) : beNum (be n v) = v := by
  induction n generalizing v with
  | zero => simp at h; subst h; rfl
  | succ n ih =>
    rw [Nat.pow_succ] at h
    have hd : v / 256 < 256 ^ n := Nat.div_lt_of_lt_mul (by rw [Nat.mul_comm]; exact h)
    simp only [be]
    rw [beNum_snoc, ih _ hd]
    have : (UInt8.ofNat (v % 256)).toNat = v % 256 := by simp
    rw [this]
    omega
theorem beNum_lt (l : List UInt8) : beNum l < 256 ^ l.length := by
  refine snoc_ind (P := fun l => beNum l < 256 ^ l.length) (by simp [beNum]) (fun l b ih => ?_) l
  · rw [beNum_snoc, List.length_append, List.length_singleton, Nat.pow_succ]
    have := b.toNat_lt
    omega
theorem be_beNum (l : List UInt8) : be l.length (beNum l) = l := by
  refine snoc_ind (P := fun l => be l.length (beNum l) = l) rfl (fun l b ih => ?_) l
  · rw [beNum_snoc, List.length_append, List.length_singleton]
    have hb := b.toNat_lt
    simp only [be]
    have h1 : (beNum l * 256 + b.toNat) / 256 = beNum l := by omega
    have h2 : (beNum l * 256 + b.toNat) % 256 = b.toNat := by omega
    rw [h1, h2, ih]
    simp

/-- A number's bytes, and why not. -/
def isW (n : Int) : Prop := n = 1 ∨ n = 2 ∨ n = 4 ∨ n = 8
instance (n : Int) : Decidable (isW n) := by unfold isW; infer_instance
def putR (n v : Int) : ByteArray × Int := if isW n then (if v < 256 ^ n.toNat then (toBA (be n.toNat v.toNat), 0) else (⟨#[]⟩, 4)) else (⟨#[]⟩, 1)
def takeR (s : ByteArray) (n : Int) : Int × ByteArray × Int := if isW n then (if (s.size : Int) < n then (0, ⟨#[]⟩, 2) else ((beNum (s.data.toList.take n.toNat) : Nat), s.extract n.toNat s.size, 0)) else (0, ⟨#[]⟩, 1)
theorem width_isW (n : Int) : num_width.f n = some (decide (isW n)) := by
  unfold num_width.f isW
  by_cases h1 : n = 1 <;> by_cases h2 : n = 2 <;> by_cases h4 : n = 4 <;> by_cases h8 : n = 8 <;> simp [h1, h2, h4, h8]
theorem wrap64_of {x : Int} (h0 : -9223372036854775808 ≤ x) (h1 : x ≤ 9223372036854775807) : wrap64 x = x := by unfold wrap64; omega
theorem w_succ {i : Nat} (h : i < 4611686018427387904) : wrap64 ((i : Int) + 1) = ((i + 1 : Nat) : Int) := by rw [wrap64_of (by omega) (by omega)]; omega
theorem w_half {y : Nat} (h : y < 4611686018427387904) : wrap64 (Int.tdiv (y : Int) 2) = ((y / 2 : Nat) : Int) := by rw [Int.tdiv_eq_ediv_of_nonneg (by omega), wrap64_of (by omega) (by omega)]; omega
theorem m_two (y : Nat) : Int.tmod (y : Int) 2 = ((y % 2 : Nat) : Int) := by rw [Int.tmod_eq_emod_of_nonneg (by omega)]; omega
theorem w_eight {i : Nat} (h : i < 461168601842738790) : wrap64 (8 * (i : Int)) = ((8 * i : Nat) : Int) := by rw [wrap64_of (by omega) (by omega)]; omega
theorem w_add {a b : Nat} (h : a + b < 4611686018427387904) : wrap64 ((a : Int) + (b : Int)) = ((a + b : Nat) : Int) := by rw [wrap64_of (by omega) (by omega)]; omega
theorem w_eighth {i : Nat} (h : i < 4611686018427387904) : wrap64 (Int.tdiv (wrap64 ((i : Int) + 7)) 8) = (((i + 7) / 8 : Nat) : Int) := by
  rw [wrap64_of (x := (i : Int) + 7) (by omega) (by omega), Int.tdiv_eq_ediv_of_nonneg (by omega), wrap64_of (by omega) (by omega)]; omega
end Go.Proofs.YtmpbhbbgnmkpgaaDoor.F
namespace Go.Proofs.YtmpbhbbgnmkpgaaDoor.F
open Go.RowKit Go.Proofs.YtmpbhbbgnmkpgaaDoorW.PrintWords Go.Proofs.YtmpbhbbgnmkpgaaDoorW.PrintLast Go.Proofs.YtmpbhbbgnmkpgaaDoorW.PrintMore
set_option linter.unusedVariables false
set_option linter.unusedSimpArgs false

theorem toBA_list (l : List UInt8) : (toBA l).data.toList = l := rfl
theorem eq_of_list {a b : ByteArray} (h : a.data.toList = b.data.toList) : a = b := by
  rw [toBA_of a, toBA_of b, h]
theorem extract_drop (s : ByteArray) (i : Nat) : s.extract i s.size = toBA (s.data.toList.drop i) :=
  eq_of_list (by rw [Lib.extract_to_end, toBA_list])
theorem extract_take (s : ByteArray) (i : Nat) : s.extract 0 i = toBA (s.data.toList.take i) :=
  eq_of_list (by rw [Lib.extract_data, toBA_list, List.drop_zero, Nat.sub_zero])
theorem empty_size : (⟨#[]⟩ : ByteArray).size = 0 := rfl
theorem append_data (a b : ByteArray) : (a ++ b).data.toList = a.data.toList ++ b.data.toList := by rw [ByteArray.data_append, Array.toList_append]
theorem size_list (s : ByteArray) : s.data.toList.length = s.size := Array.length_toList
theorem size_append (a b : ByteArray) : (a ++ b).size = a.size + b.size := by simp
theorem toList_data (s : ByteArray) : s.toList = s.data.toList := by rw [ByteArray.toList_eq]

theorem take_put {n v : Int} (r : ByteArray) (hn : isW n) (h0 : 0 ≤ v) (hv : v < 256 ^ n.toNat) : takeR (toBA (be n.toNat v.toNat) ++ r) n = (v, r, 0) := by
  unfold takeR
  have hm : 0 ≤ n := by rcases hn with h | h | h | h <;> omega
  obtain ⟨m, rfl⟩ := Int.eq_ofNat_of_zero_le hm
  obtain ⟨w, rfl⟩ := Int.eq_ofNat_of_zero_le h0
  simp only [Int.toNat_natCast] at hv ⊢
  have hw : w < 256 ^ m := by
    have : ((w : Nat) : Int) < ((256 ^ m : Nat) : Int) := by simpa using hv
    omega
  rw [if_pos hn, if_neg (by rw [size_append, toBA_size, be_length]; omega), append_data, toBA_list, extract_drop, append_data, toBA_list]
  have hl := be_length m w
  rw [List.take_append_of_le_length (by omega), List.take_of_length_le (by omega), beNum_be m w hw, List.drop_append_of_le_length (by omega), List.drop_of_length_le (by omega), List.nil_append, ← toBA_of]
theorem put_take {s : ByteArray} {n : Int} (h : (takeR s n).2.2 = 0) : putR n (takeR s n).1 = (toBA (s.data.toList.take n.toNat), 0) ∧ toBA (s.data.toList.take n.toNat) ++ (takeR s n).2.1 = s := by
  unfold takeR at h ⊢
  split at h
  · rename_i hn
    split at h
    · simp at h
    · rename_i hl
      have hm : 0 ≤ n := by rcases hn with h | h | h | h <;> omega
      obtain ⟨m, rfl⟩ := Int.eq_ofNat_of_zero_le hm
      rw [if_pos hn, if_neg hl]
      simp only [Int.toNat_natCast]
      have hlen : (s.data.toList.take m).length = m := by rw [List.length_take, size_list]; omega
      have hlt := beNum_lt (s.data.toList.take m)
      rw [hlen] at hlt
      refine ⟨?_, ?_⟩
      · unfold putR
        rw [if_pos hn, if_pos (by
          have : ((beNum (s.data.toList.take m) : Nat) : Int) < ((256 ^ m : Nat) : Int) := by omega
          simpa using this)]
        simp only [Int.toNat_natCast]
        have := be_beNum (s.data.toList.take m)
        rw [hlen] at this
        rw [this]
      · rw [extract_drop, toBA_append, List.take_append_drop, ← toBA_of]
  · simp at h
theorem put_ok {n v : Int} (h : (putR n v).2 = 0) : isW n ∧ v < 256 ^ n.toNat ∧ (putR n v).1 = toBA (be n.toNat v.toNat) := by
  unfold putR at h ⊢
  split at h
  · rename_i hn
    split at h
    · rename_i hv
      rw [if_pos hn, if_pos hv]
      exact ⟨hn, hv, rfl⟩
    · simp at h
  · simp at h
theorem take_bound (s : ByteArray) (n : Int) : 0 ≤ (takeR s n).1 ∧ (takeR s n).1 < 18446744073709551616 := by
  unfold takeR
  split
  · rename_i hn
    split
    · simp
    · have h1 := beNum_lt (s.data.toList.take n.toNat)
      have h2 : (s.data.toList.take n.toNat).length ≤ 8 := by
        rw [List.length_take]
        rcases hn with h | h | h | h <;> subst h <;> omega
      have h3 : 256 ^ (s.data.toList.take n.toNat).length ≤ 256 ^ 8 := Nat.pow_le_pow_right (by decide) h2
      simp only
      omega
  · simp
theorem u64_bounds {x : Int} (h : (Lit.int .u64 x).wf = true) : 0 ≤ x ∧ x < 18446744073709551616 := by
  simp [Lit.wf, IntKind.min, IntKind.max, IntKind.signed, show IntKind.u64.bits = 64 from rfl] at h
  omega
theorem i64_bounds {x : Int} (h : (Lit.int .i64 x).wf = true) : -9223372036854775808 ≤ x ∧ x ≤ 9223372036854775807 := by
  simp [Lit.wf, IntKind.min, IntKind.max, IntKind.signed, show IntKind.i64.bits = 64 from rfl] at h
  omega
theorem put_size (n v : Int) : (putR n v).1.size ≤ 8 := by
  unfold putR
  split
  · rename_i hn
    split
    · simp only [toBA_size, be_length]
      rcases hn with h | h | h | h <;> subst h <;> decide
    · exact Nat.zero_le _
  · exact Nat.zero_le _
theorem take_rest (s : ByteArray) (n : Int) : (takeR s n).2.1.size ≤ s.size := by
  unfold takeR
  split
  · split
    · exact Nat.zero_le _
    · simp only [extract_drop, toBA_size, List.length_drop, size_list]; omega
  · exact Nat.zero_le _
end Go.Proofs.YtmpbhbbgnmkpgaaDoor.F
namespace Go.Proofs.YtmpbhbbgnmkpgaaDoor.F
open Go.RowKit Go.Proofs.YtmpbhbbgnmkpgaaDoorW.PrintWords Go.Proofs.YtmpbhbbgnmkpgaaDoorW.PrintLast Go.Proofs.YtmpbhbbgnmkpgaaDoorW.PrintMore
set_option linter.unusedVariables false
set_option linter.unusedSimpArgs false

def layR (n : Int) (s : ByteArray) : ByteArray × Int := if (putR n s.size).2 = 0 then ((putR n s.size).1 ++ s, 0) else (⟨#[]⟩, (putR n s.size).2)
def ltakeR (n : Int) (s : ByteArray) : ByteArray × ByteArray × Int :=
  if (takeR s n).2.2 = 0 then (if (takeR s n).1 ≤ ((takeR s n).2.1.size : Int) then ((takeR s n).2.1.extract 0 (takeR s n).1.toNat, (takeR s n).2.1.extract (takeR s n).1.toNat (takeR s n).2.1.size, 0) else (⟨#[]⟩, ⟨#[]⟩, 2)) else (⟨#[]⟩, ⟨#[]⟩, (takeR s n).2.2)
theorem tup3 {α β γ : Type} {T : α × β × γ} {a : α} {b : β} {c : γ} (h : T = (a, b, c)) : T.1 = a ∧ T.2.1 = b ∧ T.2.2 = c := by subst h; exact ⟨rfl, rfl, rfl⟩
theorem app_empty (a : ByteArray) : a ++ ⟨#[]⟩ = a := eq_of_list (by rw [append_data]; simp)
theorem app_assoc (a b c : ByteArray) : a ++ b ++ c = a ++ (b ++ c) := eq_of_list (by simp only [append_data, List.append_assoc])
theorem extract_app_left (a b : ByteArray) : (a ++ b).extract 0 a.size = a := by
  rw [extract_take, append_data, ← size_list, List.take_append_of_le_length (Nat.le_refl _), List.take_of_length_le (Nat.le_refl _), ← toBA_of]
theorem extract_app_right (a b : ByteArray) : (a ++ b).extract a.size (a ++ b).size = b := by
  rw [extract_drop, append_data, ← size_list, List.drop_append_of_le_length (Nat.le_refl _), List.drop_of_length_le (Nat.le_refl _), List.nil_append, ← toBA_of]
theorem extract_join (a : ByteArray) (n : Nat) (h : n ≤ a.size) : a.extract 0 n ++ a.extract n a.size = a := by
  rw [extract_take, extract_drop, toBA_append, List.take_append_drop, ← toBA_of]
theorem extract_size (a : ByteArray) (n : Nat) (h : n ≤ a.size) : (a.extract 0 n).size = n := by
  rw [extract_take, toBA_size, List.length_take, size_list]; omega
theorem extract_size' (a : ByteArray) (n : Nat) : (a.extract n a.size).size = a.size - n := by
  rw [extract_drop, toBA_size, List.length_drop, size_list]
theorem lay_take {n : Int} {s : ByteArray} (more : ByteArray) (h : (layR n s).2 = 0) : ltakeR n ((layR n s).1 ++ more) = (s, more, 0) := by
  unfold layR at h ⊢
  by_cases e : (putR n s.size).2 = 0
  · rw [if_pos e]
    obtain ⟨hw, hv, hp⟩ := put_ok e
    have ht := take_put (s ++ more) hw (by omega) hv
    simp only
    rw [hp, app_assoc]
    unfold ltakeR
    rw [ht]
    simp only
    rw [if_pos trivial, if_pos (by rw [size_append]; omega), Int.toNat_natCast, extract_app_left, extract_app_right]
  · rw [if_neg e] at h
    exact absurd h e
theorem take_lay {n : Int} {t : ByteArray} (h : (ltakeR n t).2.2 = 0) : (layR n (ltakeR n t).1).2 = 0 ∧ (layR n (ltakeR n t).1).1 ++ (ltakeR n t).2.1 = t := by
  by_cases e : (takeR t n).2.2 = 0
  · by_cases l : (takeR t n).1 ≤ ((takeR t n).2.1.size : Int)
    · obtain ⟨h1, h2⟩ := put_take e
      have hb := (take_bound t n).1
      have hlt : ltakeR n t = ((takeR t n).2.1.extract 0 (takeR t n).1.toNat, (takeR t n).2.1.extract (takeR t n).1.toNat (takeR t n).2.1.size, 0) := by
        unfold ltakeR; rw [if_pos e, if_pos l]
      rw [hlt]
      simp only
      have hs : (((takeR t n).2.1.extract 0 (takeR t n).1.toNat).size : Int) = (takeR t n).1 := by rw [extract_size _ _ (by omega)]; omega
      unfold layR
      rw [hs, h1]
      simp only
      rw [if_pos trivial]
      simp only
      refine ⟨trivial, ?_⟩
      rw [app_assoc, extract_join _ _ (by omega), h2]
    · unfold ltakeR at h
      rw [if_pos e, if_neg l] at h
      exact absurd h (by decide)
  · unfold ltakeR at h
    rw [if_neg e] at h
    exact absurd h e
theorem lay_ok {n : Int} {s : ByteArray} (hn : isW n) (hs : (s.size : Int) < 256 ^ n.toNat) : layR n s = (toBA (be n.toNat s.size) ++ s, 0) := by
  have hp : putR n s.size = (toBA (be n.toNat s.size), 0) := by
    unfold putR; rw [if_pos hn, if_pos hs, Int.toNat_natCast]
  unfold layR
  rw [hp]
  rfl
theorem lay_bad {n : Int} {s : ByteArray} (hn : isW n) (hs : ¬ (s.size : Int) < 256 ^ n.toNat) : layR n s = (⟨#[]⟩, 4) := by
  have hp : putR n s.size = (⟨#[]⟩, 4) := by
    unfold putR; rw [if_pos hn, if_neg hs]
  unfold layR
  rw [hp]
  rfl
theorem isW1 : isW 1 := .inl rfl
theorem isW4 : isW 4 := .inr (.inr (.inl rfl))
theorem short_ok {s : ByteArray} (h : s.size ≤ 255) : layR 1 s = (toBA (be 1 s.size) ++ s, 0) := lay_ok isW1 (by show (s.size : Int) < 256; omega)
theorem short_bad {s : ByteArray} (h : ¬ s.size ≤ 255) : layR 1 s = (⟨#[]⟩, 4) := lay_bad isW1 (by show ¬ (s.size : Int) < 256; omega)
theorem long_ok {s : ByteArray} (h : s.size ≤ 4294967295) : layR 4 s = (toBA (be 4 s.size) ++ s, 0) := lay_ok isW4 (by show (s.size : Int) < 4294967296; omega)
theorem long_bad {s : ByteArray} (h : ¬ s.size ≤ 4294967295) : layR 4 s = (⟨#[]⟩, 4) := lay_bad isW4 (by show ¬ (s.size : Int) < 4294967296; omega)
theorem short_iff (s : ByteArray) : (layR 1 s).2 = 0 ↔ s.size ≤ 255 := by
  by_cases h : s.size ≤ 255
  · rw [short_ok h]; simp [h]
  · rw [short_bad h]; simp [h]
theorem long_zero {s : ByteArray} (h : s.size ≤ 4294967295) : (layR 4 s).2 = 0 := by rw [long_ok h]
theorem short_size {s : ByteArray} (h : s.size ≤ 255) : (layR 1 s).1.size = s.size + 1 := by rw [short_ok h, size_append, toBA_size, be_length]; omega
theorem long_size {s : ByteArray} (h : s.size ≤ 4294967295) : (layR 4 s).1.size = s.size + 4 := by rw [long_ok h, size_append, toBA_size, be_length]; omega
theorem lay_size (n : Int) (s : ByteArray) : (layR n s).1.size ≤ s.size + 8 := by
  unfold layR
  split
  · have := put_size n s.size
    rw [size_append]; omega
  · exact Nat.zero_le _
theorem ltake_size (n : Int) (t : ByteArray) : (ltakeR n t).1.size ≤ t.size ∧ (ltakeR n t).2.1.size ≤ t.size := by
  have h := take_rest t n
  have hb := (take_bound t n).1
  unfold ltakeR
  split
  · split
    · simp only
      rw [extract_size _ _ (by omega), extract_size']
      omega
    · exact ⟨Nat.zero_le _, Nat.zero_le _⟩
  · exact ⟨Nat.zero_le _, Nat.zero_le _⟩
end Go.Proofs.YtmpbhbbgnmkpgaaDoor.F
namespace Go.Proofs.YtmpbhbbgnmkpgaaDoor.F
open Go.RowKit Go.Proofs.YtmpbhbbgnmkpgaaDoorW.PrintWords Go.Proofs.YtmpbhbbgnmkpgaaDoorW.PrintLast Go.Proofs.YtmpbhbbgnmkpgaaDoorW.PrintMore
set_option linter.unusedVariables false
set_option linter.unusedSimpArgs false

set_option maxHeartbeats 1000000 in
theorem put_at (a0 a1 : Int) (h0 : 0 ≤ a1) (h1 : a1 < 18446744073709551616) : num_Put.f 12 a0 a1 = some (putR a0 a1) := by
  unfold num_Put.f putR
  rw [width_isW]
  simp only [Option.bind_some]
  by_cases hw : isW a0
  · simp only [hw, decide_true, if_true]
    have w : ∀ x : Int, -100 ≤ x → x ≤ 100 → wrap64 x = x := fun x _ _ => wrap64_of (by omega) (by omega)
    obtain ⟨v, rfl⟩ := Int.eq_ofNat_of_zero_le h0
    rcases hw with rfl | rfl | rfl | rfl
    all_goals simp [num_Put.j0, num_Put.l0, shr, w, be, toBA, strOfNums, show IntKind.u64.bits = 64 from rfl]
    all_goals try simp only [Nat.div_div_eq_div_mul, Nat.reduceMul]
    all_goals have e0 : ((v : Int) % 256).toNat = v % 256 := by omega
    all_goals have e1 : ((v : Int) / 256 % 256).toNat = v / 256 % 256 := by omega
    all_goals have e2 : ((v : Int) / 65536 % 256).toNat = v / 65536 % 256 := by omega
    all_goals have e3 : ((v : Int) / 16777216 % 256).toNat = v / 16777216 % 256 := by omega
    all_goals have e4 : ((v : Int) / 4294967296 % 256).toNat = v / 4294967296 % 256 := by omega
    all_goals have e5 : ((v : Int) / 1099511627776 % 256).toNat = v / 1099511627776 % 256 := by omega
    all_goals have e6 : ((v : Int) / 281474976710656 % 256).toNat = v / 281474976710656 % 256 := by omega
    all_goals have e7 : ((v : Int) / 72057594037927936 % 256).toNat = v / 72057594037927936 % 256 := by omega
    all_goals try simp only [e0, e1, e2, e3, e4, e5, e6, e7]
    · by_cases hv : (v : Int) < 256
      · rw [if_pos hv, if_pos (by omega)]
      · rw [if_neg hv, if_neg (by omega)]
    · by_cases hv : (v : Int) < 65536
      · rw [if_pos hv, if_pos (by omega)]
      · rw [if_neg hv, if_neg (by omega)]
    · by_cases hv : (v : Int) < 4294967296
      · rw [if_pos hv, if_pos (by omega)]
      · rw [if_neg hv, if_neg (by omega)]
    · rw [if_pos h1]
  · simp [hw]
theorem put_ev (a0 a1 : Int) (h0 : 0 ≤ a1) (h1 : a1 < 18446744073709551616) : Ev (fun k => num_Put.f k a0 a1) (putR a0 a1) := Ev.of (num_Put.mono a0 a1) (put_at a0 a1 h0 h1)
theorem put_k {k : Nat} (hk : 12 ≤ k) (a0 a1 : Int) (h0 : 0 ≤ a1) (h1 : a1 < 18446744073709551616) : num_Put.f k a0 a1 = some (putR a0 a1) := at_rounds (num_Put.mono a0 a1) hk (put_at a0 a1 h0 h1)
end Go.Proofs.YtmpbhbbgnmkpgaaDoor.F
namespace Go.Proofs.YtmpbhbbgnmkpgaaDoor.F
open Go.RowKit Go.Proofs.YtmpbhbbgnmkpgaaDoorW.PrintWords Go.Proofs.YtmpbhbbgnmkpgaaDoorW.PrintLast Go.Proofs.YtmpbhbbgnmkpgaaDoorW.PrintMore
set_option linter.unusedVariables false
set_option linter.unusedSimpArgs false

theorem bt_get (s : ByteArray) (i : Nat) (h : i < s.size) : bt s (i : Int) = ((s.data.toList[i]'(by simpa using h)).toNat : Int) := by
  unfold bt
  simp [h]
  rfl
theorem take_succ_num (s : ByteArray) (i : Nat) (h : i < s.size) : beNum (s.data.toList.take (i + 1)) = beNum (s.data.toList.take i) * 256 + (s.data.toList[i]'(by simpa using h)).toNat := by
  rw [List.take_succ_eq_append_getElem (by simpa using h), beNum_snoc]
theorem or_byte (x b : Nat) (hx : x < 72057594037927936) (hb : b < 256) : Go.bits .or .u64 (IntKind.u64.wrap ((x : Int) * 256)) (IntKind.u64.wrap (b : Int)) = ((x * 256 + b : Nat) : Int) := by
  rw [wrapU (by omega) (by omega), wrapU (by omega) (by omega)]
  have e : (x : Int) * 256 = ((x * 256 : Nat) : Int) := by omega
  rw [e, bits_or_u64_nat _ _ (by omega) (by omega)]
  have h : x * 256 ||| b = x * 256 + b := by
    have := Nat.two_pow_add_eq_or_of_lt (i := 8) (b := b) (by omega) x
    have e8 : 2 ^ 8 * x = x * 256 := by omega
    rw [e8] at this
    exact this.symm
  rw [h]
theorem take_loop (s : ByteArray) (n : Nat) (hn : n ≤ 8) (hs : n ≤ s.size) (d : Nat) : ∀ (k i : Nat), n = i + d → d < k →
    num_Take.l0 k s n ((beNum (s.data.toList.take i) : Nat) : Int) n i = some (((beNum (s.data.toList.take n) : Nat) : Int), s.extract n s.size, 0) := by
  induction d with
  | zero =>
    intro k i hi hk
    obtain ⟨k, rfl⟩ : ∃ m, k = m + 1 := ⟨k - 1, by omega⟩
    obtain rfl : n = i := by omega
    simp only [num_Take.l0]
    rw [if_neg (by omega), if_pos (by omega), if_pos (by omega)]
    simp
  | succ d ih =>
    intro k i hi hk
    obtain ⟨k, rfl⟩ : ∃ m, k = m + 1 := ⟨k - 1, by omega⟩
    simp only [num_Take.l0]
    rw [if_pos (by omega), if_pos (by omega), if_pos (by omega), bt_get s i (by omega)]
    have hx : beNum (s.data.toList.take i) < 72057594037927936 := by
      have h1 := beNum_lt (s.data.toList.take i)
      have h2 : (s.data.toList.take i).length ≤ 7 := by rw [List.length_take]; omega
      have h3 : 256 ^ (s.data.toList.take i).length ≤ 256 ^ 7 := Nat.pow_le_pow_right (by decide) h2
      omega
    rw [or_byte _ _ hx (UInt8.toNat_lt _), ← take_succ_num s i (by omega)]
    have e3 : wrap64 ((i : Int) + 1) = ((i + 1 : Nat) : Int) := by rw [wrap64_of (by omega) (by omega)]; omega
    rw [e3]
    exact ih k (i + 1) (by omega) (by omega)
theorem take_at (s : ByteArray) (n : Int) : num_Take.f 10 s n = some (takeR s n) := by
  unfold num_Take.f takeR
  rw [width_isW]
  simp only [Option.bind_some]
  by_cases hw : isW n
  · simp only [hw, decide_true, if_true]
    by_cases hl : (s.size : Int) < n
    · rw [if_pos hl, if_pos hl]
    · rw [if_neg hl, if_neg hl]
      obtain ⟨m, rfl⟩ : ∃ m : Nat, n = m := ⟨n.toNat, by rcases hw with h | h | h | h <;> omega⟩
      have hm : m ≤ 8 := by rcases hw with h | h | h | h <;> omega
      have := take_loop s m hm (by omega) m 10 0 (by omega) (by omega)
      simpa [beNum] using this
  · simp [hw]
theorem take_ev (s : ByteArray) (n : Int) : Ev (fun k => num_Take.f k s n) (takeR s n) := Ev.of (num_Take.mono s n) (take_at s n)
theorem take_k {k : Nat} (hk : 12 ≤ k) (s : ByteArray) (n : Int) : num_Take.f k s n = some (takeR s n) := at_rounds (num_Take.mono s n) (Nat.le_trans (by decide) hk) (take_at s n)
end Go.Proofs.YtmpbhbbgnmkpgaaDoor.F
namespace Go.Proofs.YtmpbhbbgnmkpgaaDoor.F
open Go.RowKit Go.Proofs.YtmpbhbbgnmkpgaaDoorW.PrintWords Go.Proofs.YtmpbhbbgnmkpgaaDoorW.PrintLast Go.Proofs.YtmpbhbbgnmkpgaaDoorW.PrintMore
set_option linter.unusedVariables false
set_option linter.unusedSimpArgs false

theorem tlay_k {k : Nat} (hk : 12 ≤ k) (n : Int) (s : ByteArray) (hz : s.size ≤ 4611686018427387904) : text_kind_lay.f k n s = some (layR n s) := by
  unfold text_kind_lay.f layR
  rw [wrapU (by omega) (by omega), put_k hk n _ (by omega) (by omega), Option.bind_some]
  by_cases e : (putR n s.size).2 = 0
  · have := put_size n s.size
    rw [if_pos e, if_pos e, if_pos (by omega)]
  · rw [if_neg e, if_neg e]
theorem ttake_k {k : Nat} (hk : 12 ≤ k) (n : Int) (s : ByteArray) (hz : s.size ≤ 4611686018427387904) : text_kind_take.f k n s = some (ltakeR n s) := by
  unfold text_kind_take.f ltakeR
  rw [take_k hk, Option.bind_some]
  by_cases e : (takeR s n).2.2 = 0
  · have hr := take_rest s n
    have hb := (take_bound s n).1
    rw [if_pos e, if_pos e]
    unfold num_Skip.f
    rw [wrapU (by omega) (by omega)]
    by_cases l : (takeR s n).1 ≤ ((takeR s n).2.1.size : Int)
    · rw [if_neg (by omega), if_pos (by omega), if_pos l, Option.bind_some, if_pos l]
    · rw [if_pos (by omega), if_neg l]; rfl
  · rw [if_neg e, if_neg e]
theorem short_k {k : Nat} (hk : 12 ≤ k) (s : ByteArray) (hz : s.size ≤ 4611686018427387904) : text_Short.f k s = some (layR 1 s) := tlay_k hk 1 s hz
theorem long_k {k : Nat} (hk : 12 ≤ k) (s : ByteArray) (hz : s.size ≤ 4611686018427387904) : text_Long.f k s = some (layR 4 s) := tlay_k hk 4 s hz
theorem tshort_k {k : Nat} (hk : 12 ≤ k) (s : ByteArray) (hz : s.size ≤ 4611686018427387904) : text_TakeShort.f k s = some (ltakeR 1 s) := ttake_k hk 1 s hz
theorem tlong_k {k : Nat} (hk : 12 ≤ k) (s : ByteArray) (hz : s.size ≤ 4611686018427387904) : text_TakeLong.f k s = some (ltakeR 4 s) := ttake_k hk 4 s hz
end Go.Proofs.YtmpbhbbgnmkpgaaDoor.F
namespace Go.Proofs.YtmpbhbbgnmkpgaaDoor.F
open Go.RowKit Go.Proofs.YtmpbhbbgnmkpgaaDoorW.PrintWords Go.Proofs.YtmpbhbbgnmkpgaaDoorW.PrintLast Go.Proofs.YtmpbhbbgnmkpgaaDoorW.PrintMore
set_option linter.unusedVariables false
set_option linter.unusedSimpArgs false
theorem shown_k {k : Nat} (hk : 12 ≤ k) : interchangelaw02_shown.f k = some true := by
  unfold interchangelaw02_shown.f
  rw [short_k hk _ (by decide), Option.bind_some]
  decide +kernel
end Go.Proofs.YtmpbhbbgnmkpgaaDoor.F
namespace Go.Proofs.YtmpbhbbgnmkpgaaDoor.F
open Go.RowKit Go.Proofs.YtmpbhbbgnmkpgaaDoorW.PrintWords Go.Proofs.YtmpbhbbgnmkpgaaDoorW.PrintLast Go.Proofs.YtmpbhbbgnmkpgaaDoorW.PrintMore
set_option linter.unusedVariables false
set_option linter.unusedSimpArgs false

theorem rput_loop (d : Nat) : ∀ (k i : Nat) (n : Int) (v : Nat) (l : List UInt8), n = i + d → n ≤ 8 → v < 18446744073709551616 → l.length = i → d < k →
    interchangeref01_Put.l0 k n v (toBA l) i = some (if v < 256 ^ d then (toBA (be d v ++ l), 0) else (⟨#[]⟩, 4)) := by
  induction d with
  | zero =>
    intro k i n v l hn _ _ _ hk
    obtain ⟨k, rfl⟩ : ∃ m, k = m + 1 := ⟨k - 1, by omega⟩
    simp only [interchangeref01_Put.l0]
    rw [if_neg (by omega)]
    by_cases hv : (v : Int) > 0
    · rw [if_pos hv, if_neg (by simp; omega)]
    · rw [if_neg hv, if_pos (by simp; omega)]; rfl
  | succ d ih =>
    intro k i n v l hn h8 hv hl hk
    obtain ⟨k, rfl⟩ : ∃ m, k = m + 1 := ⟨k - 1, by omega⟩
    simp only [interchangeref01_Put.l0, Option.bind_some]
    rw [if_pos (by omega), strOfNums_toBA, toBA_append, if_pos (by rw [toBA_size, toBA_size]; simp; omega)]
    have e1 : IntKind.u64.wrap (Int.tdiv (v : Int) 256) = ((v / 256 : Nat) : Int) := by
      rw [Int.tdiv_eq_ediv_of_nonneg (by omega), wrapU (by omega) (by omega)]; omega
    have e2 : (Int.tmod (v : Int) 256 % 256).toNat = v % 256 := by
      rw [Int.tmod_eq_emod_of_nonneg (by omega)]; omega
    have e3 : wrap64 ((i : Int) + 1) = ((i + 1 : Nat) : Int) := by rw [wrap64_of (by omega) (by omega)]; omega
    rw [e1, e3]
    simp only [List.map_cons, List.map_nil, e2]
    rw [ih k (i + 1) n (v / 256) _ (by omega) h8 (by omega) (by simp; omega) (by omega)]
    have hp : v / 256 < 256 ^ d ↔ v < 256 ^ (d + 1) := by
      rw [Nat.pow_succ, Nat.div_lt_iff_lt_mul (by decide)]
    by_cases hq : v < 256 ^ (d + 1)
    · rw [if_pos hq, if_pos (hp.2 hq)]
      simp [be]
    · rw [if_neg hq, if_neg (fun h => hq (hp.1 h))]

theorem rput_flag (k : Nat) (a0 a1 : Int) : interchangeref01_Put.f k a0 a1 = interchangeref01_Put.j0 k a0 a1 (decide (¬ isW a0)) := by
  unfold interchangeref01_Put.f isW
  by_cases h1 : a0 = 1
  · rw [if_pos h1]; simp [h1]
  by_cases h2 : a0 = 2
  · rw [if_neg h1, if_pos h2]; simp [h2]
  by_cases h4 : a0 = 4
  · rw [if_neg h1, if_neg h2, if_pos h4]; simp [h4]
  rw [if_neg h1, if_neg h2, if_neg h4]
  by_cases h8 : a0 = 8
  · simp [h8]
  · have : (a0 != 8) = true := by simp [h8]
    rw [this]
    simp [h1, h2, h4, h8]
theorem rput_at (a0 a1 : Int) (h0 : 0 ≤ a1) (h1 : a1 < 18446744073709551616) : interchangeref01_Put.f 12 a0 a1 = some (putR a0 a1) := by
  rw [rput_flag]
  unfold putR
  simp only [interchangeref01_Put.j0]
  obtain ⟨v, rfl⟩ := Int.eq_ofNat_of_zero_le h0
  by_cases hw : isW a0
  · obtain ⟨m, rfl⟩ : ∃ m : Nat, a0 = m := ⟨a0.toNat, by rcases hw with h | h | h | h <;> omega⟩
    have hm : m ≤ 8 := by rcases hw with h | h | h | h <;> omega
    rw [if_pos hw, if_neg (by simp [hw]), toBA_nil]
    have L := rput_loop m 11 0 m v [] (by omega) (by omega) (by omega) rfl (by omega)
    rw [List.append_nil] at L
    rw [Int.toNat_natCast, Int.toNat_natCast]
    refine L.trans ?_
    by_cases hv : v < 256 ^ m
    · rw [if_pos hv, if_pos (by have : ((v : Nat) : Int) < ((256 ^ m : Nat) : Int) := by omega
                                simpa using this)]
    · rw [if_neg hv, if_neg (fun h => hv (by have : ((v : Nat) : Int) < ((256 ^ m : Nat) : Int) := by simpa using h
                                             omega))]
      rfl
  · rw [if_neg hw, if_pos (by simp [hw])]
theorem rput_ev (a0 a1 : Int) (h0 : 0 ≤ a1) (h1 : a1 < 18446744073709551616) : Ev (fun k => interchangeref01_Put.f k a0 a1) (putR a0 a1) := Ev.of (interchangeref01_Put.mono a0 a1) (rput_at a0 a1 h0 h1)
theorem rput_k {k : Nat} (hk : 12 ≤ k) (a0 a1 : Int) (h0 : 0 ≤ a1) (h1 : a1 < 18446744073709551616) : interchangeref01_Put.f k a0 a1 = some (putR a0 a1) := at_rounds (interchangeref01_Put.mono a0 a1) hk (rput_at a0 a1 h0 h1)
end Go.Proofs.YtmpbhbbgnmkpgaaDoor.F
