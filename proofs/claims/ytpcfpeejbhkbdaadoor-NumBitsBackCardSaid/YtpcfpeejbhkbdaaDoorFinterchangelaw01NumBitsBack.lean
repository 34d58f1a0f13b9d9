-- Printed by this session's program pf.py out of the kit's print.
import Derived.Test.YtpcfpeejbhkbdaaDoorFbase
import Derived.Test.YtpcfpeejbhkbdaaDoorFHbits
import Derived.Test.YtpcfpeejbhkbdaaDoorFHshown01
import Derived.Test.YtpcfpeejbhkbdaaDoorFinterchangeref01Bools
import Derived.Test.YtpcfpeejbhkbdaaDoorFnumTakeBits
namespace Go.Proofs.YtpcfpeejbhkbdaaDoor.F
open Go.RowKit Go.Proofs.YtpcfpeejbhkbdaaDoorW.PrintWords Go.Proofs.YtpcfpeejbhkbdaaDoorW.PrintLast Go.Proofs.YtpcfpeejbhkbdaaDoorW.PrintMore
attribute [local go_sem] max2_int min2_int max_two min_two max_three min_three max_four min_four
set_option linter.unusedVariables false
set_option linter.unusedSimpArgs false

/-! ### interchangelaw01_NumBitsBack: function 9 -/
def interchangelaw01_NumBitsBack.j0 : Nat → ByteArray → Int → Bool → Bool → Option (Bool)
  | 0, _, _, _, _ => none
  | k + 1, x5, x6, x7, x53 => if x53 = true then (some false) else ((num_TakeBits.f k x5 x6).bind fun bt196 => (if x7 = true then (if bt196.2.2 = 0 then ((num_Bits.f bt196.1).bind fun t201 => (if t201.size + bt196.2.1.size ≤ 9223372036854775807 then (if (t201 ++ bt196.2.1).toList = x5.toList then (some ((bt196.1.length : Int) == x6)) else (some false)) else (none))) else (some true)) else (some false)))
def interchangelaw01_NumBitsBack.f (k : Nat) (l0_0 : List Bool) (a0_1 : ByteArray) (a0_2 : ByteArray) (a0_3 : Int) : Option (Bool) := (interchangelaw01_shown.f).bind fun t188 => ((num_Bits.f l0_0).bind fun t189 => (if t189.size + a0_1.size ≤ 9223372036854775807 then ((num_TakeBits.f k (t189 ++ a0_1) (l0_0.length : Int)).bind fun bt190 => ((interchangeref01_Bools.f k bt190.1 l0_0).bind fun t195 => (if (l0_0.length : Int) ≤ 64 then (if bt190.2.2 = 0 then (if t195 = true then (interchangelaw01_NumBitsBack.j0 k a0_2 a0_3 t188 (bt190.2.1.toList != a0_1.toList)) else (interchangelaw01_NumBitsBack.j0 k a0_2 a0_3 t188 true)) else (interchangelaw01_NumBitsBack.j0 k a0_2 a0_3 t188 true)) else (interchangelaw01_NumBitsBack.j0 k a0_2 a0_3 t188 false)))) else (none)))
theorem interchangelaw01_NumBitsBack.mono_l : ∀ k, (∀ y0 y1 y2 y3, LeO (interchangelaw01_NumBitsBack.j0 k y0 y1 y2 y3) (interchangelaw01_NumBitsBack.j0 (k + 1) y0 y1 y2 y3))
  | 0 => fun _ _ _ _ r h => by simp [interchangelaw01_NumBitsBack.j0] at h
  | k + 1 => by
    have ih0 := interchangelaw01_NumBitsBack.mono_l k
    · intro y0 y1 y2 y3
      unfold interchangelaw01_NumBitsBack.j0
      repeat' first
      | (with_reducible exact ih0 _ _ _ _)
      | (with_reducible exact interchangeref01_Bools.mono _ _ _)
      | (with_reducible exact num_TakeBits.mono _ _ _)
      | (with_reducible exact LeO.refl _)
      | (with_reducible exact LeO.none _)
      | (with_reducible refine LeO.ite ?_ ?_)
      | (with_reducible refine LeO.bind ?_ (fun _ => ?_))
      | exact ih0 _ _ _ _
      | exact interchangeref01_Bools.mono _ _ _
      | exact num_TakeBits.mono _ _ _
      | exact LeO.none _
      | refine LeO.ite ?_ ?_
      | refine LeO.bind ?_ (fun _ => ?_)
theorem interchangelaw01_NumBitsBack.mono : ∀ a0 a1 a2 a3 k, LeO (interchangelaw01_NumBitsBack.f k a0 a1 a2 a3) (interchangelaw01_NumBitsBack.f (k + 1) a0 a1 a2 a3) := by
  intro a0 a1 a2 a3 k
  have ih0 := interchangelaw01_NumBitsBack.mono_l k
  unfold interchangelaw01_NumBitsBack.f
  repeat' first
      | (with_reducible exact ih0 _ _ _ _)
      | (with_reducible exact interchangeref01_Bools.mono _ _ _)
      | (with_reducible exact num_TakeBits.mono _ _ _)
      | (with_reducible exact LeO.refl _)
      | (with_reducible exact LeO.none _)
      | (with_reducible refine LeO.ite ?_ ?_)
      | (with_reducible refine LeO.bind ?_ (fun _ => ?_))
      | exact ih0 _ _ _ _
      | exact interchangeref01_Bools.mono _ _ _
      | exact num_TakeBits.mono _ _ _
      | exact LeO.none _
      | refine LeO.ite ?_ ?_
      | refine LeO.bind ?_ (fun _ => ?_)
set_option maxHeartbeats 8000000 in
set_option maxRecDepth 100000 in
theorem interchangelaw01_NumBitsBack.calls (k : Nat) (A0_0 : Option Addr) (c0_0 : Nat) (l0_0 : List Bool) (a0_1 : ByteArray) (a0_2 : ByteArray) (a0_3 : Int) (r : Bool) (w : World) (hg : Laid w) (hr0_0 : Kd.C Kd.bool w A0_0 l0_0.length l0_0) (hc0_0 : l0_0.length ≤ c0_0) (h : interchangelaw01_NumBitsBack.f k l0_0 a0_1 a0_2 a0_3 = some r) :
    Calls Tryd.prog 9 #[.agg #[.slice A0_0 l0_0.length c0_0, .string a0_1, .string a0_2, .int .i64 a0_3]] w fun e w' => e = .returned (.bool r) ∧ Below w.heap.size w w' := by
  have HG := Aside0.mk hg
  clear hg
  have hu48 := Tryd.underlying48
  have HR0_0 := Aside0.mk hr0_0
  have HC0_0 := Aside0.mk hc0_0
  clear hr0_0 hc0_0
  have HB := Aside0.mk (Below.refl w.heap.size w)
  have H : ((interchangelaw01_shown.f).bind fun t188 => ((num_Bits.f l0_0).bind fun t189 => (if t189.size + a0_1.size ≤ 9223372036854775807 then ((num_TakeBits.f k (t189 ++ a0_1) (l0_0.length : Int)).bind fun bt190 => ((interchangeref01_Bools.f k bt190.1 l0_0).bind fun t195 => (if (l0_0.length : Int) ≤ 64 then (if bt190.2.2 = 0 then (if t195 = true then (interchangelaw01_NumBitsBack.j0 k a0_2 a0_3 t188 (bt190.2.1.toList != a0_1.toList)) else (interchangelaw01_NumBitsBack.j0 k a0_2 a0_3 t188 true)) else (interchangelaw01_NumBitsBack.j0 k a0_2 a0_3 t188 true)) else (interchangelaw01_NumBitsBack.j0 k a0_2 a0_3 t188 false)))) else (none)))) = some r := h
  clear h
  replace H := Option.bind_eq_some_iff.mp H
  obtain ⟨t188, A20, H⟩ := H
  replace H : ((num_Bits.f l0_0).bind fun t189 => (if t189.size + a0_1.size ≤ 9223372036854775807 then ((num_TakeBits.f k (t189 ++ a0_1) (l0_0.length : Int)).bind fun bt190 => ((interchangeref01_Bools.f k bt190.1 l0_0).bind fun t195 => (if (l0_0.length : Int) ≤ 64 then (if bt190.2.2 = 0 then (if t195 = true then (interchangelaw01_NumBitsBack.j0 k a0_2 a0_3 t188 (bt190.2.1.toList != a0_1.toList)) else (interchangelaw01_NumBitsBack.j0 k a0_2 a0_3 t188 true)) else (interchangelaw01_NumBitsBack.j0 k a0_2 a0_3 t188 true)) else (interchangelaw01_NumBitsBack.j0 k a0_2 a0_3 t188 false)))) else (none))) = some r := H
  have A2 := Aside0.mk A20
  clear A20
  replace H := Option.bind_eq_some_iff.mp H
  obtain ⟨t189, A30, H⟩ := H
  replace H : (if t189.size + a0_1.size ≤ 9223372036854775807 then ((num_TakeBits.f k (t189 ++ a0_1) (l0_0.length : Int)).bind fun bt190 => ((interchangeref01_Bools.f k bt190.1 l0_0).bind fun t195 => (if (l0_0.length : Int) ≤ 64 then (if bt190.2.2 = 0 then (if t195 = true then (interchangelaw01_NumBitsBack.j0 k a0_2 a0_3 t188 (bt190.2.1.toList != a0_1.toList)) else (interchangelaw01_NumBitsBack.j0 k a0_2 a0_3 t188 true)) else (interchangelaw01_NumBitsBack.j0 k a0_2 a0_3 t188 true)) else (interchangelaw01_NumBitsBack.j0 k a0_2 a0_3 t188 false)))) else (none)) = some r := H
  have A3 := Aside0.mk A30
  clear A30
  by_cases c4 : t189.size + a0_1.size ≤ 9223372036854775807
  · rw [if_pos c4] at H
    have c4b0 := eq_true c4
    have c4b1 : decide (t189.size + a0_1.size ≤ 9223372036854775807) = true := decide_eq_true c4
    try have c4b2 : (9223372036854775807 < t189.size + a0_1.size) = False := eq_false (Nat.not_lt.2 c4)
    replace H := Option.bind_eq_some_iff.mp H
    obtain ⟨⟨t190, t191, t192⟩, A50, H⟩ := H
    replace H : ((interchangeref01_Bools.f k t190 l0_0).bind fun t195 => (if (l0_0.length : Int) ≤ 64 then (if t192 = 0 then (if t195 = true then (interchangelaw01_NumBitsBack.j0 k a0_2 a0_3 t188 (t191.toList != a0_1.toList)) else (interchangelaw01_NumBitsBack.j0 k a0_2 a0_3 t188 true)) else (interchangelaw01_NumBitsBack.j0 k a0_2 a0_3 t188 true)) else (interchangelaw01_NumBitsBack.j0 k a0_2 a0_3 t188 false))) = some r := H
    have A5 := Aside0.mk A50
    clear A50
    replace H := Option.bind_eq_some_iff.mp H
    obtain ⟨t195, A60, H⟩ := H
    replace H : (if (l0_0.length : Int) ≤ 64 then (if t192 = 0 then (if t195 = true then (interchangelaw01_NumBitsBack.j0 k a0_2 a0_3 t188 (t191.toList != a0_1.toList)) else (interchangelaw01_NumBitsBack.j0 k a0_2 a0_3 t188 true)) else (interchangelaw01_NumBitsBack.j0 k a0_2 a0_3 t188 true)) else (interchangelaw01_NumBitsBack.j0 k a0_2 a0_3 t188 false)) = some r := H
    have A6 := Aside0.mk A60
    clear A60
    have HC7 := Aside0.mk H
    clear H
    go_enter Tryd.func9, Tryd.ntmps9
    go_upto_region 8 with (first | ((with_reducible refine gate_dst (N := 1) rfl ?_); refine box_event ?hg (N := 1) ?hd (cs := #[.slice A0_0 l0_0.length c0_0, .string a0_1, .string a0_2, .int .i64 a0_3]) (t := 48) ?hr ?_; (case hd => rfl); (case hg => rfl); (case hr => first | (go_simp; done) | (go_simp; rfl)); intro gb187 hg w8 hbox hb; have n0_ := Aside0.mk (below_step (by repeat (first | (with_reducible first | exact HB.out | apply below_alloc | apply pw_below_drewN | apply below_drew1) | exact HB.out)) hb); have n1_ := Aside0.mk (hbox); have n2_ := Aside0.mk ((by rw [hg]; exact (below_size (by repeat (first | (with_reducible first | exact HB.out | apply below_alloc | apply pw_below_drewN | apply below_drew1) | exact HB.out))) : w.heap.size ≤ gb187)); have n3_ := Aside0.mk ((by rw [hg]; exact (below_size (by repeat (first | (with_reducible first | exact HB.out | apply below_alloc | apply pw_below_drewN | apply below_drew1) | exact HB.out))) : w.heap.size ≤ gb187)); clear HB; have HB := n0_; have BK187 := n1_; have GW187 := n2_; have GE187 := n3_; clear n0_ n1_ n2_ n3_; clear hb hbox hg; have hcz9_0 : w8.cell? ⟨gb187, 0, none⟩ = some (.slice A0_0 l0_0.length c0_0) := (blk_cell BK187.out 0).trans rfl; have hcz9_1 : w8.cell? ⟨gb187, 1, none⟩ = some (.string a0_1) := (blk_cell BK187.out 1).trans rfl; have hcz9_2 : w8.cell? ⟨gb187, 2, none⟩ = some (.string a0_2) := (blk_cell BK187.out 2).trans rfl; have hcz9_3 : w8.cell? ⟨gb187, 3, none⟩ = some (.int .i64 a0_3) := (blk_cell BK187.out 3).trans rfl; have hfz9_0 := blk_frozen BK187.out 0; have hfz9_1 := blk_frozen BK187.out 1; have hfz9_2 := blk_frozen BK187.out 2; have hfz9_3 := blk_frozen BK187.out 3) | ((with_reducible refine gate_callee (f := 11) rfl ?_); refine goesL_ (some 23) rfl rfl Tryd.func11 (by kernel_rfl) rfl #[] rfl (by (try simp only [List.map_toArray, List.map_cons, List.map_nil]); first | done | rfl | (simp only [List.length_drop, List.length_take]; rfl)) ?_; (with_reducible refine (interchangelaw01_shown.calls t188 _ ?lg A2.out).mono ?_); (case lg => exact (HG.out.below (by repeat (first | (with_reducible first | exact HB.out | apply below_alloc | apply pw_below_drewN | apply below_drew1) | exact HB.out)))); rintro e w10 ⟨rfl, hb⟩; refine ⟨_, rfl, ?_⟩; have n0_ := Aside0.mk (blk_below (g := gb187) (o := .cells #[.slice A0_0 l0_0.length c0_0, .string a0_1, .string a0_2, .int .i64 a0_3] 48 (0, 0)) (by (with_reducible repeat (first | refine blk_drewN ?_ _ | refine blk_drew ?_ | refine blk_alloc ?_ _)); exact BK187.out) hb); have n1_ := Aside0.mk (below_step (by repeat (first | (with_reducible first | exact HB.out | apply below_alloc | apply pw_below_drewN | apply below_drew1 | refine below_set ?_ GE187.out) | exact HB.out)) hb); clear BK187; clear HB; have BK187 := n0_; have HB := n1_; clear n0_ n1_; (try clear hb); (try clear hb2); (try clear hk); (try clear hi)) | ((with_reducible refine gate_callee (f := 13) rfl ?_); refine goesL_ (some 26) rfl rfl Tryd.func13 (by kernel_rfl) rfl #[.slice A0_0 l0_0.length c0_0] rfl (by (try simp only [List.map_toArray, List.map_cons, List.map_nil]); first | done | rfl | (simp only [List.length_drop, List.length_take]; rfl)) ?_; (with_reducible refine (num_Bits.calls _ _ l0_0 t189 _ ?side1 ?side2 A3.out).mono ?_); (case side1 => repeat (first | exact (Kd.C_below HR0_0.out HB.out) | (with_reducible refine Kd.C_alloc ?_ _) | (with_reducible refine Kd.C_drewN ?_ _) | (with_reducible refine Kd.C_drew ?_))); (case side2 => exact HC0_0.out); rintro e w11 ⟨rfl, hb⟩; refine ⟨_, rfl, ?_⟩; have n0_ := Aside0.mk (blk_below (g := gb187) (o := .cells #[.slice A0_0 l0_0.length c0_0, .string a0_1, .string a0_2, .int .i64 a0_3] 48 (0, 0)) (by (with_reducible repeat (first | refine blk_drewN ?_ _ | refine blk_drew ?_ | refine blk_alloc ?_ _)); exact BK187.out) hb); have n1_ := Aside0.mk (below_step (by repeat (first | (with_reducible first | exact HB.out | apply below_alloc | apply pw_below_drewN | apply below_drew1 | refine below_set ?_ GE187.out) | exact HB.out)) hb); clear BK187; clear HB; have BK187 := n0_; have HB := n1_; clear n0_ n1_; (try clear hb); (try clear hb2); (try clear hk); (try clear hi)) | ((with_reducible refine gate_callee (f := 19) rfl ?_); refine goesL_ (some 31) rfl rfl Tryd.func19 (by kernel_rfl) rfl #[.string (t189 ++ a0_1), .int .i64 (l0_0.length : Int)] rfl (by (try simp only [List.map_toArray, List.map_cons, List.map_nil]); first | done | rfl | (simp only [List.length_drop, List.length_take]; rfl)) ?_; (with_reducible refine (num_TakeBits.calls k (t189 ++ a0_1) (l0_0.length : Int) t190 t191 t192 _ A5.out).mono ?_); rintro e w12 ⟨v193, rfl, ho0, hb⟩; refine ⟨_, rfl, ?_⟩; have n0_ := Aside0.mk (Kd.R_lower ho0 (below_size (by repeat (first | (with_reducible first | exact HB.out | apply below_alloc | apply pw_below_drewN | apply below_drew1 | refine below_set ?_ GE187.out) | exact HB.out)))); have n1_ := Aside0.mk (blk_below (g := gb187) (o := .cells #[.slice A0_0 l0_0.length c0_0, .string a0_1, .string a0_2, .int .i64 a0_3] 48 (0, 0)) (by (with_reducible repeat (first | refine blk_drewN ?_ _ | refine blk_drew ?_ | refine blk_alloc ?_ _)); exact BK187.out) hb); have n2_ := Aside0.mk (below_step (by repeat (first | (with_reducible first | exact HB.out | apply below_alloc | apply pw_below_drewN | apply below_drew1 | refine below_set ?_ GE187.out) | exact HB.out)) hb); clear BK187; clear HB; have HO194 := n0_; have BK187 := n1_; have HB := n2_; clear n0_ n1_ n2_; (try clear hb); (try clear hb2); (try clear hk); (try clear hi); (try clear ho0); obtain ⟨Ao13, co13, eo13⟩ := Kd.R_slice HO194.out; subst eo13) | ((with_reducible refine gate_callee (f := 20) rfl ?_); refine goesL_ (some 37) rfl rfl Tryd.func20 (by kernel_rfl) rfl #[.slice Ao13 t190.length co13, .slice A0_0 l0_0.length c0_0] rfl (by (try simp only [List.map_toArray, List.map_cons, List.map_nil]); first | done | rfl | (simp only [List.length_drop, List.length_take]; rfl)) ?_; (with_reducible refine (interchangeref01_Bools.calls k _ _ t190 _ _ l0_0 t195 _ ?side1 ?side2 ?side3 ?side4 A6.out).mono ?_); (case side1 => repeat (first | exact (Kd.R_reads' HO194.out).2.2 | (with_reducible refine Kd.C_alloc ?_ _) | (with_reducible refine Kd.C_drewN ?_ _) | (with_reducible refine Kd.C_drew ?_))); (case side2 => exact (Kd.R_reads' HO194.out).2.1); (case side3 => repeat (first | exact (Kd.C_below HR0_0.out HB.out) | (with_reducible refine Kd.C_alloc ?_ _) | (with_reducible refine Kd.C_drewN ?_ _) | (with_reducible refine Kd.C_drew ?_))); (case side4 => exact HC0_0.out); rintro e w' ⟨rfl, ⟨nd, rfl⟩⟩; refine ⟨_, rfl, ?_⟩))
    (try simp only [Act.put, List.setIfInBounds_toArray, List.set_cons_zero, List.set_cons_succ])
    go_cut [53] (fun v53 wc => ∃ (kq : Nat) (x53_6 : Bool), v53 = .bool x53_6 ∧ Aside0 (interchangelaw01_NumBitsBack.j0 kq a0_2 a0_3 t188 x53_6 = some r) ∧ Aside0 (kq ≤ k) ∧ Aside0 (wc.heap[gb187]? = some (.cells #[(.slice A0_0 l0_0.length c0_0), .string a0_1, .string a0_2, .int .i64 a0_3] 48 (0, 0))) ∧ Aside0 (Below w.heap.size w wc))
    case first =>
      have H := HC7.out
      clear HC7
      by_cases c14 : (l0_0.length : Int) ≤ 64
      · rw [if_pos c14] at H
        have c14b0 : decide ((l0_0.length : Int) ≤ 64) = true := decide_eq_true c14
        have c14b1 : decide (l0_0.length ≤ 64) = true := decide_eq_true (by omega)
        clear c14
        (first | rw [c14b0] | (simp only [i64_w, i32_w]; rw [c14b0]) | skip)
        by_cases c15 : t192 = 0
        · rw [if_pos c15] at H
          have c15b0 : (t192 == 0) = true := beq_iff_eq.mpr c15
          have c15b1 : (t192 != 0) = false := bne_eq_false_iff_eq.mpr c15
          clear c15
          by_cases c16 : t195 = true
          · subst c16
            have H1 : (interchangelaw01_NumBitsBack.j0 k a0_2 a0_3 t188 (t191.toList != a0_1.toList)) = some r := by rw [if_pos rfl] at H; exact H
            clear H
            have H := H1
            clear H1
            have H' := Aside0.mk H
            clear H
            go_wp2
            go_meet
            case rel => exact ⟨_, ((t191.toList != a0_1.toList)), (by first | rfl | (simp; done) | (simp [*]; done)), H', ⟨by first | omega | exact Nat.le_refl _⟩, ⟨by (with_reducible repeat (first | refine blk_drewN ?_ _ | refine blk_drew ?_ | refine blk_alloc ?_ _)); exact BK187.out⟩, ⟨by repeat (first | (with_reducible first | exact HB.out | apply below_alloc | apply pw_below_drewN | apply below_drew1 | refine below_set ?_ GE187.out) | exact HB.out)⟩⟩
          · replace c16 := Bool.eq_false_iff.mpr c16
            subst c16
            have H1 : (interchangelaw01_NumBitsBack.j0 k a0_2 a0_3 t188 true) = some r := by rw [if_neg (show ¬ (false = true) by decide)] at H; exact H
            clear H
            have H := H1
            clear H1
            have H' := Aside0.mk H
            clear H
            go_wp2
            go_meet
            case rel => exact ⟨_, (true), (by first | rfl | (simp; done) | (simp [*]; done)), H', ⟨by first | omega | exact Nat.le_refl _⟩, ⟨by (with_reducible repeat (first | refine blk_drewN ?_ _ | refine blk_drew ?_ | refine blk_alloc ?_ _)); exact BK187.out⟩, ⟨by repeat (first | (with_reducible first | exact HB.out | apply below_alloc | apply pw_below_drewN | apply below_drew1 | refine below_set ?_ GE187.out) | exact HB.out)⟩⟩
        · rw [if_neg c15] at H
          have c15b0 : (t192 == 0) = false := beq_eq_false_iff_ne.mpr c15
          have c15b1 : (t192 != 0) = true := bne_iff_ne.mpr c15
          have H' := Aside0.mk H
          clear H
          go_wp2
          go_meet
          case rel => exact ⟨_, (true), (by first | rfl | (simp; done) | (simp [*]; done)), H', ⟨by first | omega | exact Nat.le_refl _⟩, ⟨by (with_reducible repeat (first | refine blk_drewN ?_ _ | refine blk_drew ?_ | refine blk_alloc ?_ _)); exact BK187.out⟩, ⟨by repeat (first | (with_reducible first | exact HB.out | apply below_alloc | apply pw_below_drewN | apply below_drew1 | refine below_set ?_ GE187.out) | exact HB.out)⟩⟩
      · rw [if_neg c14] at H
        have c14b0 : decide ((l0_0.length : Int) ≤ 64) = false := decide_eq_false c14
        have c14b1 : decide (l0_0.length ≤ 64) = false := decide_eq_false (by omega)
        clear c14
        (first | rw [c14b0] | (simp only [i64_w, i32_w]; rw [c14b0]) | skip)
        have H' := Aside0.mk H
        clear H
        go_wp2
        go_meet
        case rel => exact ⟨_, (false), (by first | rfl | (simp; done) | (simp [*]; done)), H', ⟨by first | omega | exact Nat.le_refl _⟩, ⟨by (with_reducible repeat (first | refine blk_drewN ?_ _ | refine blk_drew ?_ | refine blk_alloc ?_ _)); exact BK187.out⟩, ⟨by repeat (first | (with_reducible first | exact HB.out | apply below_alloc | apply pw_below_drewN | apply below_drew1 | refine below_set ?_ GE187.out) | exact HB.out)⟩⟩
    case rest =>
      clear HC7
      try clear c1
      try clear c2
      try clear p2
      try clear c4
      try clear c4b0
      try clear c4b1
      try clear c4b2
      try clear c9
      try clear c11
      try clear c13
      try clear c14
      try clear c14b0
      try clear c14b1
      try clear c15
      try clear c15b0
      try clear c15b1
      try clear c16
      try clear hcz9_0
      try clear hcz9_1
      try clear hcz9_2
      try clear hcz9_3
      try clear hfz9_0
      try clear hfz9_1
      try clear hfz9_2
      try clear hfz9_3
      obtain ⟨kq, x53_6, rfl, HA, HJ6, BK187, HB⟩ := hcut
      cases kq with
      | zero => exact absurd HA.out (by simp [interchangelaw01_NumBitsBack.j0])
      | succ kj6 =>
        have H := HA.out
        clear HA
        simp only [interchangelaw01_NumBitsBack.j0] at H
        by_cases c17 : x53_6 = true
        · subst c17
          have H1 : (some false) = some r := by rw [if_pos rfl] at H; exact H
          clear H
          have H := H1
          clear H1
          obtain rfl := Option.some.inj H
          go_wp2
          go_ret
          exact ⟨by first | rfl | (simp [errW_none, errW_some] <;> rfl) | (simp [*, errW_none, errW_some] <;> rfl), by repeat (first | (with_reducible first | exact HB.out | apply below_alloc | apply pw_below_drewN | apply below_drew1 | refine below_set ?_ GE187.out) | exact HB.out)⟩
        · replace c17 := Bool.eq_false_iff.mpr c17
          subst c17
          have H1 : ((num_TakeBits.f kj6 a0_2 a0_3).bind fun bt196 => (if t188 = true then (if bt196.2.2 = 0 then ((num_Bits.f bt196.1).bind fun t201 => (if t201.size + bt196.2.1.size ≤ 9223372036854775807 then (if (t201 ++ bt196.2.1).toList = a0_2.toList then (some ((bt196.1.length : Int) == a0_3)) else (some false)) else (none))) else (some true)) else (some false))) = some r := by rw [if_neg (show ¬ (false = true) by decide)] at H; exact H
          clear H
          have H := H1
          clear H1
          replace H := Option.bind_eq_some_iff.mp H
          obtain ⟨⟨t196, t197, t198⟩, A180, H⟩ := H
          replace H : (if t188 = true then (if t198 = 0 then ((num_Bits.f t196).bind fun t201 => (if t201.size + t197.size ≤ 9223372036854775807 then (if (t201 ++ t197).toList = a0_2.toList then (some ((t196.length : Int) == a0_3)) else (some false)) else (none))) else (some true)) else (some false)) = some r := H
          have A18 := Aside0.mk A180
          clear A180
          by_cases c19 : t188 = true
          · subst c19
            have H1 : (if t198 = 0 then ((num_Bits.f t196).bind fun t201 => (if t201.size + t197.size ≤ 9223372036854775807 then (if (t201 ++ t197).toList = a0_2.toList then (some ((t196.length : Int) == a0_3)) else (some false)) else (none))) else (some true)) = some r := by rw [if_pos rfl] at H; exact H
            clear H
            have H := H1
            clear H1
            by_cases c20 : t198 = 0
            · rw [if_pos c20] at H
              have c20b0 : (t198 == 0) = true := beq_iff_eq.mpr c20
              have c20b1 : (t198 != 0) = false := bne_eq_false_iff_eq.mpr c20
              clear c20
              replace H := Option.bind_eq_some_iff.mp H
              obtain ⟨t201, A210, H⟩ := H
              replace H : (if t201.size + t197.size ≤ 9223372036854775807 then (if (t201 ++ t197).toList = a0_2.toList then (some ((t196.length : Int) == a0_3)) else (some false)) else (none)) = some r := H
              have A21 := Aside0.mk A210
              clear A210
              by_cases c22 : t201.size + t197.size ≤ 9223372036854775807
              · rw [if_pos c22] at H
                have c22b0 := eq_true c22
                have c22b1 : decide (t201.size + t197.size ≤ 9223372036854775807) = true := decide_eq_true c22
                try have c22b2 : (9223372036854775807 < t201.size + t197.size) = False := eq_false (Nat.not_lt.2 c22)
                by_cases c23 : (t201 ++ t197).toList = a0_2.toList
                · rw [if_pos c23] at H
                  have c23b0 : ((t201 ++ t197).toList == a0_2.toList) = true := beq_iff_eq.mpr c23
                  have c23b1 : ((t201 ++ t197).toList != a0_2.toList) = false := bne_eq_false_iff_eq.mpr c23
                  clear c23
                  obtain rfl := Option.some.inj H
                  go_wp2_with (first | ((with_reducible refine gate_callee (f := 19) rfl ?_); refine goesL_ (some 57) rfl rfl Tryd.func19 (by kernel_rfl) rfl #[.string a0_2, .int .i64 a0_3] rfl (by (try simp only [List.map_toArray, List.map_cons, List.map_nil]); first | done | rfl | (simp only [List.length_drop, List.length_take]; rfl)) ?_; (with_reducible refine (num_TakeBits.calls kj6 a0_2 a0_3 t196 t197 t198 _ A18.out).mono ?_); rintro e w24 ⟨v199, rfl, ho0, hb⟩; refine ⟨_, rfl, ?_⟩; have n0_ := Aside0.mk (Kd.R_lower ho0 (below_size (by repeat (first | (with_reducible first | exact HB.out | apply below_alloc | apply pw_below_drewN | apply below_drew1 | refine below_set ?_ GE187.out) | exact HB.out)))); have n1_ := Aside0.mk (blk_below (g := gb187) (o := .cells #[.slice A0_0 l0_0.length c0_0, .string a0_1, .string a0_2, .int .i64 a0_3] 48 (0, 0)) (by (with_reducible repeat (first | refine blk_drewN ?_ _ | refine blk_drew ?_ | refine blk_alloc ?_ _)); exact BK187.out) hb); have n2_ := Aside0.mk (below_step (by repeat (first | (with_reducible first | exact HB.out | apply below_alloc | apply pw_below_drewN | apply below_drew1 | refine below_set ?_ GE187.out) | exact HB.out)) hb); clear BK187; clear HB; have HO200 := n0_; have BK187 := n1_; have HB := n2_; clear n0_ n1_ n2_; (try clear hb); (try clear hb2); (try clear hk); (try clear hi); (try clear ho0); obtain ⟨Ao25, co25, eo25⟩ := Kd.R_slice HO200.out; subst eo25) | (go_at_call 13; (with_reducible refine (num_Bits.calls _ _ t196 t201 _ ?side1 ?side2 A21.out).mono ?_); (case side1 => repeat (first | exact (Kd.R_reads' HO200.out).2.2 | (with_reducible refine Kd.C_alloc ?_ _) | (with_reducible refine Kd.C_drewN ?_ _) | (with_reducible refine Kd.C_drew ?_))); (case side2 => exact (Kd.R_reads' HO200.out).2.1); rintro e w26 ⟨rfl, hb⟩; have n0_ := Aside0.mk (Kd.R_below (by (with_reducible repeat (first | apply Kd.R_alloc | apply Kd.R_drewN | apply Kd.R_drew)); exact HO200.out) hb); have n1_ := Aside0.mk (blk_below (g := gb187) (o := .cells #[.slice A0_0 l0_0.length c0_0, .string a0_1, .string a0_2, .int .i64 a0_3] 48 (0, 0)) (by (with_reducible repeat (first | refine blk_drewN ?_ _ | refine blk_drew ?_ | refine blk_alloc ?_ _)); exact BK187.out) hb); have n2_ := Aside0.mk (below_step (by repeat (first | (with_reducible first | exact HB.out | apply below_alloc | apply pw_below_drewN | apply below_drew1 | refine below_set ?_ GE187.out) | exact HB.out)) hb); clear HO200; clear BK187; clear HB; have HO200 := n0_; have BK187 := n1_; have HB := n2_; clear n0_ n1_ n2_; (try clear hb); (try clear hb2); (try clear hk); (try clear hi)))
                  go_ret
                  exact ⟨by first | rfl | (simp [errW_none, errW_some] <;> rfl) | (simp [*, errW_none, errW_some] <;> rfl), by repeat (first | (with_reducible first | exact HB.out | apply below_alloc | apply pw_below_drewN | apply below_drew1 | refine below_set ?_ GE187.out) | exact HB.out)⟩
                · rw [if_neg c23] at H
                  have c23b0 : ((t201 ++ t197).toList == a0_2.toList) = false := beq_eq_false_iff_ne.mpr c23
                  have c23b1 : ((t201 ++ t197).toList != a0_2.toList) = true := bne_iff_ne.mpr c23
                  obtain rfl := Option.some.inj H
                  go_wp2_with (first | ((with_reducible refine gate_callee (f := 19) rfl ?_); refine goesL_ (some 57) rfl rfl Tryd.func19 (by kernel_rfl) rfl #[.string a0_2, .int .i64 a0_3] rfl (by (try simp only [List.map_toArray, List.map_cons, List.map_nil]); first | done | rfl | (simp only [List.length_drop, List.length_take]; rfl)) ?_; (with_reducible refine (num_TakeBits.calls kj6 a0_2 a0_3 t196 t197 t198 _ A18.out).mono ?_); rintro e w27 ⟨v199, rfl, ho0, hb⟩; refine ⟨_, rfl, ?_⟩; have n0_ := Aside0.mk (Kd.R_lower ho0 (below_size (by repeat (first | (with_reducible first | exact HB.out | apply below_alloc | apply pw_below_drewN | apply below_drew1 | refine below_set ?_ GE187.out) | exact HB.out)))); have n1_ := Aside0.mk (blk_below (g := gb187) (o := .cells #[.slice A0_0 l0_0.length c0_0, .string a0_1, .string a0_2, .int .i64 a0_3] 48 (0, 0)) (by (with_reducible repeat (first | refine blk_drewN ?_ _ | refine blk_drew ?_ | refine blk_alloc ?_ _)); exact BK187.out) hb); have n2_ := Aside0.mk (below_step (by repeat (first | (with_reducible first | exact HB.out | apply below_alloc | apply pw_below_drewN | apply below_drew1 | refine below_set ?_ GE187.out) | exact HB.out)) hb); clear BK187; clear HB; have HO200 := n0_; have BK187 := n1_; have HB := n2_; clear n0_ n1_ n2_; (try clear hb); (try clear hb2); (try clear hk); (try clear hi); (try clear ho0); obtain ⟨Ao28, co28, eo28⟩ := Kd.R_slice HO200.out; subst eo28) | (go_at_call 13; (with_reducible refine (num_Bits.calls _ _ t196 t201 _ ?side1 ?side2 A21.out).mono ?_); (case side1 => repeat (first | exact (Kd.R_reads' HO200.out).2.2 | (with_reducible refine Kd.C_alloc ?_ _) | (with_reducible refine Kd.C_drewN ?_ _) | (with_reducible refine Kd.C_drew ?_))); (case side2 => exact (Kd.R_reads' HO200.out).2.1); rintro e w29 ⟨rfl, hb⟩; have n0_ := Aside0.mk (Kd.R_below (by (with_reducible repeat (first | apply Kd.R_alloc | apply Kd.R_drewN | apply Kd.R_drew)); exact HO200.out) hb); have n1_ := Aside0.mk (blk_below (g := gb187) (o := .cells #[.slice A0_0 l0_0.length c0_0, .string a0_1, .string a0_2, .int .i64 a0_3] 48 (0, 0)) (by (with_reducible repeat (first | refine blk_drewN ?_ _ | refine blk_drew ?_ | refine blk_alloc ?_ _)); exact BK187.out) hb); have n2_ := Aside0.mk (below_step (by repeat (first | (with_reducible first | exact HB.out | apply below_alloc | apply pw_below_drewN | apply below_drew1 | refine below_set ?_ GE187.out) | exact HB.out)) hb); clear HO200; clear BK187; clear HB; have HO200 := n0_; have BK187 := n1_; have HB := n2_; clear n0_ n1_ n2_; (try clear hb); (try clear hb2); (try clear hk); (try clear hi)))
                  go_ret
                  exact ⟨by first | rfl | (simp [errW_none, errW_some] <;> rfl) | (simp [*, errW_none, errW_some] <;> rfl), by repeat (first | (with_reducible first | exact HB.out | apply below_alloc | apply pw_below_drewN | apply below_drew1 | refine below_set ?_ GE187.out) | exact HB.out)⟩
              · rw [if_neg c22] at H
                exact absurd H (by simp)
            · rw [if_neg c20] at H
              have c20b0 : (t198 == 0) = false := beq_eq_false_iff_ne.mpr c20
              have c20b1 : (t198 != 0) = true := bne_iff_ne.mpr c20
              obtain rfl := Option.some.inj H
              go_wp2_with (first | ((with_reducible refine gate_callee (f := 19) rfl ?_); refine goesL_ (some 57) rfl rfl Tryd.func19 (by kernel_rfl) rfl #[.string a0_2, .int .i64 a0_3] rfl (by (try simp only [List.map_toArray, List.map_cons, List.map_nil]); first | done | rfl | (simp only [List.length_drop, List.length_take]; rfl)) ?_; (with_reducible refine (num_TakeBits.calls kj6 a0_2 a0_3 t196 t197 t198 _ A18.out).mono ?_); rintro e w30 ⟨v199, rfl, ho0, hb⟩; refine ⟨_, rfl, ?_⟩; have n0_ := Aside0.mk (Kd.R_lower ho0 (below_size (by repeat (first | (with_reducible first | exact HB.out | apply below_alloc | apply pw_below_drewN | apply below_drew1 | refine below_set ?_ GE187.out) | exact HB.out)))); have n1_ := Aside0.mk (blk_below (g := gb187) (o := .cells #[.slice A0_0 l0_0.length c0_0, .string a0_1, .string a0_2, .int .i64 a0_3] 48 (0, 0)) (by (with_reducible repeat (first | refine blk_drewN ?_ _ | refine blk_drew ?_ | refine blk_alloc ?_ _)); exact BK187.out) hb); have n2_ := Aside0.mk (below_step (by repeat (first | (with_reducible first | exact HB.out | apply below_alloc | apply pw_below_drewN | apply below_drew1 | refine below_set ?_ GE187.out) | exact HB.out)) hb); clear BK187; clear HB; have HO200 := n0_; have BK187 := n1_; have HB := n2_; clear n0_ n1_ n2_; (try clear hb); (try clear hb2); (try clear hk); (try clear hi); (try clear ho0)))
              go_ret
              exact ⟨by first | rfl | (simp [errW_none, errW_some] <;> rfl) | (simp [*, errW_none, errW_some] <;> rfl), by repeat (first | (with_reducible first | exact HB.out | apply below_alloc | apply pw_below_drewN | apply below_drew1 | refine below_set ?_ GE187.out) | exact HB.out)⟩
          · replace c19 := Bool.eq_false_iff.mpr c19
            subst c19
            have H1 : (some false) = some r := by rw [if_neg (show ¬ (false = true) by decide)] at H; exact H
            clear H
            have H := H1
            clear H1
            obtain rfl := Option.some.inj H
            go_wp2_with (first | ((with_reducible refine gate_callee (f := 19) rfl ?_); refine goesL_ (some 57) rfl rfl Tryd.func19 (by kernel_rfl) rfl #[.string a0_2, .int .i64 a0_3] rfl (by (try simp only [List.map_toArray, List.map_cons, List.map_nil]); first | done | rfl | (simp only [List.length_drop, List.length_take]; rfl)) ?_; (with_reducible refine (num_TakeBits.calls kj6 a0_2 a0_3 t196 t197 t198 _ A18.out).mono ?_); rintro e w31 ⟨v199, rfl, ho0, hb⟩; refine ⟨_, rfl, ?_⟩; have n0_ := Aside0.mk (Kd.R_lower ho0 (below_size (by repeat (first | (with_reducible first | exact HB.out | apply below_alloc | apply pw_below_drewN | apply below_drew1 | refine below_set ?_ GE187.out) | exact HB.out)))); have n1_ := Aside0.mk (blk_below (g := gb187) (o := .cells #[.slice A0_0 l0_0.length c0_0, .string a0_1, .string a0_2, .int .i64 a0_3] 48 (0, 0)) (by (with_reducible repeat (first | refine blk_drewN ?_ _ | refine blk_drew ?_ | refine blk_alloc ?_ _)); exact BK187.out) hb); have n2_ := Aside0.mk (below_step (by repeat (first | (with_reducible first | exact HB.out | apply below_alloc | apply pw_below_drewN | apply below_drew1 | refine below_set ?_ GE187.out) | exact HB.out)) hb); clear BK187; clear HB; have HO200 := n0_; have BK187 := n1_; have HB := n2_; clear n0_ n1_ n2_; (try clear hb); (try clear hb2); (try clear hk); (try clear hi); (try clear ho0)))
            go_ret
            exact ⟨by first | rfl | (simp [errW_none, errW_some] <;> rfl) | (simp [*, errW_none, errW_some] <;> rfl), by repeat (first | (with_reducible first | exact HB.out | apply below_alloc | apply pw_below_drewN | apply below_drew1 | refine below_set ?_ GE187.out) | exact HB.out)⟩
  · rw [if_neg c4] at H
    exact absurd H (by simp)


end Go.Proofs.YtpcfpeejbhkbdaaDoor.F
