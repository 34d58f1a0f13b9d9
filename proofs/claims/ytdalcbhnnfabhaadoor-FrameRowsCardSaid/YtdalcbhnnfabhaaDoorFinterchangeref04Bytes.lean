-- Printed by this session's program pf.py out of the kit's print.
import Derived.Test.YtdalcbhnnfabhaaDoorFbase
import Derived.Test.YtdalcbhnnfabhaaDoorFinterchangeref01Put
import Derived.Test.YtdalcbhnnfabhaaDoorFinterchangeref04Right
namespace Go.Proofs.YtdalcbhnnfabhaaDoor.F
open Go.RowKit Go.Proofs.YtdalcbhnnfabhaaDoorW.PrintWords Go.Proofs.YtdalcbhnnfabhaaDoorW.PrintLast Go.Proofs.YtdalcbhnnfabhaaDoorW.PrintMore
attribute [local go_sem] max2_int min2_int max_two min_two max_three min_three max_four min_four
set_option linter.unusedVariables false
set_option linter.unusedSimpArgs false

/-! ### interchangeref04_Bytes: function 19 -/
def interchangeref04_Bytes.f (k : Nat) (a0_0 : Int) (a0_1 : Int) (a0_2 : ByteArray) : Option (ByteArray × Int) := (interchangeref04_Right.f k a0_0 a0_1 a0_2).bind fun t220 => (if t220 = true then ((interchangeref01_Put.f k 2 (IntKind.u64.wrap (a0_1))).bind fun bt221 => ((interchangeref01_Put.f k 4 (IntKind.u64.wrap ((a0_2.size : Int)))).bind fun bt223 => ((some (([(a0_0) % 256] : List Int) : List Int)).bind fun y225 => (if (strOfNums y225).size + bt221.1.size ≤ 9223372036854775807 then (if ((strOfNums y225) ++ bt221.1).size + bt223.1.size ≤ 9223372036854775807 then (if (((strOfNums y225) ++ bt221.1) ++ bt223.1).size + a0_2.size ≤ 9223372036854775807 then (if ((((strOfNums y225) ++ bt221.1) ++ bt223.1) ++ a0_2).size + 1 ≤ 9223372036854775807 then (some (((((strOfNums y225) ++ bt221.1) ++ bt223.1) ++ a0_2) ++ (⟨#[206]⟩ : ByteArray), 0)) else (none)) else (none)) else (none)) else (none))))) else (some ((⟨#[]⟩ : ByteArray), 1)))
theorem interchangeref04_Bytes.mono : ∀ a0 a1 a2 k, LeO (interchangeref04_Bytes.f k a0 a1 a2) (interchangeref04_Bytes.f (k + 1) a0 a1 a2) := by
  intro a0 a1 a2 k
  unfold interchangeref04_Bytes.f
  repeat' first
      | (with_reducible exact interchangeref01_Put.mono _ _ _)
      | (with_reducible exact interchangeref04_Right.mono _ _ _ _)
      | (with_reducible exact LeO.refl _)
      | (with_reducible exact LeO.none _)
      | (with_reducible refine LeO.ite ?_ ?_)
      | (with_reducible refine LeO.bind ?_ (fun _ => ?_))
      | exact interchangeref01_Put.mono _ _ _
      | exact interchangeref04_Right.mono _ _ _ _
      | exact LeO.none _
      | refine LeO.ite ?_ ?_
      | refine LeO.bind ?_ (fun _ => ?_)
set_option maxHeartbeats 8000000 in
set_option maxRecDepth 100000 in
theorem interchangeref04_Bytes.calls (k : Nat) (a0_0 : Int) (a0_1 : Int) (a0_2 : ByteArray) (r1 : ByteArray) (r2 : Int) (w : World) (h : interchangeref04_Bytes.f k a0_0 a0_1 a0_2 = some (r1, r2)) :
    Calls Tryd.prog 19 #[.agg #[.int .i64 a0_0, .int .i64 a0_1, .string a0_2]] w fun e w' => e = .returned (.tuple #[.string r1, .int .i64 r2]) ∧ Below w.heap.size w w' := by
  have hu29 := Tryd.underlying29
  have HB := Aside0.mk (Below.refl w.heap.size w)
  have H : ((interchangeref04_Right.f k a0_0 a0_1 a0_2).bind fun t220 => (if t220 = true then ((interchangeref01_Put.f k 2 (IntKind.u64.wrap (a0_1))).bind fun bt221 => ((interchangeref01_Put.f k 4 (IntKind.u64.wrap ((a0_2.size : Int)))).bind fun bt223 => ((some (([(a0_0) % 256] : List Int) : List Int)).bind fun y225 => (if (strOfNums y225).size + bt221.1.size ≤ 9223372036854775807 then (if ((strOfNums y225) ++ bt221.1).size + bt223.1.size ≤ 9223372036854775807 then (if (((strOfNums y225) ++ bt221.1) ++ bt223.1).size + a0_2.size ≤ 9223372036854775807 then (if ((((strOfNums y225) ++ bt221.1) ++ bt223.1) ++ a0_2).size + 1 ≤ 9223372036854775807 then (some (((((strOfNums y225) ++ bt221.1) ++ bt223.1) ++ a0_2) ++ (⟨#[206]⟩ : ByteArray), 0)) else (none)) else (none)) else (none)) else (none))))) else (some ((⟨#[]⟩ : ByteArray), 1)))) = some (r1, r2) := h
  clear h
  replace H := Option.bind_eq_some_iff.mp H
  obtain ⟨t220, A20, H⟩ := H
  replace H : (if t220 = true then ((interchangeref01_Put.f k 2 (IntKind.u64.wrap (a0_1))).bind fun bt221 => ((interchangeref01_Put.f k 4 (IntKind.u64.wrap ((a0_2.size : Int)))).bind fun bt223 => ((some (([(a0_0) % 256] : List Int) : List Int)).bind fun y225 => (if (strOfNums y225).size + bt221.1.size ≤ 9223372036854775807 then (if ((strOfNums y225) ++ bt221.1).size + bt223.1.size ≤ 9223372036854775807 then (if (((strOfNums y225) ++ bt221.1) ++ bt223.1).size + a0_2.size ≤ 9223372036854775807 then (if ((((strOfNums y225) ++ bt221.1) ++ bt223.1) ++ a0_2).size + 1 ≤ 9223372036854775807 then (some (((((strOfNums y225) ++ bt221.1) ++ bt223.1) ++ a0_2) ++ (⟨#[206]⟩ : ByteArray), 0)) else (none)) else (none)) else (none)) else (none))))) else (some ((⟨#[]⟩ : ByteArray), 1))) = some (r1, r2) := H
  have A2 := Aside0.mk A20
  clear A20
  by_cases c3 : t220 = true
  · subst c3
    have H1 : ((interchangeref01_Put.f k 2 (IntKind.u64.wrap (a0_1))).bind fun bt221 => ((interchangeref01_Put.f k 4 (IntKind.u64.wrap ((a0_2.size : Int)))).bind fun bt223 => ((some (([(a0_0) % 256] : List Int) : List Int)).bind fun y225 => (if (strOfNums y225).size + bt221.1.size ≤ 9223372036854775807 then (if ((strOfNums y225) ++ bt221.1).size + bt223.1.size ≤ 9223372036854775807 then (if (((strOfNums y225) ++ bt221.1) ++ bt223.1).size + a0_2.size ≤ 9223372036854775807 then (if ((((strOfNums y225) ++ bt221.1) ++ bt223.1) ++ a0_2).size + 1 ≤ 9223372036854775807 then (some (((((strOfNums y225) ++ bt221.1) ++ bt223.1) ++ a0_2) ++ (⟨#[206]⟩ : ByteArray), 0)) else (none)) else (none)) else (none)) else (none))))) = some (r1, r2) := by rw [if_pos rfl] at H; exact H
    clear H
    have H := H1
    clear H1
    replace H := Option.bind_eq_some_iff.mp H
    obtain ⟨⟨t221, t222⟩, A40, H⟩ := H
    replace H : ((interchangeref01_Put.f k 4 (IntKind.u64.wrap ((a0_2.size : Int)))).bind fun bt223 => ((some (([(a0_0) % 256] : List Int) : List Int)).bind fun y225 => (if (strOfNums y225).size + t221.size ≤ 9223372036854775807 then (if ((strOfNums y225) ++ t221).size + bt223.1.size ≤ 9223372036854775807 then (if (((strOfNums y225) ++ t221) ++ bt223.1).size + a0_2.size ≤ 9223372036854775807 then (if ((((strOfNums y225) ++ t221) ++ bt223.1) ++ a0_2).size + 1 ≤ 9223372036854775807 then (some (((((strOfNums y225) ++ t221) ++ bt223.1) ++ a0_2) ++ (⟨#[206]⟩ : ByteArray), 0)) else (none)) else (none)) else (none)) else (none)))) = some (r1, r2) := H
    have A4 := Aside0.mk A40
    clear A40
    replace H := Option.bind_eq_some_iff.mp H
    obtain ⟨⟨t223, t224⟩, A50, H⟩ := H
    replace H : ((some (([(a0_0) % 256] : List Int) : List Int)).bind fun y225 => (if (strOfNums y225).size + t221.size ≤ 9223372036854775807 then (if ((strOfNums y225) ++ t221).size + t223.size ≤ 9223372036854775807 then (if (((strOfNums y225) ++ t221) ++ t223).size + a0_2.size ≤ 9223372036854775807 then (if ((((strOfNums y225) ++ t221) ++ t223) ++ a0_2).size + 1 ≤ 9223372036854775807 then (some (((((strOfNums y225) ++ t221) ++ t223) ++ a0_2) ++ (⟨#[206]⟩ : ByteArray), 0)) else (none)) else (none)) else (none)) else (none))) = some (r1, r2) := H
    have A5 := Aside0.mk A50
    clear A50
    obtain ⟨y225, hy225⟩ : ∃ y_ : List Int, y_ = (([(a0_0) % 256] : List Int)) := ⟨_, rfl⟩
    replace H : (if (strOfNums y225).size + t221.size ≤ 9223372036854775807 then (if ((strOfNums y225) ++ t221).size + t223.size ≤ 9223372036854775807 then (if (((strOfNums y225) ++ t221) ++ t223).size + a0_2.size ≤ 9223372036854775807 then (if ((((strOfNums y225) ++ t221) ++ t223) ++ a0_2).size + 1 ≤ 9223372036854775807 then (some (((((strOfNums y225) ++ t221) ++ t223) ++ a0_2) ++ (⟨#[206]⟩ : ByteArray), 0)) else (none)) else (none)) else (none)) else (none)) = some (r1, r2) := by first | (rw [hy225]; with_reducible exact H) | (have H2_ := (Option.bind_some _ _).symm.trans H; rw [hy225]; with_reducible exact H2_) | (have H2_ := (Option.bind_some _ _).symm.trans H; with_reducible exact H2_) | with_reducible exact H | (rw [hy225]; exact H) | exact H
    have Ny225 := Aside0.mk hy225
    clear hy225
    by_cases c6 : (strOfNums y225).size + t221.size ≤ 9223372036854775807
    · rw [if_pos c6] at H
      have c6b0 := eq_true c6
      have c6b1 : decide ((strOfNums y225).size + t221.size ≤ 9223372036854775807) = true := decide_eq_true c6
      try have c6b2 : (9223372036854775807 < (strOfNums y225).size + t221.size) = False := eq_false (Nat.not_lt.2 c6)
      by_cases c7 : ((strOfNums y225) ++ t221).size + t223.size ≤ 9223372036854775807
      · rw [if_pos c7] at H
        have c7b0 := eq_true c7
        have c7b1 : decide (((strOfNums y225) ++ t221).size + t223.size ≤ 9223372036854775807) = true := decide_eq_true c7
        try have c7b2 : (9223372036854775807 < ((strOfNums y225) ++ t221).size + t223.size) = False := eq_false (Nat.not_lt.2 c7)
        by_cases c8 : (((strOfNums y225) ++ t221) ++ t223).size + a0_2.size ≤ 9223372036854775807
        · rw [if_pos c8] at H
          have c8b0 := eq_true c8
          have c8b1 : decide ((((strOfNums y225) ++ t221) ++ t223).size + a0_2.size ≤ 9223372036854775807) = true := decide_eq_true c8
          try have c8b2 : (9223372036854775807 < (((strOfNums y225) ++ t221) ++ t223).size + a0_2.size) = False := eq_false (Nat.not_lt.2 c8)
          by_cases c9 : ((((strOfNums y225) ++ t221) ++ t223) ++ a0_2).size + 1 ≤ 9223372036854775807
          · rw [if_pos c9] at H
            have c9b0 := eq_true c9
            have c9b1 : decide (((((strOfNums y225) ++ t221) ++ t223) ++ a0_2).size + 1 ≤ 9223372036854775807) = true := decide_eq_true c9
            try have c9b2 : (9223372036854775807 < ((((strOfNums y225) ++ t221) ++ t223) ++ a0_2).size + 1) = False := eq_false (Nat.not_lt.2 c9)
            simp only [Option.some.injEq, Prod.mk.injEq] at H
            obtain ⟨rfl, rfl⟩ := H
            have hw_ : IntKind.u64.wrap ((a0_2.size : Int)) = ((a0_2.size : Int)) := IntWalk.u64_in _ (by omega)
            have A6w := A5.out
            rw [hw_] at A6w
            clear A5
            have A5 := Aside0.mk A6w
            clear A6w hw_
            have c9b9 : (9223372036854775807 < (strOfNums y225).size + t221.size + t223.size + a0_2.size + 1) = False := eq_false (by have c9s := c9; simp only [ByteArray.size_append] at c9s; omega)
            go_enter Tryd.func19, Tryd.ntmps19
            go_wp2_with (first | ((with_reducible refine gate_dst (N := 1) rfl ?_); refine box_event ?hg (N := 1) ?hd (cs := #[.int .i64 a0_0, .int .i64 a0_1, .string a0_2]) (t := 29) ?hr ?_; (case hd => rfl); (case hg => rfl); (case hr => first | (go_simp; done) | (go_simp; rfl)); intro gb219 hg w10 hbox hb; have n0_ := Aside0.mk (below_step (by repeat (first | (with_reducible first | exact HB.out | apply below_alloc | apply pw_below_drewN | apply below_drew1) | exact HB.out)) hb); have n1_ := Aside0.mk (hbox); have n2_ := Aside0.mk ((by rw [hg]; exact (below_size (by repeat (first | (with_reducible first | exact HB.out | apply below_alloc | apply pw_below_drewN | apply below_drew1) | exact HB.out))) : w.heap.size ≤ gb219)); have n3_ := Aside0.mk ((by rw [hg]; exact (below_size (by repeat (first | (with_reducible first | exact HB.out | apply below_alloc | apply pw_below_drewN | apply below_drew1) | exact HB.out))) : w.heap.size ≤ gb219)); clear HB; have HB := n0_; have BK219 := n1_; have GW219 := n2_; have GE219 := n3_; clear n0_ n1_ n2_ n3_; clear hb hbox hg; have hcz11_0 : w10.cell? ⟨gb219, 0, none⟩ = some (.int .i64 a0_0) := (blk_cell BK219.out 0).trans rfl; have hcz11_1 : w10.cell? ⟨gb219, 1, none⟩ = some (.int .i64 a0_1) := (blk_cell BK219.out 1).trans rfl; have hcz11_2 : w10.cell? ⟨gb219, 2, none⟩ = some (.string a0_2) := (blk_cell BK219.out 2).trans rfl; have hfz11_0 := blk_frozen BK219.out 0; have hfz11_1 := blk_frozen BK219.out 1; have hfz11_2 := blk_frozen BK219.out 2) | ((with_reducible refine gate_callee (f := 23) rfl ?_); refine goesL_ (some 10) rfl rfl Tryd.func23 (by kernel_rfl) rfl #[.agg #[.int .i64 a0_0, .int .i64 a0_1, .string a0_2]] rfl (by (try simp only [List.map_toArray, List.map_cons, List.map_nil]); first | done | rfl | (simp only [List.length_drop, List.length_take]; rfl)) ?_; (with_reducible refine (interchangeref04_Right.calls k a0_0 a0_1 a0_2 true _ A2.out).mono ?_); rintro e w12 ⟨rfl, hb⟩; refine ⟨_, rfl, ?_⟩; have n0_ := Aside0.mk (blk_below (g := gb219) (o := .cells #[.int .i64 a0_0, .int .i64 a0_1, .string a0_2] 29 (0, 0)) (by (with_reducible repeat (first | refine blk_drewN ?_ _ | refine blk_drew ?_ | refine blk_alloc ?_ _)); exact BK219.out) hb); have n1_ := Aside0.mk (below_step (by repeat (first | (with_reducible first | exact HB.out | apply below_alloc | apply pw_below_drewN | apply below_drew1 | refine below_set ?_ GE219.out) | exact HB.out)) hb); clear BK219; clear HB; have BK219 := n0_; have HB := n1_; clear n0_ n1_; (try clear hb); (try clear hb2); (try clear hk); (try clear hi); have hcz13_0 : w12.cell? ⟨gb219, 0, none⟩ = some (.int .i64 a0_0) := (blk_cell BK219.out 0).trans rfl; have hcz13_1 : w12.cell? ⟨gb219, 1, none⟩ = some (.int .i64 a0_1) := (blk_cell BK219.out 1).trans rfl; have hcz13_2 : w12.cell? ⟨gb219, 2, none⟩ = some (.string a0_2) := (blk_cell BK219.out 2).trans rfl; have hfz13_0 := blk_frozen BK219.out 0; have hfz13_1 := blk_frozen BK219.out 1; have hfz13_2 := blk_frozen BK219.out 2) | ((with_reducible refine gate_callee (f := 30) rfl ?_); refine goesL_ (some 17) rfl rfl Tryd.func30 (by kernel_rfl) rfl #[.int .i64 2, .int .u64 (IntKind.u64.wrap (a0_1))] rfl (by (try simp only [List.map_toArray, List.map_cons, List.map_nil]); first | done | rfl | (simp only [List.length_drop, List.length_take]; rfl)) ?_; (with_reducible refine (interchangeref01_Put.calls k 2 (IntKind.u64.wrap (a0_1)) t221 t222 _ A4.out).mono ?_); rintro e w14 ⟨rfl, hb⟩; refine ⟨_, rfl, ?_⟩; have n0_ := Aside0.mk (blk_below (g := gb219) (o := .cells #[.int .i64 a0_0, .int .i64 a0_1, .string a0_2] 29 (0, 0)) (by (with_reducible repeat (first | refine blk_drewN ?_ _ | refine blk_drew ?_ | refine blk_alloc ?_ _)); exact BK219.out) hb); have n1_ := Aside0.mk (below_step (by repeat (first | (with_reducible first | exact HB.out | apply below_alloc | apply pw_below_drewN | apply below_drew1 | refine below_set ?_ GE219.out) | exact HB.out)) hb); clear BK219; clear HB; have BK219 := n0_; have HB := n1_; clear n0_ n1_; (try clear hb); (try clear hb2); (try clear hk); (try clear hi); have hcz15_0 : w14.cell? ⟨gb219, 0, none⟩ = some (.int .i64 a0_0) := (blk_cell BK219.out 0).trans rfl; have hcz15_1 : w14.cell? ⟨gb219, 1, none⟩ = some (.int .i64 a0_1) := (blk_cell BK219.out 1).trans rfl; have hcz15_2 : w14.cell? ⟨gb219, 2, none⟩ = some (.string a0_2) := (blk_cell BK219.out 2).trans rfl; have hfz15_0 := blk_frozen BK219.out 0; have hfz15_1 := blk_frozen BK219.out 1; have hfz15_2 := blk_frozen BK219.out 2) | ((with_reducible refine gate_callee (f := 30) rfl ?_); refine goesL_ (some 25) rfl rfl Tryd.func30 (by kernel_rfl) rfl #[.int .i64 4, .int .u64 ((a0_2.size : Int))] rfl (by (try simp only [List.map_toArray, List.map_cons, List.map_nil]); first | done | rfl | (simp only [List.length_drop, List.length_take]; rfl)) ?_; (with_reducible refine (interchangeref01_Put.calls k 4 ((a0_2.size : Int)) t223 t224 _ A5.out).mono ?_); rintro e w16 ⟨rfl, hb⟩; refine ⟨_, rfl, ?_⟩; have n0_ := Aside0.mk (blk_below (g := gb219) (o := .cells #[.int .i64 a0_0, .int .i64 a0_1, .string a0_2] 29 (0, 0)) (by (with_reducible repeat (first | refine blk_drewN ?_ _ | refine blk_drew ?_ | refine blk_alloc ?_ _)); exact BK219.out) hb); have n1_ := Aside0.mk (below_step (by repeat (first | (with_reducible first | exact HB.out | apply below_alloc | apply pw_below_drewN | apply below_drew1 | refine below_set ?_ GE219.out) | exact HB.out)) hb); clear BK219; clear HB; have BK219 := n0_; have HB := n1_; clear n0_ n1_; (try clear hb); (try clear hb2); (try clear hk); (try clear hi); have hcz17_0 : w16.cell? ⟨gb219, 0, none⟩ = some (.int .i64 a0_0) := (blk_cell BK219.out 0).trans rfl; have hcz17_1 : w16.cell? ⟨gb219, 1, none⟩ = some (.int .i64 a0_1) := (blk_cell BK219.out 1).trans rfl; have hcz17_2 : w16.cell? ⟨gb219, 2, none⟩ = some (.string a0_2) := (blk_cell BK219.out 2).trans rfl; have hfz17_0 := blk_frozen BK219.out 0; have hfz17_1 := blk_frozen BK219.out 1; have hfz17_2 := blk_frozen BK219.out 2) | ((with_reducible refine gate_dst (N := 31) rfl ?_); refine Kd.R_lit (Kd.int .u8) _ 5 ?hg (N := 31) ?hd (xs := ([(a0_0) % 256] : List Int)) (inner := [.int .u8 ((a0_0) % 256)]) (ok := fun _ => True) (okp := fun _ => True) ?hr ?hp (fun _ hk => hk) trivial (Below.refl _ _) (Nat.le_refl _) (by simp) ?_; (case hd => rfl); (case hg => rfl); (case hr => first | (go_simp; done) | (go_simp; rfl)); (case hp => exact (Reps.one (show Kd.M (Kd.int .u8) _ _ _ ((a0_0) % 256) [.int .u8 ((a0_0) % 256)] from rfl) (Reps.none _ _))); intro v226 w18 ho19 hb hg_ hnew_; clear hg_ hnew_; (first | rw [← Ny225.out] at ho19 | (simp only [Int.reduceToNat] at ho19; rw [← Ny225.out] at ho19)); have n0_ := Aside0.mk (Kd.R_lower ho19 (below_size (by repeat (first | (with_reducible first | exact HB.out | apply below_alloc | apply pw_below_drewN | apply below_drew1 | refine below_set ?_ GE219.out) | exact HB.out)))); have n1_ := Aside0.mk (blk_below (g := gb219) (o := .cells #[.int .i64 a0_0, .int .i64 a0_1, .string a0_2] 29 (0, 0)) (by (with_reducible repeat (first | refine blk_drewN ?_ _ | refine blk_drew ?_ | refine blk_alloc ?_ _)); exact BK219.out) hb); have n2_ := Aside0.mk (below_step (by repeat (first | (with_reducible first | exact HB.out | apply below_alloc | apply pw_below_drewN | apply below_drew1 | refine below_set ?_ GE219.out) | exact HB.out)) hb); clear BK219; clear HB; have HO227 := n0_; have BK219 := n1_; have HB := n2_; clear n0_ n1_ n2_; clear hb ho19; have hcv20 := own_string (P := Tryd.prog) Tryd.underlying53 Tryd.underlying5 Tryd.underlying9 (Kd.own_of_R HO227.out); have hcz21_0 : w18.cell? ⟨gb219, 0, none⟩ = some (.int .i64 a0_0) := (blk_cell BK219.out 0).trans rfl; have hcz21_1 : w18.cell? ⟨gb219, 1, none⟩ = some (.int .i64 a0_1) := (blk_cell BK219.out 1).trans rfl; have hcz21_2 : w18.cell? ⟨gb219, 2, none⟩ = some (.string a0_2) := (blk_cell BK219.out 2).trans rfl; have hfz21_0 := blk_frozen BK219.out 0; have hfz21_1 := blk_frozen BK219.out 1; have hfz21_2 := blk_frozen BK219.out 2))
            go_ret2
            exact ⟨by first | rfl | (simp [errW_none, errW_some] <;> rfl) | (simp [*, errW_none, errW_some] <;> rfl), by repeat (first | (with_reducible first | exact HB.out | apply below_alloc | apply pw_below_drewN | apply below_drew1 | refine below_set ?_ GE219.out) | exact HB.out)⟩
          · rw [if_neg c9] at H
            exact absurd H (by simp)
        · rw [if_neg c8] at H
          exact absurd H (by simp)
      · rw [if_neg c7] at H
        exact absurd H (by simp)
    · rw [if_neg c6] at H
      exact absurd H (by simp)
  · replace c3 := Bool.eq_false_iff.mpr c3
    subst c3
    have H1 : (some ((⟨#[]⟩ : ByteArray), 1)) = some (r1, r2) := by rw [if_neg (show ¬ (false = true) by decide)] at H; exact H
    clear H
    have H := H1
    clear H1
    simp only [Option.some.injEq, Prod.mk.injEq] at H
    obtain ⟨rfl, rfl⟩ := H
    go_enter Tryd.func19, Tryd.ntmps19
    go_wp2_with (first | ((with_reducible refine gate_dst (N := 1) rfl ?_); refine box_event ?hg (N := 1) ?hd (cs := #[.int .i64 a0_0, .int .i64 a0_1, .string a0_2]) (t := 29) ?hr ?_; (case hd => rfl); (case hg => rfl); (case hr => first | (go_simp; done) | (go_simp; rfl)); intro gb219 hg w22 hbox hb; have n0_ := Aside0.mk (below_step (by repeat (first | (with_reducible first | exact HB.out | apply below_alloc | apply pw_below_drewN | apply below_drew1) | exact HB.out)) hb); have n1_ := Aside0.mk (hbox); have n2_ := Aside0.mk ((by rw [hg]; exact (below_size (by repeat (first | (with_reducible first | exact HB.out | apply below_alloc | apply pw_below_drewN | apply below_drew1) | exact HB.out))) : w.heap.size ≤ gb219)); have n3_ := Aside0.mk ((by rw [hg]; exact (below_size (by repeat (first | (with_reducible first | exact HB.out | apply below_alloc | apply pw_below_drewN | apply below_drew1) | exact HB.out))) : w.heap.size ≤ gb219)); clear HB; have HB := n0_; have BK219 := n1_; have GW219 := n2_; have GE219 := n3_; clear n0_ n1_ n2_ n3_; clear hb hbox hg; have hcz23_0 : w22.cell? ⟨gb219, 0, none⟩ = some (.int .i64 a0_0) := (blk_cell BK219.out 0).trans rfl; have hcz23_1 : w22.cell? ⟨gb219, 1, none⟩ = some (.int .i64 a0_1) := (blk_cell BK219.out 1).trans rfl; have hcz23_2 : w22.cell? ⟨gb219, 2, none⟩ = some (.string a0_2) := (blk_cell BK219.out 2).trans rfl; have hfz23_0 := blk_frozen BK219.out 0; have hfz23_1 := blk_frozen BK219.out 1; have hfz23_2 := blk_frozen BK219.out 2) | ((with_reducible refine gate_callee (f := 23) rfl ?_); refine goesL_ (some 10) rfl rfl Tryd.func23 (by kernel_rfl) rfl #[.agg #[.int .i64 a0_0, .int .i64 a0_1, .string a0_2]] rfl (by (try simp only [List.map_toArray, List.map_cons, List.map_nil]); first | done | rfl | (simp only [List.length_drop, List.length_take]; rfl)) ?_; (with_reducible refine (interchangeref04_Right.calls k a0_0 a0_1 a0_2 false _ A2.out).mono ?_); rintro e w24 ⟨rfl, hb⟩; refine ⟨_, rfl, ?_⟩; have n0_ := Aside0.mk (blk_below (g := gb219) (o := .cells #[.int .i64 a0_0, .int .i64 a0_1, .string a0_2] 29 (0, 0)) (by (with_reducible repeat (first | refine blk_drewN ?_ _ | refine blk_drew ?_ | refine blk_alloc ?_ _)); exact BK219.out) hb); have n1_ := Aside0.mk (below_step (by repeat (first | (with_reducible first | exact HB.out | apply below_alloc | apply pw_below_drewN | apply below_drew1 | refine below_set ?_ GE219.out) | exact HB.out)) hb); clear BK219; clear HB; have BK219 := n0_; have HB := n1_; clear n0_ n1_; (try clear hb); (try clear hb2); (try clear hk); (try clear hi)))
    go_ret2
    exact ⟨by first | rfl | (simp [errW_none, errW_some] <;> rfl) | (simp [*, errW_none, errW_some] <;> rfl), by repeat (first | (with_reducible first | exact HB.out | apply below_alloc | apply pw_below_drewN | apply below_drew1 | refine below_set ?_ GE219.out) | exact HB.out)⟩


end Go.Proofs.YtdalcbhnnfabhaaDoor.F
