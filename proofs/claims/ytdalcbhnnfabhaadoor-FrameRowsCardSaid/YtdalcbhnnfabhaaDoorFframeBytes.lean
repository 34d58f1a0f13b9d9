-- Printed by this session's program pf.py out of the kit's print.
import Derived.Test.YtdalcbhnnfabhaaDoorFbase
import Derived.Test.YtdalcbhnnfabhaaDoorFframeRight
import Derived.Test.YtdalcbhnnfabhaaDoorFnumPut
namespace Go.Proofs.YtdalcbhnnfabhaaDoor.F
open Go.RowKit Go.Proofs.YtdalcbhnnfabhaaDoorW.PrintWords Go.Proofs.YtdalcbhnnfabhaaDoorW.PrintLast Go.Proofs.YtdalcbhnnfabhaaDoorW.PrintMore
attribute [local go_sem] max2_int min2_int max_two min_two max_three min_three max_four min_four
set_option linter.unusedVariables false
set_option linter.unusedSimpArgs false

/-! ### frame_Bytes: function 13 -/
def frame_Bytes.f (k : Nat) (a0_0 : Int) (a0_1 : Int) (a0_2 : ByteArray) : Option (ByteArray × Int) := (frame_Right.f k a0_0 a0_1 a0_2).bind fun t112 => (if t112 = true then ((num_Put.f k 1 (IntKind.u64.wrap (a0_0))).bind fun bt113 => ((num_Put.f k 2 (IntKind.u64.wrap (a0_1))).bind fun bt115 => ((num_Put.f k 4 (IntKind.u64.wrap ((a0_2.size : Int)))).bind fun bt117 => (if bt113.1.size + bt115.1.size ≤ 9223372036854775807 then (if (bt113.1 ++ bt115.1).size + bt117.1.size ≤ 9223372036854775807 then (if ((bt113.1 ++ bt115.1) ++ bt117.1).size + a0_2.size ≤ 9223372036854775807 then ((some (([206] : List Int) : List Int)).bind fun y119 => (if (((bt113.1 ++ bt115.1) ++ bt117.1) ++ a0_2).size + (strOfNums y119).size ≤ 9223372036854775807 then (some ((((bt113.1 ++ bt115.1) ++ bt117.1) ++ a0_2) ++ (strOfNums y119), 0)) else (none))) else (none)) else (none)) else (none))))) else (some ((⟨#[]⟩ : ByteArray), 1)))
theorem frame_Bytes.mono : ∀ a0 a1 a2 k, LeO (frame_Bytes.f k a0 a1 a2) (frame_Bytes.f (k + 1) a0 a1 a2) := by
  intro a0 a1 a2 k
  unfold frame_Bytes.f
  repeat' first
      | (with_reducible exact frame_Right.mono _ _ _ _)
      | (with_reducible exact num_Put.mono _ _ _)
      | (with_reducible exact LeO.refl _)
      | (with_reducible exact LeO.none _)
      | (with_reducible refine LeO.ite ?_ ?_)
      | (with_reducible refine LeO.bind ?_ (fun _ => ?_))
      | exact frame_Right.mono _ _ _ _
      | exact num_Put.mono _ _ _
      | exact LeO.none _
      | refine LeO.ite ?_ ?_
      | refine LeO.bind ?_ (fun _ => ?_)
set_option maxHeartbeats 8000000 in
set_option maxRecDepth 100000 in
theorem frame_Bytes.calls (k : Nat) (a0_0 : Int) (a0_1 : Int) (a0_2 : ByteArray) (r1 : ByteArray) (r2 : Int) (w : World) (hg : Laid w) (h : frame_Bytes.f k a0_0 a0_1 a0_2 = some (r1, r2)) :
    Calls Tryd.prog 13 #[.agg #[.int .i64 a0_0, .int .i64 a0_1, .string a0_2]] w fun e w' => e = .returned (.tuple #[.string r1, .int .i64 r2]) ∧ Below w.heap.size w w' := by
  have HG := Aside0.mk hg
  clear hg
  have hu29 := Tryd.underlying29
  have HB := Aside0.mk (Below.refl w.heap.size w)
  have H : ((frame_Right.f k a0_0 a0_1 a0_2).bind fun t112 => (if t112 = true then ((num_Put.f k 1 (IntKind.u64.wrap (a0_0))).bind fun bt113 => ((num_Put.f k 2 (IntKind.u64.wrap (a0_1))).bind fun bt115 => ((num_Put.f k 4 (IntKind.u64.wrap ((a0_2.size : Int)))).bind fun bt117 => (if bt113.1.size + bt115.1.size ≤ 9223372036854775807 then (if (bt113.1 ++ bt115.1).size + bt117.1.size ≤ 9223372036854775807 then (if ((bt113.1 ++ bt115.1) ++ bt117.1).size + a0_2.size ≤ 9223372036854775807 then ((some (([206] : List Int) : List Int)).bind fun y119 => (if (((bt113.1 ++ bt115.1) ++ bt117.1) ++ a0_2).size + (strOfNums y119).size ≤ 9223372036854775807 then (some ((((bt113.1 ++ bt115.1) ++ bt117.1) ++ a0_2) ++ (strOfNums y119), 0)) else (none))) else (none)) else (none)) else (none))))) else (some ((⟨#[]⟩ : ByteArray), 1)))) = some (r1, r2) := h
  clear h
  replace H := Option.bind_eq_some_iff.mp H
  obtain ⟨t112, A20, H⟩ := H
  replace H : (if t112 = true then ((num_Put.f k 1 (IntKind.u64.wrap (a0_0))).bind fun bt113 => ((num_Put.f k 2 (IntKind.u64.wrap (a0_1))).bind fun bt115 => ((num_Put.f k 4 (IntKind.u64.wrap ((a0_2.size : Int)))).bind fun bt117 => (if bt113.1.size + bt115.1.size ≤ 9223372036854775807 then (if (bt113.1 ++ bt115.1).size + bt117.1.size ≤ 9223372036854775807 then (if ((bt113.1 ++ bt115.1) ++ bt117.1).size + a0_2.size ≤ 9223372036854775807 then ((some (([206] : List Int) : List Int)).bind fun y119 => (if (((bt113.1 ++ bt115.1) ++ bt117.1) ++ a0_2).size + (strOfNums y119).size ≤ 9223372036854775807 then (some ((((bt113.1 ++ bt115.1) ++ bt117.1) ++ a0_2) ++ (strOfNums y119), 0)) else (none))) else (none)) else (none)) else (none))))) else (some ((⟨#[]⟩ : ByteArray), 1))) = some (r1, r2) := H
  have A2 := Aside0.mk A20
  clear A20
  by_cases c3 : t112 = true
  · subst c3
    have H1 : ((num_Put.f k 1 (IntKind.u64.wrap (a0_0))).bind fun bt113 => ((num_Put.f k 2 (IntKind.u64.wrap (a0_1))).bind fun bt115 => ((num_Put.f k 4 (IntKind.u64.wrap ((a0_2.size : Int)))).bind fun bt117 => (if bt113.1.size + bt115.1.size ≤ 9223372036854775807 then (if (bt113.1 ++ bt115.1).size + bt117.1.size ≤ 9223372036854775807 then (if ((bt113.1 ++ bt115.1) ++ bt117.1).size + a0_2.size ≤ 9223372036854775807 then ((some (([206] : List Int) : List Int)).bind fun y119 => (if (((bt113.1 ++ bt115.1) ++ bt117.1) ++ a0_2).size + (strOfNums y119).size ≤ 9223372036854775807 then (some ((((bt113.1 ++ bt115.1) ++ bt117.1) ++ a0_2) ++ (strOfNums y119), 0)) else (none))) else (none)) else (none)) else (none))))) = some (r1, r2) := by rw [if_pos rfl] at H; exact H
    clear H
    have H := H1
    clear H1
    replace H := Option.bind_eq_some_iff.mp H
    obtain ⟨⟨t113, t114⟩, A40, H⟩ := H
    replace H : ((num_Put.f k 2 (IntKind.u64.wrap (a0_1))).bind fun bt115 => ((num_Put.f k 4 (IntKind.u64.wrap ((a0_2.size : Int)))).bind fun bt117 => (if t113.size + bt115.1.size ≤ 9223372036854775807 then (if (t113 ++ bt115.1).size + bt117.1.size ≤ 9223372036854775807 then (if ((t113 ++ bt115.1) ++ bt117.1).size + a0_2.size ≤ 9223372036854775807 then ((some (([206] : List Int) : List Int)).bind fun y119 => (if (((t113 ++ bt115.1) ++ bt117.1) ++ a0_2).size + (strOfNums y119).size ≤ 9223372036854775807 then (some ((((t113 ++ bt115.1) ++ bt117.1) ++ a0_2) ++ (strOfNums y119), 0)) else (none))) else (none)) else (none)) else (none)))) = some (r1, r2) := H
    have A4 := Aside0.mk A40
    clear A40
    replace H := Option.bind_eq_some_iff.mp H
    obtain ⟨⟨t115, t116⟩, A50, H⟩ := H
    replace H : ((num_Put.f k 4 (IntKind.u64.wrap ((a0_2.size : Int)))).bind fun bt117 => (if t113.size + t115.size ≤ 9223372036854775807 then (if (t113 ++ t115).size + bt117.1.size ≤ 9223372036854775807 then (if ((t113 ++ t115) ++ bt117.1).size + a0_2.size ≤ 9223372036854775807 then ((some (([206] : List Int) : List Int)).bind fun y119 => (if (((t113 ++ t115) ++ bt117.1) ++ a0_2).size + (strOfNums y119).size ≤ 9223372036854775807 then (some ((((t113 ++ t115) ++ bt117.1) ++ a0_2) ++ (strOfNums y119), 0)) else (none))) else (none)) else (none)) else (none))) = some (r1, r2) := H
    have A5 := Aside0.mk A50
    clear A50
    replace H := Option.bind_eq_some_iff.mp H
    obtain ⟨⟨t117, t118⟩, A60, H⟩ := H
    replace H : (if t113.size + t115.size ≤ 9223372036854775807 then (if (t113 ++ t115).size + t117.size ≤ 9223372036854775807 then (if ((t113 ++ t115) ++ t117).size + a0_2.size ≤ 9223372036854775807 then ((some (([206] : List Int) : List Int)).bind fun y119 => (if (((t113 ++ t115) ++ t117) ++ a0_2).size + (strOfNums y119).size ≤ 9223372036854775807 then (some ((((t113 ++ t115) ++ t117) ++ a0_2) ++ (strOfNums y119), 0)) else (none))) else (none)) else (none)) else (none)) = some (r1, r2) := H
    have A6 := Aside0.mk A60
    clear A60
    by_cases c7 : t113.size + t115.size ≤ 9223372036854775807
    · rw [if_pos c7] at H
      have c7b0 := eq_true c7
      have c7b1 : decide (t113.size + t115.size ≤ 9223372036854775807) = true := decide_eq_true c7
      try have c7b2 : (9223372036854775807 < t113.size + t115.size) = False := eq_false (Nat.not_lt.2 c7)
      by_cases c8 : (t113 ++ t115).size + t117.size ≤ 9223372036854775807
      · rw [if_pos c8] at H
        have c8b0 := eq_true c8
        have c8b1 : decide ((t113 ++ t115).size + t117.size ≤ 9223372036854775807) = true := decide_eq_true c8
        try have c8b2 : (9223372036854775807 < (t113 ++ t115).size + t117.size) = False := eq_false (Nat.not_lt.2 c8)
        by_cases c9 : ((t113 ++ t115) ++ t117).size + a0_2.size ≤ 9223372036854775807
        · rw [if_pos c9] at H
          have c9b0 := eq_true c9
          have c9b1 : decide (((t113 ++ t115) ++ t117).size + a0_2.size ≤ 9223372036854775807) = true := decide_eq_true c9
          try have c9b2 : (9223372036854775807 < ((t113 ++ t115) ++ t117).size + a0_2.size) = False := eq_false (Nat.not_lt.2 c9)
          obtain ⟨y119, hy119⟩ : ∃ y_ : List Int, y_ = (([206] : List Int)) := ⟨_, rfl⟩
          replace H : (if (((t113 ++ t115) ++ t117) ++ a0_2).size + (strOfNums y119).size ≤ 9223372036854775807 then (some ((((t113 ++ t115) ++ t117) ++ a0_2) ++ (strOfNums y119), 0)) else (none)) = some (r1, r2) := by first | (rw [hy119]; with_reducible exact H) | (have H2_ := (Option.bind_some _ _).symm.trans H; rw [hy119]; with_reducible exact H2_) | (have H2_ := (Option.bind_some _ _).symm.trans H; with_reducible exact H2_) | with_reducible exact H | (rw [hy119]; exact H) | exact H
          have Ny119 := Aside0.mk hy119
          clear hy119
          by_cases c10 : (((t113 ++ t115) ++ t117) ++ a0_2).size + (strOfNums y119).size ≤ 9223372036854775807
          · rw [if_pos c10] at H
            have c10b0 := eq_true c10
            have c10b1 : decide ((((t113 ++ t115) ++ t117) ++ a0_2).size + (strOfNums y119).size ≤ 9223372036854775807) = true := decide_eq_true c10
            try have c10b2 : (9223372036854775807 < (((t113 ++ t115) ++ t117) ++ a0_2).size + (strOfNums y119).size) = False := eq_false (Nat.not_lt.2 c10)
            simp only [Option.some.injEq, Prod.mk.injEq] at H
            obtain ⟨rfl, rfl⟩ := H
            have hw_ : IntKind.u64.wrap ((a0_2.size : Int)) = ((a0_2.size : Int)) := IntWalk.u64_in _ (by omega)
            have A6w := A6.out
            rw [hw_] at A6w
            clear A6
            have A6 := Aside0.mk A6w
            clear A6w hw_
            go_enter Tryd.func13, Tryd.ntmps13
            go_wp2_with (first | ((with_reducible refine gate_dst (N := 1) rfl ?_); refine box_event ?hg (N := 1) ?hd (cs := #[.int .i64 a0_0, .int .i64 a0_1, .string a0_2]) (t := 29) ?hr ?_; (case hd => rfl); (case hg => rfl); (case hr => first | (go_simp; done) | (go_simp; rfl)); intro gb111 hg w11 hbox hb; have n0_ := Aside0.mk (below_step (by repeat (first | (with_reducible first | exact HB.out | apply below_alloc | apply pw_below_drewN | apply below_drew1) | exact HB.out)) hb); have n1_ := Aside0.mk (hbox); have n2_ := Aside0.mk ((by rw [hg]; exact (below_size (by repeat (first | (with_reducible first | exact HB.out | apply below_alloc | apply pw_below_drewN | apply below_drew1) | exact HB.out))) : w.heap.size ≤ gb111)); have n3_ := Aside0.mk ((by rw [hg]; exact (below_size (by repeat (first | (with_reducible first | exact HB.out | apply below_alloc | apply pw_below_drewN | apply below_drew1) | exact HB.out))) : w.heap.size ≤ gb111)); clear HB; have HB := n0_; have BK111 := n1_; have GW111 := n2_; have GE111 := n3_; clear n0_ n1_ n2_ n3_; clear hb hbox hg; have hcz12_0 : w11.cell? ⟨gb111, 0, none⟩ = some (.int .i64 a0_0) := (blk_cell BK111.out 0).trans rfl; have hcz12_1 : w11.cell? ⟨gb111, 1, none⟩ = some (.int .i64 a0_1) := (blk_cell BK111.out 1).trans rfl; have hcz12_2 : w11.cell? ⟨gb111, 2, none⟩ = some (.string a0_2) := (blk_cell BK111.out 2).trans rfl; have hfz12_0 := blk_frozen BK111.out 0; have hfz12_1 := blk_frozen BK111.out 1; have hfz12_2 := blk_frozen BK111.out 2) | ((with_reducible refine gate_callee (f := 15) rfl ?_); refine goesL_ (some 11) rfl rfl Tryd.func15 (by kernel_rfl) rfl #[.agg #[.int .i64 a0_0, .int .i64 a0_1, .string a0_2]] rfl (by (try simp only [List.map_toArray, List.map_cons, List.map_nil]); first | done | rfl | (simp only [List.length_drop, List.length_take]; rfl)) ?_; (with_reducible refine (frame_Right.calls k a0_0 a0_1 a0_2 true _ ?lg A2.out).mono ?_); (case lg => exact (HG.out.below (by repeat (first | (with_reducible first | exact HB.out | apply below_alloc | apply pw_below_drewN | apply below_drew1 | refine below_set ?_ GE111.out) | exact HB.out)))); rintro e w13 ⟨rfl, hb⟩; refine ⟨_, rfl, ?_⟩; have n0_ := Aside0.mk (blk_below (g := gb111) (o := .cells #[.int .i64 a0_0, .int .i64 a0_1, .string a0_2] 29 (0, 0)) (by (with_reducible repeat (first | refine blk_drewN ?_ _ | refine blk_drew ?_ | refine blk_alloc ?_ _)); exact BK111.out) hb); have n1_ := Aside0.mk (below_step (by repeat (first | (with_reducible first | exact HB.out | apply below_alloc | apply pw_below_drewN | apply below_drew1 | refine below_set ?_ GE111.out) | exact HB.out)) hb); clear BK111; clear HB; have BK111 := n0_; have HB := n1_; clear n0_ n1_; (try clear hb); (try clear hb2); (try clear hk); (try clear hi); have hcz14_0 : w13.cell? ⟨gb111, 0, none⟩ = some (.int .i64 a0_0) := (blk_cell BK111.out 0).trans rfl; have hcz14_1 : w13.cell? ⟨gb111, 1, none⟩ = some (.int .i64 a0_1) := (blk_cell BK111.out 1).trans rfl; have hcz14_2 : w13.cell? ⟨gb111, 2, none⟩ = some (.string a0_2) := (blk_cell BK111.out 2).trans rfl; have hfz14_0 := blk_frozen BK111.out 0; have hfz14_1 := blk_frozen BK111.out 1; have hfz14_2 := blk_frozen BK111.out 2) | ((with_reducible refine gate_callee (f := 25) rfl ?_); refine goesL_ (some 17) rfl rfl Tryd.func25 (by kernel_rfl) rfl #[.int .i64 1, .int .u64 (IntKind.u64.wrap (a0_0))] rfl (by (try simp only [List.map_toArray, List.map_cons, List.map_nil]); first | done | rfl | (simp only [List.length_drop, List.length_take]; rfl)) ?_; (with_reducible refine (num_Put.calls k 1 (IntKind.u64.wrap (a0_0)) t113 t114 _ ?lg A4.out).mono ?_); (case lg => exact (HG.out.below (by repeat (first | (with_reducible first | exact HB.out | apply below_alloc | apply pw_below_drewN | apply below_drew1 | refine below_set ?_ GE111.out) | exact HB.out)))); rintro e w15 ⟨rfl, hb⟩; refine ⟨_, rfl, ?_⟩; have n0_ := Aside0.mk (blk_below (g := gb111) (o := .cells #[.int .i64 a0_0, .int .i64 a0_1, .string a0_2] 29 (0, 0)) (by (with_reducible repeat (first | refine blk_drewN ?_ _ | refine blk_drew ?_ | refine blk_alloc ?_ _)); exact BK111.out) hb); have n1_ := Aside0.mk (below_step (by repeat (first | (with_reducible first | exact HB.out | apply below_alloc | apply pw_below_drewN | apply below_drew1 | refine below_set ?_ GE111.out) | exact HB.out)) hb); clear BK111; clear HB; have BK111 := n0_; have HB := n1_; clear n0_ n1_; (try clear hb); (try clear hb2); (try clear hk); (try clear hi); have hcz16_0 : w15.cell? ⟨gb111, 0, none⟩ = some (.int .i64 a0_0) := (blk_cell BK111.out 0).trans rfl; have hcz16_1 : w15.cell? ⟨gb111, 1, none⟩ = some (.int .i64 a0_1) := (blk_cell BK111.out 1).trans rfl; have hcz16_2 : w15.cell? ⟨gb111, 2, none⟩ = some (.string a0_2) := (blk_cell BK111.out 2).trans rfl; have hfz16_0 := blk_frozen BK111.out 0; have hfz16_1 := blk_frozen BK111.out 1; have hfz16_2 := blk_frozen BK111.out 2) | ((with_reducible refine gate_callee (f := 25) rfl ?_); refine goesL_ (some 24) rfl rfl Tryd.func25 (by kernel_rfl) rfl #[.int .i64 2, .int .u64 (IntKind.u64.wrap (a0_1))] rfl (by (try simp only [List.map_toArray, List.map_cons, List.map_nil]); first | done | rfl | (simp only [List.length_drop, List.length_take]; rfl)) ?_; (with_reducible refine (num_Put.calls k 2 (IntKind.u64.wrap (a0_1)) t115 t116 _ ?lg A5.out).mono ?_); (case lg => exact (HG.out.below (by repeat (first | (with_reducible first | exact HB.out | apply below_alloc | apply pw_below_drewN | apply below_drew1 | refine below_set ?_ GE111.out) | exact HB.out)))); rintro e w17 ⟨rfl, hb⟩; refine ⟨_, rfl, ?_⟩; have n0_ := Aside0.mk (blk_below (g := gb111) (o := .cells #[.int .i64 a0_0, .int .i64 a0_1, .string a0_2] 29 (0, 0)) (by (with_reducible repeat (first | refine blk_drewN ?_ _ | refine blk_drew ?_ | refine blk_alloc ?_ _)); exact BK111.out) hb); have n1_ := Aside0.mk (below_step (by repeat (first | (with_reducible first | exact HB.out | apply below_alloc | apply pw_below_drewN | apply below_drew1 | refine below_set ?_ GE111.out) | exact HB.out)) hb); clear BK111; clear HB; have BK111 := n0_; have HB := n1_; clear n0_ n1_; (try clear hb); (try clear hb2); (try clear hk); (try clear hi); have hcz18_0 : w17.cell? ⟨gb111, 0, none⟩ = some (.int .i64 a0_0) := (blk_cell BK111.out 0).trans rfl; have hcz18_1 : w17.cell? ⟨gb111, 1, none⟩ = some (.int .i64 a0_1) := (blk_cell BK111.out 1).trans rfl; have hcz18_2 : w17.cell? ⟨gb111, 2, none⟩ = some (.string a0_2) := (blk_cell BK111.out 2).trans rfl; have hfz18_0 := blk_frozen BK111.out 0; have hfz18_1 := blk_frozen BK111.out 1; have hfz18_2 := blk_frozen BK111.out 2) | ((with_reducible refine gate_callee (f := 25) rfl ?_); refine goesL_ (some 32) rfl rfl Tryd.func25 (by kernel_rfl) rfl #[.int .i64 4, .int .u64 ((a0_2.size : Int))] rfl (by (try simp only [List.map_toArray, List.map_cons, List.map_nil]); first | done | rfl | (simp only [List.length_drop, List.length_take]; rfl)) ?_; (with_reducible refine (num_Put.calls k 4 ((a0_2.size : Int)) t117 t118 _ ?lg A6.out).mono ?_); (case lg => exact (HG.out.below (by repeat (first | (with_reducible first | exact HB.out | apply below_alloc | apply pw_below_drewN | apply below_drew1 | refine below_set ?_ GE111.out) | exact HB.out)))); rintro e w19 ⟨rfl, hb⟩; refine ⟨_, rfl, ?_⟩; have n0_ := Aside0.mk (blk_below (g := gb111) (o := .cells #[.int .i64 a0_0, .int .i64 a0_1, .string a0_2] 29 (0, 0)) (by (with_reducible repeat (first | refine blk_drewN ?_ _ | refine blk_drew ?_ | refine blk_alloc ?_ _)); exact BK111.out) hb); have n1_ := Aside0.mk (below_step (by repeat (first | (with_reducible first | exact HB.out | apply below_alloc | apply pw_below_drewN | apply below_drew1 | refine below_set ?_ GE111.out) | exact HB.out)) hb); clear BK111; clear HB; have BK111 := n0_; have HB := n1_; clear n0_ n1_; (try clear hb); (try clear hb2); (try clear hk); (try clear hi); have hcz20_0 : w19.cell? ⟨gb111, 0, none⟩ = some (.int .i64 a0_0) := (blk_cell BK111.out 0).trans rfl; have hcz20_1 : w19.cell? ⟨gb111, 1, none⟩ = some (.int .i64 a0_1) := (blk_cell BK111.out 1).trans rfl; have hcz20_2 : w19.cell? ⟨gb111, 2, none⟩ = some (.string a0_2) := (blk_cell BK111.out 2).trans rfl; have hfz20_0 := blk_frozen BK111.out 0; have hfz20_1 := blk_frozen BK111.out 1; have hfz20_2 := blk_frozen BK111.out 2) | ((with_reducible refine gate_dst (N := 43) rfl ?_); refine Kd.R_lit (Kd.int .u8) _ 5 ?hg (N := 43) ?hd (xs := ([206] : List Int)) (inner := [.int .u8 206]) (ok := fun _ => True) (okp := fun _ => True) ?hr ?hp (fun _ hk => hk) trivial (Below.refl _ _) (Nat.le_refl _) (by simp) ?_; (case hd => rfl); (case hg => rfl); (case hr => first | (go_simp; done) | (go_simp; rfl)); (case hp => exact (Reps.one (show Kd.M (Kd.int .u8) _ _ _ 206 [.int .u8 206] from rfl) (Reps.none _ _))); intro v120 w21 ho22 hb hg_ hnew_; clear hg_ hnew_; (first | rw [← Ny119.out] at ho22 | (simp only [Int.reduceToNat] at ho22; rw [← Ny119.out] at ho22)); have n0_ := Aside0.mk (Kd.R_lower ho22 (below_size (by repeat (first | (with_reducible first | exact HB.out | apply below_alloc | apply pw_below_drewN | apply below_drew1 | refine below_set ?_ GE111.out) | exact HB.out)))); have n1_ := Aside0.mk (blk_below (g := gb111) (o := .cells #[.int .i64 a0_0, .int .i64 a0_1, .string a0_2] 29 (0, 0)) (by (with_reducible repeat (first | refine blk_drewN ?_ _ | refine blk_drew ?_ | refine blk_alloc ?_ _)); exact BK111.out) hb); have n2_ := Aside0.mk (below_step (by repeat (first | (with_reducible first | exact HB.out | apply below_alloc | apply pw_below_drewN | apply below_drew1 | refine below_set ?_ GE111.out) | exact HB.out)) hb); clear BK111; clear HB; have HO121 := n0_; have BK111 := n1_; have HB := n2_; clear n0_ n1_ n2_; clear hb ho22; have hcv23 := own_string (P := Tryd.prog) Tryd.underlying53 Tryd.underlying5 Tryd.underlying9 (Kd.own_of_R HO121.out)))
            go_ret2
            exact ⟨by first | rfl | (simp [errW_none, errW_some] <;> rfl) | (simp [*, errW_none, errW_some] <;> rfl), by repeat (first | (with_reducible first | exact HB.out | apply below_alloc | apply pw_below_drewN | apply below_drew1 | refine below_set ?_ GE111.out) | exact HB.out)⟩
          · rw [if_neg c10] at H
            exact absurd H (by simp)
        · rw [if_neg c9] at H
          exact absurd H (by simp)
      · rw [if_neg c8] at H
        exact absurd H (by simp)
    · rw [if_neg c7] at H
      exact absurd H (by simp)
  · replace c3 := Bool.eq_false_iff.mpr c3
    subst c3
    have H1 : (some ((⟨#[]⟩ : ByteArray), 1)) = some (r1, r2) := by rw [if_neg (show ¬ (false = true) by decide)] at H; exact H
    clear H
    have H := H1
    clear H1
    simp only [Option.some.injEq, Prod.mk.injEq] at H
    obtain ⟨rfl, rfl⟩ := H
    go_enter Tryd.func13, Tryd.ntmps13
    go_wp2_with (first | ((with_reducible refine gate_dst (N := 1) rfl ?_); refine box_event ?hg (N := 1) ?hd (cs := #[.int .i64 a0_0, .int .i64 a0_1, .string a0_2]) (t := 29) ?hr ?_; (case hd => rfl); (case hg => rfl); (case hr => first | (go_simp; done) | (go_simp; rfl)); intro gb111 hg w24 hbox hb; have n0_ := Aside0.mk (below_step (by repeat (first | (with_reducible first | exact HB.out | apply below_alloc | apply pw_below_drewN | apply below_drew1) | exact HB.out)) hb); have n1_ := Aside0.mk (hbox); have n2_ := Aside0.mk ((by rw [hg]; exact (below_size (by repeat (first | (with_reducible first | exact HB.out | apply below_alloc | apply pw_below_drewN | apply below_drew1) | exact HB.out))) : w.heap.size ≤ gb111)); have n3_ := Aside0.mk ((by rw [hg]; exact (below_size (by repeat (first | (with_reducible first | exact HB.out | apply below_alloc | apply pw_below_drewN | apply below_drew1) | exact HB.out))) : w.heap.size ≤ gb111)); clear HB; have HB := n0_; have BK111 := n1_; have GW111 := n2_; have GE111 := n3_; clear n0_ n1_ n2_ n3_; clear hb hbox hg; have hcz25_0 : w24.cell? ⟨gb111, 0, none⟩ = some (.int .i64 a0_0) := (blk_cell BK111.out 0).trans rfl; have hcz25_1 : w24.cell? ⟨gb111, 1, none⟩ = some (.int .i64 a0_1) := (blk_cell BK111.out 1).trans rfl; have hcz25_2 : w24.cell? ⟨gb111, 2, none⟩ = some (.string a0_2) := (blk_cell BK111.out 2).trans rfl; have hfz25_0 := blk_frozen BK111.out 0; have hfz25_1 := blk_frozen BK111.out 1; have hfz25_2 := blk_frozen BK111.out 2) | ((with_reducible refine gate_callee (f := 15) rfl ?_); refine goesL_ (some 11) rfl rfl Tryd.func15 (by kernel_rfl) rfl #[.agg #[.int .i64 a0_0, .int .i64 a0_1, .string a0_2]] rfl (by (try simp only [List.map_toArray, List.map_cons, List.map_nil]); first | done | rfl | (simp only [List.length_drop, List.length_take]; rfl)) ?_; (with_reducible refine (frame_Right.calls k a0_0 a0_1 a0_2 false _ ?lg A2.out).mono ?_); (case lg => exact (HG.out.below (by repeat (first | (with_reducible first | exact HB.out | apply below_alloc | apply pw_below_drewN | apply below_drew1 | refine below_set ?_ GE111.out) | exact HB.out)))); rintro e w26 ⟨rfl, hb⟩; refine ⟨_, rfl, ?_⟩; have n0_ := Aside0.mk (blk_below (g := gb111) (o := .cells #[.int .i64 a0_0, .int .i64 a0_1, .string a0_2] 29 (0, 0)) (by (with_reducible repeat (first | refine blk_drewN ?_ _ | refine blk_drew ?_ | refine blk_alloc ?_ _)); exact BK111.out) hb); have n1_ := Aside0.mk (below_step (by repeat (first | (with_reducible first | exact HB.out | apply below_alloc | apply pw_below_drewN | apply below_drew1 | refine below_set ?_ GE111.out) | exact HB.out)) hb); clear BK111; clear HB; have BK111 := n0_; have HB := n1_; clear n0_ n1_; (try clear hb); (try clear hb2); (try clear hk); (try clear hi)))
    go_ret2
    exact ⟨by first | rfl | (simp [errW_none, errW_some] <;> rfl) | (simp [*, errW_none, errW_some] <;> rfl), by repeat (first | (with_reducible first | exact HB.out | apply below_alloc | apply pw_below_drewN | apply below_drew1 | refine below_set ?_ GE111.out) | exact HB.out)⟩


end Go.Proofs.YtdalcbhnnfabhaaDoor.F
