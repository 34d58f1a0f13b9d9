-- pruned: for the answer 'true' alone
-- Printed by this session's program pf.py out of the kit's print.
import Derived.Test.YtoldelpmmlpgjaaDoorFbase
import Derived.Test.YtoldelpmmlpgjaaDoorFHserve
import Derived.Test.YtoldelpmmlpgjaaDoorFdialAgree
import Derived.Test.YtoldelpmmlpgjaaDoorFinterchangelaw11shown
import Derived.Test.YtoldelpmmlpgjaaDoorFeq23
namespace Go.Proofs.YtoldelpmmlpgjaaDoor.F
open Go.RowKit Go.Proofs.YtoldelpmmlpgjaaDoorW.PrintWords Go.Proofs.YtoldelpmmlpgjaaDoorW.PrintLast Go.Proofs.YtoldelpmmlpgjaaDoorW.PrintMore
attribute [local go_sem] max2_int min2_int max_two min_two max_three min_three max_four min_four
set_option linter.unusedVariables false
set_option linter.unusedSimpArgs false

attribute [local go_sem high] eqA23
/-! ### interchangelaw11_DialTune: function 3 -/
def interchangelaw11_DialTune.j0 : Nat → Bool → Int → Bool → Int → Int → Int → Int → Int → Int → Int → Int → Int → Option (Bool)
  | 0, _, _, _, _, _, _, _, _, _, _, _, _ => none
  | k + 1, x5, x7, x33, x117000, x117001, x117002, x118000, x118001, x118002, x124000, x124001, x124002 => if x33 = true then (some false) else (if x7 = 0 then (if x5 = true then ((serve_Right.f x124000 x124001 x124002).bind fun t130 => (if t130 = true then (if x124000 ≤ x117000 then (if x124001 ≤ x117001 then (if x124002 ≤ x117002 then (if x118000 = 0 then (if x118001 = 0 then (some (decide (x124002 ≤ x118002))) else (if x124001 ≤ x118001 then (some (decide (x124002 ≤ x118002))) else (some false))) else (if x124000 ≤ x118000 then (if x118001 = 0 then (some (decide (x124002 ≤ x118002))) else (if x124001 ≤ x118001 then (some (decide (x124002 ≤ x118002))) else (some false))) else (some false))) else (some false)) else (some false)) else (some false)) else (some false))) else (some false)) else (if x5 = true then (some (x124000 == 0 && (x124001 == 0 && (x124002 == 0)))) else (some false)))
def interchangelaw11_DialTune.f (k : Nat) (a0_0 : Int) (a0_1 : Int) (a0_2 : Int) (a1_0 : Int) (a1_1 : Int) (a1_2 : Int) : Option (Bool) := (interchangelaw11_shown.f k).bind fun t118 => ((dial_Agree.f k a0_0 a0_1 a0_2 a1_0 a1_1 a1_2).bind fun bt119 => ((dial_Agree.f k a0_0 a0_1 a0_2 a0_0 a0_1 a0_2).bind fun bt124 => ((serve_Right.f a0_0 a0_1 a0_2).bind fun t129 => (if t129 = true then (if bt124.2.2.2 = 0 then (interchangelaw11_DialTune.j0 k t118 bt119.2.2.2 (!(bt124.1 == a0_0) || (!(bt124.2.1 == a0_1) || (!(bt124.2.2.1 == a0_2)))) a0_0 a0_1 a0_2 a1_0 a1_1 a1_2 bt119.1 bt119.2.1 bt119.2.2.1) else (interchangelaw11_DialTune.j0 k t118 bt119.2.2.2 true a0_0 a0_1 a0_2 a1_0 a1_1 a1_2 bt119.1 bt119.2.1 bt119.2.2.1)) else (interchangelaw11_DialTune.j0 k t118 bt119.2.2.2 false a0_0 a0_1 a0_2 a1_0 a1_1 a1_2 bt119.1 bt119.2.1 bt119.2.2.1)))))
theorem interchangelaw11_DialTune.mono_l : ∀ k, (∀ y0 y1 y2 y3 y4 y5 y6 y7 y8 y9 y10 y11, LeO (interchangelaw11_DialTune.j0 k y0 y1 y2 y3 y4 y5 y6 y7 y8 y9 y10 y11) (interchangelaw11_DialTune.j0 (k + 1) y0 y1 y2 y3 y4 y5 y6 y7 y8 y9 y10 y11))
  | 0 => fun _ _ _ _ _ _ _ _ _ _ _ _ r h => by simp [interchangelaw11_DialTune.j0] at h
  | k + 1 => by
    have ih0 := interchangelaw11_DialTune.mono_l k
    · intro y0 y1 y2 y3 y4 y5 y6 y7 y8 y9 y10 y11
      unfold interchangelaw11_DialTune.j0
      repeat' first
      | (with_reducible exact ih0 _ _ _ _ _ _ _ _ _ _ _ _)
      | (with_reducible exact dial_Agree.mono _ _ _ _ _ _ _)
      | (with_reducible exact interchangelaw11_shown.mono _)
      | (with_reducible exact LeO.refl _)
      | (with_reducible exact LeO.none _)
      | (with_reducible refine LeO.ite ?_ ?_)
      | (with_reducible refine LeO.bind ?_ (fun _ => ?_))
      | exact ih0 _ _ _ _ _ _ _ _ _ _ _ _
      | exact dial_Agree.mono _ _ _ _ _ _ _
      | exact interchangelaw11_shown.mono _
      | exact LeO.none _
      | refine LeO.ite ?_ ?_
      | refine LeO.bind ?_ (fun _ => ?_)
theorem interchangelaw11_DialTune.mono : ∀ a0 a1 a2 a3 a4 a5 k, LeO (interchangelaw11_DialTune.f k a0 a1 a2 a3 a4 a5) (interchangelaw11_DialTune.f (k + 1) a0 a1 a2 a3 a4 a5) := by
  intro a0 a1 a2 a3 a4 a5 k
  have ih0 := interchangelaw11_DialTune.mono_l k
  unfold interchangelaw11_DialTune.f
  repeat' first
      | (with_reducible exact ih0 _ _ _ _ _ _ _ _ _ _ _ _)
      | (with_reducible exact dial_Agree.mono _ _ _ _ _ _ _)
      | (with_reducible exact interchangelaw11_shown.mono _)
      | (with_reducible exact LeO.refl _)
      | (with_reducible exact LeO.none _)
      | (with_reducible refine LeO.ite ?_ ?_)
      | (with_reducible refine LeO.bind ?_ (fun _ => ?_))
      | exact ih0 _ _ _ _ _ _ _ _ _ _ _ _
      | exact dial_Agree.mono _ _ _ _ _ _ _
      | exact interchangelaw11_shown.mono _
      | exact LeO.none _
      | refine LeO.ite ?_ ?_
      | refine LeO.bind ?_ (fun _ => ?_)
set_option maxHeartbeats 8000000 in
set_option maxRecDepth 100000 in
theorem interchangelaw11_DialTune.calls (k : Nat) (a0_0 : Int) (a0_1 : Int) (a0_2 : Int) (a1_0 : Int) (a1_1 : Int) (a1_2 : Int) (w : World) (h : interchangelaw11_DialTune.f k a0_0 a0_1 a0_2 a1_0 a1_1 a1_2 = some true) :
    Calls Tryd.prog 3 #[.agg #[.int .i64 a0_0, .int .i64 a0_1, .int .i64 a0_2], .agg #[.int .i64 a1_0, .int .i64 a1_1, .int .i64 a1_2]] w fun e w' => e = .returned (.bool true) ∧ Below w.heap.size w w' := by
  have hu23 := Tryd.underlying23
  have HB := Aside0.mk (Below.refl w.heap.size w)
  have H : ((interchangelaw11_shown.f k).bind fun t118 => ((dial_Agree.f k a0_0 a0_1 a0_2 a1_0 a1_1 a1_2).bind fun bt119 => ((dial_Agree.f k a0_0 a0_1 a0_2 a0_0 a0_1 a0_2).bind fun bt124 => ((serve_Right.f a0_0 a0_1 a0_2).bind fun t129 => (if t129 = true then (if bt124.2.2.2 = 0 then (interchangelaw11_DialTune.j0 k t118 bt119.2.2.2 (!(bt124.1 == a0_0) || (!(bt124.2.1 == a0_1) || (!(bt124.2.2.1 == a0_2)))) a0_0 a0_1 a0_2 a1_0 a1_1 a1_2 bt119.1 bt119.2.1 bt119.2.2.1) else (interchangelaw11_DialTune.j0 k t118 bt119.2.2.2 true a0_0 a0_1 a0_2 a1_0 a1_1 a1_2 bt119.1 bt119.2.1 bt119.2.2.1)) else (interchangelaw11_DialTune.j0 k t118 bt119.2.2.2 false a0_0 a0_1 a0_2 a1_0 a1_1 a1_2 bt119.1 bt119.2.1 bt119.2.2.1)))))) = some true := h
  clear h
  replace H := Option.bind_eq_some_iff.mp H
  obtain ⟨t118, A30, H⟩ := H
  replace H : ((dial_Agree.f k a0_0 a0_1 a0_2 a1_0 a1_1 a1_2).bind fun bt119 => ((dial_Agree.f k a0_0 a0_1 a0_2 a0_0 a0_1 a0_2).bind fun bt124 => ((serve_Right.f a0_0 a0_1 a0_2).bind fun t129 => (if t129 = true then (if bt124.2.2.2 = 0 then (interchangelaw11_DialTune.j0 k t118 bt119.2.2.2 (!(bt124.1 == a0_0) || (!(bt124.2.1 == a0_1) || (!(bt124.2.2.1 == a0_2)))) a0_0 a0_1 a0_2 a1_0 a1_1 a1_2 bt119.1 bt119.2.1 bt119.2.2.1) else (interchangelaw11_DialTune.j0 k t118 bt119.2.2.2 true a0_0 a0_1 a0_2 a1_0 a1_1 a1_2 bt119.1 bt119.2.1 bt119.2.2.1)) else (interchangelaw11_DialTune.j0 k t118 bt119.2.2.2 false a0_0 a0_1 a0_2 a1_0 a1_1 a1_2 bt119.1 bt119.2.1 bt119.2.2.1))))) = some true := H
  have A3 := Aside0.mk A30
  clear A30
  replace H := Option.bind_eq_some_iff.mp H
  obtain ⟨⟨t119, t120, t121, t122⟩, A40, H⟩ := H
  replace H : ((dial_Agree.f k a0_0 a0_1 a0_2 a0_0 a0_1 a0_2).bind fun bt124 => ((serve_Right.f a0_0 a0_1 a0_2).bind fun t129 => (if t129 = true then (if bt124.2.2.2 = 0 then (interchangelaw11_DialTune.j0 k t118 t122 (!(bt124.1 == a0_0) || (!(bt124.2.1 == a0_1) || (!(bt124.2.2.1 == a0_2)))) a0_0 a0_1 a0_2 a1_0 a1_1 a1_2 t119 t120 t121) else (interchangelaw11_DialTune.j0 k t118 t122 true a0_0 a0_1 a0_2 a1_0 a1_1 a1_2 t119 t120 t121)) else (interchangelaw11_DialTune.j0 k t118 t122 false a0_0 a0_1 a0_2 a1_0 a1_1 a1_2 t119 t120 t121)))) = some true := H
  have A4 := Aside0.mk A40
  clear A40
  replace H := Option.bind_eq_some_iff.mp H
  obtain ⟨⟨t124, t125, t126, t127⟩, A50, H⟩ := H
  replace H : ((serve_Right.f a0_0 a0_1 a0_2).bind fun t129 => (if t129 = true then (if t127 = 0 then (interchangelaw11_DialTune.j0 k t118 t122 (!(t124 == a0_0) || (!(t125 == a0_1) || (!(t126 == a0_2)))) a0_0 a0_1 a0_2 a1_0 a1_1 a1_2 t119 t120 t121) else (interchangelaw11_DialTune.j0 k t118 t122 true a0_0 a0_1 a0_2 a1_0 a1_1 a1_2 t119 t120 t121)) else (interchangelaw11_DialTune.j0 k t118 t122 false a0_0 a0_1 a0_2 a1_0 a1_1 a1_2 t119 t120 t121))) = some true := H
  have A5 := Aside0.mk A50
  clear A50
  have HC6 := Aside0.mk H
  clear H
  go_enter Tryd.func3, Tryd.ntmps3
  go_upto_region 4 with (first | ((with_reducible refine gate_dst (N := 2) rfl ?_); refine box_event ?hg (N := 2) ?hd (cs := #[.int .i64 a0_0, .int .i64 a0_1, .int .i64 a0_2]) (t := 23) ?hr ?_; (case hd => rfl); (case hg => rfl); (case hr => first | (go_simp; done) | (go_simp; rfl)); intro gb116 hg w7 hbox hb; have n0_ := Aside0.mk (below_step (by repeat (first | (with_reducible first | exact HB.out | apply below_alloc | apply pw_below_drewN | apply below_drew1) | exact HB.out)) hb); have n1_ := Aside0.mk (hbox); have n2_ := Aside0.mk ((by rw [hg]; exact (below_size (by repeat (first | (with_reducible first | exact HB.out | apply below_alloc | apply pw_below_drewN | apply below_drew1) | exact HB.out))) : w.heap.size ≤ gb116)); have n3_ := Aside0.mk ((by rw [hg]; exact (below_size (by repeat (first | (with_reducible first | exact HB.out | apply below_alloc | apply pw_below_drewN | apply below_drew1) | exact HB.out))) : w.heap.size ≤ gb116)); clear HB; have HB := n0_; have BK116 := n1_; have GW116 := n2_; have GE116 := n3_; clear n0_ n1_ n2_ n3_; clear hb hbox hg) | ((with_reducible refine gate_dst (N := 3) rfl ?_); refine box_event ?hg (N := 3) ?hd (cs := #[.int .i64 a1_0, .int .i64 a1_1, .int .i64 a1_2]) (t := 23) ?hr ?_; (case hd => rfl); (case hg => rfl); (case hr => first | (go_simp; done) | (go_simp; rfl)); intro gb117 hg w8 hbox hb; have n0_ := Aside0.mk (blk_below (g := gb116) (o := .cells #[.int .i64 a0_0, .int .i64 a0_1, .int .i64 a0_2] 23 (0, 0)) (by (with_reducible repeat (first | refine blk_drewN ?_ _ | refine blk_drew ?_ | refine blk_alloc ?_ _)); exact BK116.out) hb); have n1_ := Aside0.mk (below_step (by repeat (first | (with_reducible first | exact HB.out | apply below_alloc | apply pw_below_drewN | apply below_drew1 | refine below_set ?_ GE116.out) | exact HB.out)) hb); have n2_ := Aside0.mk (hbox); have n3_ := Aside0.mk ((by rw [hg]; exact (below_size (by repeat (first | (with_reducible first | exact HB.out | apply below_alloc | apply pw_below_drewN | apply below_drew1 | refine below_set ?_ GE116.out) | exact HB.out))) : w.heap.size ≤ gb117)); have n4_ := Aside0.mk ((by rw [hg]; exact (below_size (by repeat (first | (with_reducible first | exact HB.out | apply below_alloc | apply pw_below_drewN | apply below_drew1 | refine below_set ?_ GE116.out) | exact HB.out))) : w.heap.size ≤ gb117)); have n5_ := Aside0.mk ((by rw [hg]; exact Nat.ne_of_lt (blk_lt (g := gb116) (o := .cells #[.int .i64 a0_0, .int .i64 a0_1, .int .i64 a0_2] 23 (0, 0)) (by (with_reducible repeat (first | refine blk_drewN ?_ _ | refine blk_drew ?_ | refine blk_alloc ?_ _)); exact BK116.out)) : gb116 ≠ gb117)); have n6_ := Aside0.mk ((by rw [hg]; exact Nat.ne_of_gt (blk_lt (g := gb116) (o := .cells #[.int .i64 a0_0, .int .i64 a0_1, .int .i64 a0_2] 23 (0, 0)) (by (with_reducible repeat (first | refine blk_drewN ?_ _ | refine blk_drew ?_ | refine blk_alloc ?_ _)); exact BK116.out)) : gb117 ≠ gb116)); clear BK116; clear HB; have BK116 := n0_; have HB := n1_; have BK117 := n2_; have GW117 := n3_; have GE117 := n4_; have NB116_117 := n5_; have NB117_116 := n6_; clear n0_ n1_ n2_ n3_ n4_ n5_ n6_; clear hb hbox hg) | ((with_reducible refine gate_callee (f := 6) rfl ?_); refine goesL_ (some 10) rfl rfl Tryd.func6 (by kernel_rfl) rfl #[] rfl (by (try simp only [List.map_toArray, List.map_cons, List.map_nil]); first | done | rfl | (simp only [List.length_drop, List.length_take]; rfl)) ?_; (with_reducible refine (interchangelaw11_shown.calls k  t118 _ A3.out).mono ?_); rintro e w9 ⟨rfl, hb⟩; refine ⟨_, rfl, ?_⟩; have n0_ := Aside0.mk (blk_below (g := gb116) (o := .cells #[.int .i64 a0_0, .int .i64 a0_1, .int .i64 a0_2] 23 (0, 0)) (by (with_reducible repeat (first | refine blk_drewN ?_ _ | refine blk_drew ?_ | refine blk_alloc ?_ _)); exact BK116.out) hb); have n1_ := Aside0.mk (blk_below (g := gb117) (o := .cells #[.int .i64 a1_0, .int .i64 a1_1, .int .i64 a1_2] 23 (0, 0)) (by (with_reducible repeat (first | refine blk_drewN ?_ _ | refine blk_drew ?_ | refine blk_alloc ?_ _)); exact BK117.out) hb); have n2_ := Aside0.mk (below_step (by repeat (first | (with_reducible first | exact HB.out | apply below_alloc | apply pw_below_drewN | apply below_drew1 | refine below_set ?_ GE116.out | refine below_set ?_ GE117.out) | exact HB.out)) hb); clear BK116; clear BK117; clear HB; have BK116 := n0_; have BK117 := n1_; have HB := n2_; clear n0_ n1_ n2_; (try clear hb); (try clear hb2); (try clear hk); (try clear hi); have hnb10 := NB116_117.out; have hnc10 := NB117_116.out; have hcz11_0 : w9.cell? ⟨gb116, 0, none⟩ = some (.int .i64 a0_0) := (blk_cell BK116.out 0).trans rfl; have hcz11_1 : w9.cell? ⟨gb116, 1, none⟩ = some (.int .i64 a0_1) := (blk_cell BK116.out 1).trans rfl; have hcz11_2 : w9.cell? ⟨gb116, 2, none⟩ = some (.int .i64 a0_2) := (blk_cell BK116.out 2).trans rfl; have hfz11_0 := blk_frozen BK116.out 0; have hfz11_1 := blk_frozen BK116.out 1; have hfz11_2 := blk_frozen BK116.out 2; have hcz12_0 : w9.cell? ⟨gb117, 0, none⟩ = some (.int .i64 a1_0) := (blk_cell BK117.out 0).trans rfl; have hcz12_1 : w9.cell? ⟨gb117, 1, none⟩ = some (.int .i64 a1_1) := (blk_cell BK117.out 1).trans rfl; have hcz12_2 : w9.cell? ⟨gb117, 2, none⟩ = some (.int .i64 a1_2) := (blk_cell BK117.out 2).trans rfl; have hfz12_0 := blk_frozen BK117.out 0; have hfz12_1 := blk_frozen BK117.out 1; have hfz12_2 := blk_frozen BK117.out 2) | ((with_reducible refine gate_callee (f := 7) rfl ?_); refine goesL_ (some 14) rfl rfl Tryd.func7 (by kernel_rfl) rfl #[.agg #[.int .i64 a0_0, .int .i64 a0_1, .int .i64 a0_2], .agg #[.int .i64 a1_0, .int .i64 a1_1, .int .i64 a1_2]] rfl (by (try simp only [List.map_toArray, List.map_cons, List.map_nil]); first | done | rfl | (simp only [List.length_drop, List.length_take]; rfl)) ?_; (with_reducible refine (dial_Agree.calls k a0_0 a0_1 a0_2 a1_0 a1_1 a1_2 t119 t120 t121 t122 _ A4.out).mono ?_); rintro e w13 ⟨rfl, hb⟩; refine ⟨_, rfl, ?_⟩; have n0_ := Aside0.mk (blk_below (g := gb116) (o := .cells #[.int .i64 a0_0, .int .i64 a0_1, .int .i64 a0_2] 23 (0, 0)) (by (with_reducible repeat (first | refine blk_drewN ?_ _ | refine blk_drew ?_ | refine blk_alloc ?_ _)); exact BK116.out) hb); have n1_ := Aside0.mk (blk_below (g := gb117) (o := .cells #[.int .i64 a1_0, .int .i64 a1_1, .int .i64 a1_2] 23 (0, 0)) (by (with_reducible repeat (first | refine blk_drewN ?_ _ | refine blk_drew ?_ | refine blk_alloc ?_ _)); exact BK117.out) hb); have n2_ := Aside0.mk (below_step (by repeat (first | (with_reducible first | exact HB.out | apply below_alloc | apply pw_below_drewN | apply below_drew1 | refine below_set ?_ GE116.out | refine below_set ?_ GE117.out) | exact HB.out)) hb); clear BK116; clear BK117; clear HB; have BK116 := n0_; have BK117 := n1_; have HB := n2_; clear n0_ n1_ n2_; (try clear hb); (try clear hb2); (try clear hk); (try clear hi)) | ((with_reducible refine gate_dst (N := 6) rfl ?_); refine box_event ?hg (N := 6) ?hd (cs := #[.int .i64 0, .int .i64 0, .int .i64 0]) (t := 23) ?hr ?_; (case hd => rfl); (case hg => rfl); (case hr => first | (go_simp; done) | (go_simp; rfl)); intro gb123 hg w14 hbox hb; have n0_ := Aside0.mk (blk_below (g := gb116) (o := .cells #[.int .i64 a0_0, .int .i64 a0_1, .int .i64 a0_2] 23 (0, 0)) (by (with_reducible repeat (first | refine blk_drewN ?_ _ | refine blk_drew ?_ | refine blk_alloc ?_ _)); exact BK116.out) hb); have n1_ := Aside0.mk (blk_below (g := gb117) (o := .cells #[.int .i64 a1_0, .int .i64 a1_1, .int .i64 a1_2] 23 (0, 0)) (by (with_reducible repeat (first | refine blk_drewN ?_ _ | refine blk_drew ?_ | refine blk_alloc ?_ _)); exact BK117.out) hb); have n2_ := Aside0.mk (below_step (by repeat (first | (with_reducible first | exact HB.out | apply below_alloc | apply pw_below_drewN | apply below_drew1 | refine below_set ?_ GE116.out | refine below_set ?_ GE117.out) | exact HB.out)) hb); have n3_ := Aside0.mk (hbox); have n4_ := Aside0.mk ((by rw [hg]; exact (below_size (by repeat (first | (with_reducible first | exact HB.out | apply below_alloc | apply pw_below_drewN | apply below_drew1 | refine below_set ?_ GE116.out | refine below_set ?_ GE117.out) | exact HB.out))) : w.heap.size ≤ gb123)); have n5_ := Aside0.mk ((by rw [hg]; exact (below_size (by repeat (first | (with_reducible first | exact HB.out | apply below_alloc | apply pw_below_drewN | apply below_drew1 | refine below_set ?_ GE116.out | refine below_set ?_ GE117.out) | exact HB.out))) : w.heap.size ≤ gb123)); have n6_ := Aside0.mk ((by rw [hg]; exact Nat.ne_of_lt (blk_lt (g := gb116) (o := .cells #[.int .i64 a0_0, .int .i64 a0_1, .int .i64 a0_2] 23 (0, 0)) (by (with_reducible repeat (first | refine blk_drewN ?_ _ | refine blk_drew ?_ | refine blk_alloc ?_ _)); exact BK116.out)) : gb116 ≠ gb123)); have n7_ := Aside0.mk ((by rw [hg]; exact Nat.ne_of_gt (blk_lt (g := gb116) (o := .cells #[.int .i64 a0_0, .int .i64 a0_1, .int .i64 a0_2] 23 (0, 0)) (by (with_reducible repeat (first | refine blk_drewN ?_ _ | refine blk_drew ?_ | refine blk_alloc ?_ _)); exact BK116.out)) : gb123 ≠ gb116)); have n8_ := Aside0.mk ((by rw [hg]; exact Nat.ne_of_lt (blk_lt (g := gb117) (o := .cells #[.int .i64 a1_0, .int .i64 a1_1, .int .i64 a1_2] 23 (0, 0)) (by (with_reducible repeat (first | refine blk_drewN ?_ _ | refine blk_drew ?_ | refine blk_alloc ?_ _)); exact BK117.out)) : gb117 ≠ gb123)); have n9_ := Aside0.mk ((by rw [hg]; exact Nat.ne_of_gt (blk_lt (g := gb117) (o := .cells #[.int .i64 a1_0, .int .i64 a1_1, .int .i64 a1_2] 23 (0, 0)) (by (with_reducible repeat (first | refine blk_drewN ?_ _ | refine blk_drew ?_ | refine blk_alloc ?_ _)); exact BK117.out)) : gb123 ≠ gb117)); clear BK116; clear BK117; clear HB; have BK116 := n0_; have BK117 := n1_; have HB := n2_; have BK123 := n3_; have GW123 := n4_; have GE123 := n5_; have NB116_123 := n6_; have NB123_116 := n7_; have NB117_123 := n8_; have NB123_117 := n9_; clear n0_ n1_ n2_ n3_ n4_ n5_ n6_ n7_ n8_ n9_; clear hb hbox hg; have hnb15 := NB123_116.out; have hnc15 := NB116_123.out; have hnb16 := NB123_117.out; have hnc16 := NB117_123.out; have hcz17_0 : w14.cell? ⟨gb123, 0, none⟩ = some (.int .i64 0) := (blk_cell BK123.out 0).trans rfl; have hcz17_1 : w14.cell? ⟨gb123, 1, none⟩ = some (.int .i64 0) := (blk_cell BK123.out 1).trans rfl; have hcz17_2 : w14.cell? ⟨gb123, 2, none⟩ = some (.int .i64 0) := (blk_cell BK123.out 2).trans rfl; have hfz17_0 := blk_frozen BK123.out 0; have hfz17_1 := blk_frozen BK123.out 1; have hfz17_2 := blk_frozen BK123.out 2; have hcz18_0 : w14.cell? ⟨gb116, 0, none⟩ = some (.int .i64 a0_0) := (blk_cell BK116.out 0).trans rfl; have hcz18_1 : w14.cell? ⟨gb116, 1, none⟩ = some (.int .i64 a0_1) := (blk_cell BK116.out 1).trans rfl; have hcz18_2 : w14.cell? ⟨gb116, 2, none⟩ = some (.int .i64 a0_2) := (blk_cell BK116.out 2).trans rfl; have hfz18_0 := blk_frozen BK116.out 0; have hfz18_1 := blk_frozen BK116.out 1; have hfz18_2 := blk_frozen BK116.out 2) | ((with_reducible refine gate_callee (f := 7) rfl ?_); refine goesL_ (some 20) rfl rfl Tryd.func7 (by kernel_rfl) rfl #[.agg #[.int .i64 a0_0, .int .i64 a0_1, .int .i64 a0_2], .agg #[.int .i64 a0_0, .int .i64 a0_1, .int .i64 a0_2]] rfl (by (try simp only [List.map_toArray, List.map_cons, List.map_nil]); first | done | rfl | (simp only [List.length_drop, List.length_take]; rfl)) ?_; (with_reducible refine (dial_Agree.calls k a0_0 a0_1 a0_2 a0_0 a0_1 a0_2 t124 t125 t126 t127 _ A5.out).mono ?_); rintro e w19 ⟨rfl, hb⟩; refine ⟨_, rfl, ?_⟩; have n0_ := Aside0.mk (blk_below (g := gb116) (o := .cells #[.int .i64 a0_0, .int .i64 a0_1, .int .i64 a0_2] 23 (0, 0)) (by (with_reducible repeat (first | refine blk_drewN ?_ _ | refine blk_drew ?_ | refine blk_alloc ?_ _)); refine blk_far ?_ NB116_123.out _; (with_reducible repeat (first | refine blk_drewN ?_ _ | refine blk_drew ?_ | refine blk_alloc ?_ _)); refine blk_far ?_ NB116_123.out _; (with_reducible repeat (first | refine blk_drewN ?_ _ | refine blk_drew ?_ | refine blk_alloc ?_ _)); refine blk_far ?_ NB116_123.out _; (with_reducible repeat (first | refine blk_drewN ?_ _ | refine blk_drew ?_ | refine blk_alloc ?_ _)); exact BK116.out) hb); have n1_ := Aside0.mk (blk_below (g := gb117) (o := .cells #[.int .i64 a1_0, .int .i64 a1_1, .int .i64 a1_2] 23 (0, 0)) (by (with_reducible repeat (first | refine blk_drewN ?_ _ | refine blk_drew ?_ | refine blk_alloc ?_ _)); refine blk_far ?_ NB117_123.out _; (with_reducible repeat (first | refine blk_drewN ?_ _ | refine blk_drew ?_ | refine blk_alloc ?_ _)); refine blk_far ?_ NB117_123.out _; (with_reducible repeat (first | refine blk_drewN ?_ _ | refine blk_drew ?_ | refine blk_alloc ?_ _)); refine blk_far ?_ NB117_123.out _; (with_reducible repeat (first | refine blk_drewN ?_ _ | refine blk_drew ?_ | refine blk_alloc ?_ _)); exact BK117.out) hb); have n2_ := Aside0.mk (blk_below (g := gb123) (o := .cells #[.int .i64 t119, .int .i64 t120, .int .i64 t121] 23 (0, 0)) (by (with_reducible repeat (first | refine blk_drewN ?_ _ | refine blk_drew ?_ | refine blk_alloc ?_ _)); refine blk_put (cs := #[.int .i64 t119, .int .i64 t120, .int .i64 0]) ?_ 2 _ rfl; (with_reducible repeat (first | refine blk_drewN ?_ _ | refine blk_drew ?_ | refine blk_alloc ?_ _)); refine blk_put (cs := #[.int .i64 t119, .int .i64 0, .int .i64 0]) ?_ 1 _ rfl; (with_reducible repeat (first | refine blk_drewN ?_ _ | refine blk_drew ?_ | refine blk_alloc ?_ _)); refine blk_put (cs := #[.int .i64 0, .int .i64 0, .int .i64 0]) ?_ 0 _ rfl; (with_reducible repeat (first | refine blk_drewN ?_ _ | refine blk_drew ?_ | refine blk_alloc ?_ _)); exact BK123.out) hb); have n3_ := Aside0.mk (below_step (by repeat (first | (with_reducible first | exact HB.out | apply below_alloc | apply pw_below_drewN | apply below_drew1 | refine below_set ?_ GE116.out | refine below_set ?_ GE117.out | refine below_set ?_ GE123.out) | exact HB.out)) hb); clear BK116; clear BK117; clear BK123; clear HB; have BK116 := n0_; have BK117 := n1_; have BK123 := n2_; have HB := n3_; clear n0_ n1_ n2_ n3_; (try clear hb); (try clear hb2); (try clear hk); (try clear hi)) | ((with_reducible refine gate_dst (N := 8) rfl ?_); refine box_event ?hg (N := 8) ?hd (cs := #[.int .i64 0, .int .i64 0, .int .i64 0]) (t := 23) ?hr ?_; (case hd => rfl); (case hg => rfl); (case hr => first | (go_simp; done) | (go_simp; rfl)); intro gb128 hg w20 hbox hb; have n0_ := Aside0.mk (blk_below (g := gb116) (o := .cells #[.int .i64 a0_0, .int .i64 a0_1, .int .i64 a0_2] 23 (0, 0)) (by (with_reducible repeat (first | refine blk_drewN ?_ _ | refine blk_drew ?_ | refine blk_alloc ?_ _)); exact BK116.out) hb); have n1_ := Aside0.mk (blk_below (g := gb117) (o := .cells #[.int .i64 a1_0, .int .i64 a1_1, .int .i64 a1_2] 23 (0, 0)) (by (with_reducible repeat (first | refine blk_drewN ?_ _ | refine blk_drew ?_ | refine blk_alloc ?_ _)); exact BK117.out) hb); have n2_ := Aside0.mk (blk_below (g := gb123) (o := .cells #[.int .i64 t119, .int .i64 t120, .int .i64 t121] 23 (0, 0)) (by (with_reducible repeat (first | refine blk_drewN ?_ _ | refine blk_drew ?_ | refine blk_alloc ?_ _)); exact BK123.out) hb); have n3_ := Aside0.mk (below_step (by repeat (first | (with_reducible first | exact HB.out | apply below_alloc | apply pw_below_drewN | apply below_drew1 | refine below_set ?_ GE116.out | refine below_set ?_ GE117.out | refine below_set ?_ GE123.out) | exact HB.out)) hb); have n4_ := Aside0.mk (hbox); have n5_ := Aside0.mk ((by rw [hg]; exact (below_size (by repeat (first | (with_reducible first | exact HB.out | apply below_alloc | apply pw_below_drewN | apply below_drew1 | refine below_set ?_ GE116.out | refine below_set ?_ GE117.out | refine below_set ?_ GE123.out) | exact HB.out))) : w.heap.size ≤ gb128)); have n6_ := Aside0.mk ((by rw [hg]; exact (below_size (by repeat (first | (with_reducible first | exact HB.out | apply below_alloc | apply pw_below_drewN | apply below_drew1 | refine below_set ?_ GE116.out | refine below_set ?_ GE117.out | refine below_set ?_ GE123.out) | exact HB.out))) : w.heap.size ≤ gb128)); have n7_ := Aside0.mk ((by rw [hg]; exact Nat.ne_of_lt (blk_lt (g := gb116) (o := .cells #[.int .i64 a0_0, .int .i64 a0_1, .int .i64 a0_2] 23 (0, 0)) (by (with_reducible repeat (first | refine blk_drewN ?_ _ | refine blk_drew ?_ | refine blk_alloc ?_ _)); exact BK116.out)) : gb116 ≠ gb128)); have n8_ := Aside0.mk ((by rw [hg]; exact Nat.ne_of_gt (blk_lt (g := gb116) (o := .cells #[.int .i64 a0_0, .int .i64 a0_1, .int .i64 a0_2] 23 (0, 0)) (by (with_reducible repeat (first | refine blk_drewN ?_ _ | refine blk_drew ?_ | refine blk_alloc ?_ _)); exact BK116.out)) : gb128 ≠ gb116)); have n9_ := Aside0.mk ((by rw [hg]; exact Nat.ne_of_lt (blk_lt (g := gb117) (o := .cells #[.int .i64 a1_0, .int .i64 a1_1, .int .i64 a1_2] 23 (0, 0)) (by (with_reducible repeat (first | refine blk_drewN ?_ _ | refine blk_drew ?_ | refine blk_alloc ?_ _)); exact BK117.out)) : gb117 ≠ gb128)); have n10_ := Aside0.mk ((by rw [hg]; exact Nat.ne_of_gt (blk_lt (g := gb117) (o := .cells #[.int .i64 a1_0, .int .i64 a1_1, .int .i64 a1_2] 23 (0, 0)) (by (with_reducible repeat (first | refine blk_drewN ?_ _ | refine blk_drew ?_ | refine blk_alloc ?_ _)); exact BK117.out)) : gb128 ≠ gb117)); have n11_ := Aside0.mk ((by rw [hg]; exact Nat.ne_of_lt (blk_lt (g := gb123) (o := .cells #[.int .i64 t119, .int .i64 t120, .int .i64 t121] 23 (0, 0)) (by (with_reducible repeat (first | refine blk_drewN ?_ _ | refine blk_drew ?_ | refine blk_alloc ?_ _)); exact BK123.out)) : gb123 ≠ gb128)); have n12_ := Aside0.mk ((by rw [hg]; exact Nat.ne_of_gt (blk_lt (g := gb123) (o := .cells #[.int .i64 t119, .int .i64 t120, .int .i64 t121] 23 (0, 0)) (by (with_reducible repeat (first | refine blk_drewN ?_ _ | refine blk_drew ?_ | refine blk_alloc ?_ _)); exact BK123.out)) : gb128 ≠ gb123)); clear BK116; clear BK117; clear BK123; clear HB; have BK116 := n0_; have BK117 := n1_; have BK123 := n2_; have HB := n3_; have BK128 := n4_; have GW128 := n5_; have GE128 := n6_; have NB116_128 := n7_; have NB128_116 := n8_; have NB117_128 := n9_; have NB128_117 := n10_; have NB123_128 := n11_; have NB128_123 := n12_; clear n0_ n1_ n2_ n3_ n4_ n5_ n6_ n7_ n8_ n9_ n10_ n11_ n12_; clear hb hbox hg; have hnb21 := NB128_116.out; have hnc21 := NB116_128.out; have hnb22 := NB128_117.out; have hnc22 := NB117_128.out; have hnb23 := NB128_123.out; have hnc23 := NB123_128.out; have hcz24_0 : w20.cell? ⟨gb128, 0, none⟩ = some (.int .i64 0) := (blk_cell BK128.out 0).trans rfl; have hcz24_1 : w20.cell? ⟨gb128, 1, none⟩ = some (.int .i64 0) := (blk_cell BK128.out 1).trans rfl; have hcz24_2 : w20.cell? ⟨gb128, 2, none⟩ = some (.int .i64 0) := (blk_cell BK128.out 2).trans rfl; have hfz24_0 := blk_frozen BK128.out 0; have hfz24_1 := blk_frozen BK128.out 1; have hfz24_2 := blk_frozen BK128.out 2))
  (try simp only [Act.put, List.setIfInBounds_toArray, List.set_cons_zero, List.set_cons_succ])
  go_cut [33] (fun v33 wc => ∃ (kq : Nat) (x33_5 : Bool), v33 = .bool x33_5 ∧ Aside0 (interchangelaw11_DialTune.j0 kq t118 t122 x33_5 a0_0 a0_1 a0_2 a1_0 a1_1 a1_2 t119 t120 t121 = some true) ∧ Aside0 (kq ≤ k) ∧ Aside0 (wc.heap[gb116]? = some (.cells #[.int .i64 a0_0, .int .i64 a0_1, .int .i64 a0_2] 23 (0, 0))) ∧ Aside0 (wc.heap[gb117]? = some (.cells #[.int .i64 a1_0, .int .i64 a1_1, .int .i64 a1_2] 23 (0, 0))) ∧ Aside0 (wc.heap[gb123]? = some (.cells #[.int .i64 t119, .int .i64 t120, .int .i64 t121] 23 (0, 0))) ∧ Aside0 (wc.heap[gb128]? = some (.cells #[.int .i64 t124, .int .i64 t125, .int .i64 t126] 23 (0, 0))) ∧ Aside0 (Below w.heap.size w wc))
  case first =>
    have H := HC6.out
    clear HC6
    replace H := Option.bind_eq_some_iff.mp H
    obtain ⟨t129, A250, H⟩ := H
    replace H : (if t129 = true then (if t127 = 0 then (interchangelaw11_DialTune.j0 k t118 t122 (!(t124 == a0_0) || (!(t125 == a0_1) || (!(t126 == a0_2)))) a0_0 a0_1 a0_2 a1_0 a1_1 a1_2 t119 t120 t121) else (interchangelaw11_DialTune.j0 k t118 t122 true a0_0 a0_1 a0_2 a1_0 a1_1 a1_2 t119 t120 t121)) else (interchangelaw11_DialTune.j0 k t118 t122 false a0_0 a0_1 a0_2 a1_0 a1_1 a1_2 t119 t120 t121)) = some true := H
    have A25 := Aside0.mk A250
    clear A250
    by_cases c26 : t129 = true
    · subst c26
      have H1 : (if t127 = 0 then (interchangelaw11_DialTune.j0 k t118 t122 (!(t124 == a0_0) || (!(t125 == a0_1) || (!(t126 == a0_2)))) a0_0 a0_1 a0_2 a1_0 a1_1 a1_2 t119 t120 t121) else (interchangelaw11_DialTune.j0 k t118 t122 true a0_0 a0_1 a0_2 a1_0 a1_1 a1_2 t119 t120 t121)) = some true := by rw [if_pos rfl] at H; first | done | exact H
      clear H
      have H := H1
      clear H1
      by_cases c27 : t127 = 0
      · rw [if_pos c27] at H
        have c27b0 : (t127 == 0) = true := beq_iff_eq.mpr c27
        have c27b1 : (t127 != 0) = false := bne_eq_false_iff_eq.mpr c27
        clear c27
        (first | rw [c27b0] | (simp only [i64_w, i32_w]; rw [c27b0]) | skip)
        have H' := Aside0.mk H
        clear H
        have hnb28 := NB116_117.out
        have hnc28 := NB117_116.out
        have hnb29 := NB116_123.out
        have hnc29 := NB123_116.out
        have hnb30 := NB116_128.out
        have hnc30 := NB128_116.out
        have hcz31_0 : w20.cell? ⟨gb116, 0, none⟩ = some (.int .i64 a0_0) := (blk_cell BK116.out 0).trans rfl
        have hcz31_1 : w20.cell? ⟨gb116, 1, none⟩ = some (.int .i64 a0_1) := (blk_cell BK116.out 1).trans rfl
        have hcz31_2 : w20.cell? ⟨gb116, 2, none⟩ = some (.int .i64 a0_2) := (blk_cell BK116.out 2).trans rfl
        have hfz31_0 := blk_frozen BK116.out 0
        have hfz31_1 := blk_frozen BK116.out 1
        have hfz31_2 := blk_frozen BK116.out 2
        go_wp2_with (first | ((with_reducible refine gate_callee (f := 8) rfl ?_); refine goesL_ (some 24) rfl rfl Tryd.func8 (by kernel_rfl) rfl #[.agg #[.int .i64 a0_0, .int .i64 a0_1, .int .i64 a0_2]] rfl (by (try simp only [List.map_toArray, List.map_cons, List.map_nil]); first | done | rfl | (simp only [List.length_drop, List.length_take]; rfl)) ?_; (with_reducible refine (serve_Right.calls a0_0 a0_1 a0_2 true _ A25.out).mono ?_); rintro e w32 ⟨rfl, hb⟩; refine ⟨_, rfl, ?_⟩; have n0_ := Aside0.mk (blk_below (g := gb116) (o := .cells #[.int .i64 a0_0, .int .i64 a0_1, .int .i64 a0_2] 23 (0, 0)) (by (with_reducible repeat (first | refine blk_drewN ?_ _ | refine blk_drew ?_ | refine blk_alloc ?_ _)); refine blk_far ?_ NB116_128.out _; (with_reducible repeat (first | refine blk_drewN ?_ _ | refine blk_drew ?_ | refine blk_alloc ?_ _)); refine blk_far ?_ NB116_128.out _; (with_reducible repeat (first | refine blk_drewN ?_ _ | refine blk_drew ?_ | refine blk_alloc ?_ _)); refine blk_far ?_ NB116_128.out _; (with_reducible repeat (first | refine blk_drewN ?_ _ | refine blk_drew ?_ | refine blk_alloc ?_ _)); exact BK116.out) hb); have n1_ := Aside0.mk (blk_below (g := gb117) (o := .cells #[.int .i64 a1_0, .int .i64 a1_1, .int .i64 a1_2] 23 (0, 0)) (by (with_reducible repeat (first | refine blk_drewN ?_ _ | refine blk_drew ?_ | refine blk_alloc ?_ _)); refine blk_far ?_ NB117_128.out _; (with_reducible repeat (first | refine blk_drewN ?_ _ | refine blk_drew ?_ | refine blk_alloc ?_ _)); refine blk_far ?_ NB117_128.out _; (with_reducible repeat (first | refine blk_drewN ?_ _ | refine blk_drew ?_ | refine blk_alloc ?_ _)); refine blk_far ?_ NB117_128.out _; (with_reducible repeat (first | refine blk_drewN ?_ _ | refine blk_drew ?_ | refine blk_alloc ?_ _)); exact BK117.out) hb); have n2_ := Aside0.mk (blk_below (g := gb123) (o := .cells #[.int .i64 t119, .int .i64 t120, .int .i64 t121] 23 (0, 0)) (by (with_reducible repeat (first | refine blk_drewN ?_ _ | refine blk_drew ?_ | refine blk_alloc ?_ _)); refine blk_far ?_ NB123_128.out _; (with_reducible repeat (first | refine blk_drewN ?_ _ | refine blk_drew ?_ | refine blk_alloc ?_ _)); refine blk_far ?_ NB123_128.out _; (with_reducible repeat (first | refine blk_drewN ?_ _ | refine blk_drew ?_ | refine blk_alloc ?_ _)); refine blk_far ?_ NB123_128.out _; (with_reducible repeat (first | refine blk_drewN ?_ _ | refine blk_drew ?_ | refine blk_alloc ?_ _)); exact BK123.out) hb); have n3_ := Aside0.mk (blk_below (g := gb128) (o := .cells #[.int .i64 t124, .int .i64 t125, .int .i64 t126] 23 (0, 0)) (by (with_reducible repeat (first | refine blk_drewN ?_ _ | refine blk_drew ?_ | refine blk_alloc ?_ _)); refine blk_put (cs := #[.int .i64 t124, .int .i64 t125, .int .i64 0]) ?_ 2 _ rfl; (with_reducible repeat (first | refine blk_drewN ?_ _ | refine blk_drew ?_ | refine blk_alloc ?_ _)); refine blk_put (cs := #[.int .i64 t124, .int .i64 0, .int .i64 0]) ?_ 1 _ rfl; (with_reducible repeat (first | refine blk_drewN ?_ _ | refine blk_drew ?_ | refine blk_alloc ?_ _)); refine blk_put (cs := #[.int .i64 0, .int .i64 0, .int .i64 0]) ?_ 0 _ rfl; (with_reducible repeat (first | refine blk_drewN ?_ _ | refine blk_drew ?_ | refine blk_alloc ?_ _)); exact BK128.out) hb); have n4_ := Aside0.mk (below_step (by repeat (first | (with_reducible first | exact HB.out | apply below_alloc | apply pw_below_drewN | apply below_drew1 | refine below_set ?_ GE116.out | refine below_set ?_ GE117.out | refine below_set ?_ GE123.out | refine below_set ?_ GE128.out) | exact HB.out)) hb); clear BK116; clear BK117; clear BK123; clear BK128; clear HB; have BK116 := n0_; have BK117 := n1_; have BK123 := n2_; have BK128 := n3_; have HB := n4_; clear n0_ n1_ n2_ n3_ n4_; (try clear hb); (try clear hb2); (try clear hk); (try clear hi); have hnb33 := NB128_117.out; have hnc33 := NB117_128.out; have hnb34 := NB128_123.out; have hnc34 := NB123_128.out; have hcz35_0 : w32.cell? ⟨gb128, 0, none⟩ = some (.int .i64 t124) := (blk_cell BK128.out 0).trans rfl; have hcz35_1 : w32.cell? ⟨gb128, 1, none⟩ = some (.int .i64 t125) := (blk_cell BK128.out 1).trans rfl; have hcz35_2 : w32.cell? ⟨gb128, 2, none⟩ = some (.int .i64 t126) := (blk_cell BK128.out 2).trans rfl; have hfz35_0 := blk_frozen BK128.out 0; have hfz35_1 := blk_frozen BK128.out 1; have hfz35_2 := blk_frozen BK128.out 2; have hcz36_0 : w32.cell? ⟨gb116, 0, none⟩ = some (.int .i64 a0_0) := (blk_cell BK116.out 0).trans rfl; have hcz36_1 : w32.cell? ⟨gb116, 1, none⟩ = some (.int .i64 a0_1) := (blk_cell BK116.out 1).trans rfl; have hcz36_2 : w32.cell? ⟨gb116, 2, none⟩ = some (.int .i64 a0_2) := (blk_cell BK116.out 2).trans rfl; have hfz36_0 := blk_frozen BK116.out 0; have hfz36_1 := blk_frozen BK116.out 1; have hfz36_2 := blk_frozen BK116.out 2))
        go_meet
        case rel => exact ⟨_, ((!(t124 == a0_0) || (!(t125 == a0_1) || (!(t126 == a0_2))))), (by first | rfl | (simp; done) | (simp [*]; done)), H', ⟨by first | omega | exact Nat.le_refl _⟩, ⟨by (with_reducible repeat (first | refine blk_drewN ?_ _ | refine blk_drew ?_ | refine blk_alloc ?_ _)); exact BK116.out⟩, ⟨by (with_reducible repeat (first | refine blk_drewN ?_ _ | refine blk_drew ?_ | refine blk_alloc ?_ _)); exact BK117.out⟩, ⟨by (with_reducible repeat (first | refine blk_drewN ?_ _ | refine blk_drew ?_ | refine blk_alloc ?_ _)); exact BK123.out⟩, ⟨by (with_reducible repeat (first | refine blk_drewN ?_ _ | refine blk_drew ?_ | refine blk_alloc ?_ _)); exact BK128.out⟩, ⟨by repeat (first | (with_reducible first | exact HB.out | apply below_alloc | apply pw_below_drewN | apply below_drew1 | refine below_set ?_ GE116.out | refine below_set ?_ GE117.out | refine below_set ?_ GE123.out | refine below_set ?_ GE128.out) | exact HB.out)⟩⟩
      · rw [if_neg c27] at H
        have c27b0 : (t127 == 0) = false := beq_eq_false_iff_ne.mpr c27
        have c27b1 : (t127 != 0) = true := bne_iff_ne.mpr c27
        (first | rw [c27b0] | (simp only [i64_w, i32_w]; rw [c27b0]) | skip)
        have H' := Aside0.mk H
        clear H
        have hnb37 := NB116_117.out
        have hnc37 := NB117_116.out
        have hnb38 := NB116_123.out
        have hnc38 := NB123_116.out
        have hnb39 := NB116_128.out
        have hnc39 := NB128_116.out
        have hcz40_0 : w20.cell? ⟨gb116, 0, none⟩ = some (.int .i64 a0_0) := (blk_cell BK116.out 0).trans rfl
        have hcz40_1 : w20.cell? ⟨gb116, 1, none⟩ = some (.int .i64 a0_1) := (blk_cell BK116.out 1).trans rfl
        have hcz40_2 : w20.cell? ⟨gb116, 2, none⟩ = some (.int .i64 a0_2) := (blk_cell BK116.out 2).trans rfl
        have hfz40_0 := blk_frozen BK116.out 0
        have hfz40_1 := blk_frozen BK116.out 1
        have hfz40_2 := blk_frozen BK116.out 2
        go_wp2_with (first | ((with_reducible refine gate_callee (f := 8) rfl ?_); refine goesL_ (some 24) rfl rfl Tryd.func8 (by kernel_rfl) rfl #[.agg #[.int .i64 a0_0, .int .i64 a0_1, .int .i64 a0_2]] rfl (by (try simp only [List.map_toArray, List.map_cons, List.map_nil]); first | done | rfl | (simp only [List.length_drop, List.length_take]; rfl)) ?_; (with_reducible refine (serve_Right.calls a0_0 a0_1 a0_2 true _ A25.out).mono ?_); rintro e w41 ⟨rfl, hb⟩; refine ⟨_, rfl, ?_⟩; have n0_ := Aside0.mk (blk_below (g := gb116) (o := .cells #[.int .i64 a0_0, .int .i64 a0_1, .int .i64 a0_2] 23 (0, 0)) (by (with_reducible repeat (first | refine blk_drewN ?_ _ | refine blk_drew ?_ | refine blk_alloc ?_ _)); refine blk_far ?_ NB116_128.out _; (with_reducible repeat (first | refine blk_drewN ?_ _ | refine blk_drew ?_ | refine blk_alloc ?_ _)); refine blk_far ?_ NB116_128.out _; (with_reducible repeat (first | refine blk_drewN ?_ _ | refine blk_drew ?_ | refine blk_alloc ?_ _)); refine blk_far ?_ NB116_128.out _; (with_reducible repeat (first | refine blk_drewN ?_ _ | refine blk_drew ?_ | refine blk_alloc ?_ _)); exact BK116.out) hb); have n1_ := Aside0.mk (blk_below (g := gb117) (o := .cells #[.int .i64 a1_0, .int .i64 a1_1, .int .i64 a1_2] 23 (0, 0)) (by (with_reducible repeat (first | refine blk_drewN ?_ _ | refine blk_drew ?_ | refine blk_alloc ?_ _)); refine blk_far ?_ NB117_128.out _; (with_reducible repeat (first | refine blk_drewN ?_ _ | refine blk_drew ?_ | refine blk_alloc ?_ _)); refine blk_far ?_ NB117_128.out _; (with_reducible repeat (first | refine blk_drewN ?_ _ | refine blk_drew ?_ | refine blk_alloc ?_ _)); refine blk_far ?_ NB117_128.out _; (with_reducible repeat (first | refine blk_drewN ?_ _ | refine blk_drew ?_ | refine blk_alloc ?_ _)); exact BK117.out) hb); have n2_ := Aside0.mk (blk_below (g := gb123) (o := .cells #[.int .i64 t119, .int .i64 t120, .int .i64 t121] 23 (0, 0)) (by (with_reducible repeat (first | refine blk_drewN ?_ _ | refine blk_drew ?_ | refine blk_alloc ?_ _)); refine blk_far ?_ NB123_128.out _; (with_reducible repeat (first | refine blk_drewN ?_ _ | refine blk_drew ?_ | refine blk_alloc ?_ _)); refine blk_far ?_ NB123_128.out _; (with_reducible repeat (first | refine blk_drewN ?_ _ | refine blk_drew ?_ | refine blk_alloc ?_ _)); refine blk_far ?_ NB123_128.out _; (with_reducible repeat (first | refine blk_drewN ?_ _ | refine blk_drew ?_ | refine blk_alloc ?_ _)); exact BK123.out) hb); have n3_ := Aside0.mk (blk_below (g := gb128) (o := .cells #[.int .i64 t124, .int .i64 t125, .int .i64 t126] 23 (0, 0)) (by (with_reducible repeat (first | refine blk_drewN ?_ _ | refine blk_drew ?_ | refine blk_alloc ?_ _)); refine blk_put (cs := #[.int .i64 t124, .int .i64 t125, .int .i64 0]) ?_ 2 _ rfl; (with_reducible repeat (first | refine blk_drewN ?_ _ | refine blk_drew ?_ | refine blk_alloc ?_ _)); refine blk_put (cs := #[.int .i64 t124, .int .i64 0, .int .i64 0]) ?_ 1 _ rfl; (with_reducible repeat (first | refine blk_drewN ?_ _ | refine blk_drew ?_ | refine blk_alloc ?_ _)); refine blk_put (cs := #[.int .i64 0, .int .i64 0, .int .i64 0]) ?_ 0 _ rfl; (with_reducible repeat (first | refine blk_drewN ?_ _ | refine blk_drew ?_ | refine blk_alloc ?_ _)); exact BK128.out) hb); have n4_ := Aside0.mk (below_step (by repeat (first | (with_reducible first | exact HB.out | apply below_alloc | apply pw_below_drewN | apply below_drew1 | refine below_set ?_ GE116.out | refine below_set ?_ GE117.out | refine below_set ?_ GE123.out | refine below_set ?_ GE128.out) | exact HB.out)) hb); clear BK116; clear BK117; clear BK123; clear BK128; clear HB; have BK116 := n0_; have BK117 := n1_; have BK123 := n2_; have BK128 := n3_; have HB := n4_; clear n0_ n1_ n2_ n3_ n4_; (try clear hb); (try clear hb2); (try clear hk); (try clear hi)))
        go_meet
        case rel => exact ⟨_, (true), (by first | rfl | (simp; done) | (simp [*]; done)), H', ⟨by first | omega | exact Nat.le_refl _⟩, ⟨by (with_reducible repeat (first | refine blk_drewN ?_ _ | refine blk_drew ?_ | refine blk_alloc ?_ _)); exact BK116.out⟩, ⟨by (with_reducible repeat (first | refine blk_drewN ?_ _ | refine blk_drew ?_ | refine blk_alloc ?_ _)); exact BK117.out⟩, ⟨by (with_reducible repeat (first | refine blk_drewN ?_ _ | refine blk_drew ?_ | refine blk_alloc ?_ _)); exact BK123.out⟩, ⟨by (with_reducible repeat (first | refine blk_drewN ?_ _ | refine blk_drew ?_ | refine blk_alloc ?_ _)); exact BK128.out⟩, ⟨by repeat (first | (with_reducible first | exact HB.out | apply below_alloc | apply pw_below_drewN | apply below_drew1 | refine below_set ?_ GE116.out | refine below_set ?_ GE117.out | refine below_set ?_ GE123.out | refine below_set ?_ GE128.out) | exact HB.out)⟩⟩
    · replace c26 := Bool.eq_false_iff.mpr c26
      subst c26
      have H1 : (interchangelaw11_DialTune.j0 k t118 t122 false a0_0 a0_1 a0_2 a1_0 a1_1 a1_2 t119 t120 t121) = some true := by rw [if_neg (show ¬ (false = true) by decide)] at H; first | done | exact H
      clear H
      have H := H1
      clear H1
      have H' := Aside0.mk H
      clear H
      have hnb42 := NB116_117.out
      have hnc42 := NB117_116.out
      have hnb43 := NB116_123.out
      have hnc43 := NB123_116.out
      have hnb44 := NB116_128.out
      have hnc44 := NB128_116.out
      have hcz45_0 : w20.cell? ⟨gb116, 0, none⟩ = some (.int .i64 a0_0) := (blk_cell BK116.out 0).trans rfl
      have hcz45_1 : w20.cell? ⟨gb116, 1, none⟩ = some (.int .i64 a0_1) := (blk_cell BK116.out 1).trans rfl
      have hcz45_2 : w20.cell? ⟨gb116, 2, none⟩ = some (.int .i64 a0_2) := (blk_cell BK116.out 2).trans rfl
      have hfz45_0 := blk_frozen BK116.out 0
      have hfz45_1 := blk_frozen BK116.out 1
      have hfz45_2 := blk_frozen BK116.out 2
      go_wp2_with (first | ((with_reducible refine gate_callee (f := 8) rfl ?_); refine goesL_ (some 24) rfl rfl Tryd.func8 (by kernel_rfl) rfl #[.agg #[.int .i64 a0_0, .int .i64 a0_1, .int .i64 a0_2]] rfl (by (try simp only [List.map_toArray, List.map_cons, List.map_nil]); first | done | rfl | (simp only [List.length_drop, List.length_take]; rfl)) ?_; (with_reducible refine (serve_Right.calls a0_0 a0_1 a0_2 false _ A25.out).mono ?_); rintro e w46 ⟨rfl, hb⟩; refine ⟨_, rfl, ?_⟩; have n0_ := Aside0.mk (blk_below (g := gb116) (o := .cells #[.int .i64 a0_0, .int .i64 a0_1, .int .i64 a0_2] 23 (0, 0)) (by (with_reducible repeat (first | refine blk_drewN ?_ _ | refine blk_drew ?_ | refine blk_alloc ?_ _)); refine blk_far ?_ NB116_128.out _; (with_reducible repeat (first | refine blk_drewN ?_ _ | refine blk_drew ?_ | refine blk_alloc ?_ _)); refine blk_far ?_ NB116_128.out _; (with_reducible repeat (first | refine blk_drewN ?_ _ | refine blk_drew ?_ | refine blk_alloc ?_ _)); refine blk_far ?_ NB116_128.out _; (with_reducible repeat (first | refine blk_drewN ?_ _ | refine blk_drew ?_ | refine blk_alloc ?_ _)); exact BK116.out) hb); have n1_ := Aside0.mk (blk_below (g := gb117) (o := .cells #[.int .i64 a1_0, .int .i64 a1_1, .int .i64 a1_2] 23 (0, 0)) (by (with_reducible repeat (first | refine blk_drewN ?_ _ | refine blk_drew ?_ | refine blk_alloc ?_ _)); refine blk_far ?_ NB117_128.out _; (with_reducible repeat (first | refine blk_drewN ?_ _ | refine blk_drew ?_ | refine blk_alloc ?_ _)); refine blk_far ?_ NB117_128.out _; (with_reducible repeat (first | refine blk_drewN ?_ _ | refine blk_drew ?_ | refine blk_alloc ?_ _)); refine blk_far ?_ NB117_128.out _; (with_reducible repeat (first | refine blk_drewN ?_ _ | refine blk_drew ?_ | refine blk_alloc ?_ _)); exact BK117.out) hb); have n2_ := Aside0.mk (blk_below (g := gb123) (o := .cells #[.int .i64 t119, .int .i64 t120, .int .i64 t121] 23 (0, 0)) (by (with_reducible repeat (first | refine blk_drewN ?_ _ | refine blk_drew ?_ | refine blk_alloc ?_ _)); refine blk_far ?_ NB123_128.out _; (with_reducible repeat (first | refine blk_drewN ?_ _ | refine blk_drew ?_ | refine blk_alloc ?_ _)); refine blk_far ?_ NB123_128.out _; (with_reducible repeat (first | refine blk_drewN ?_ _ | refine blk_drew ?_ | refine blk_alloc ?_ _)); refine blk_far ?_ NB123_128.out _; (with_reducible repeat (first | refine blk_drewN ?_ _ | refine blk_drew ?_ | refine blk_alloc ?_ _)); exact BK123.out) hb); have n3_ := Aside0.mk (blk_below (g := gb128) (o := .cells #[.int .i64 t124, .int .i64 t125, .int .i64 t126] 23 (0, 0)) (by (with_reducible repeat (first | refine blk_drewN ?_ _ | refine blk_drew ?_ | refine blk_alloc ?_ _)); refine blk_put (cs := #[.int .i64 t124, .int .i64 t125, .int .i64 0]) ?_ 2 _ rfl; (with_reducible repeat (first | refine blk_drewN ?_ _ | refine blk_drew ?_ | refine blk_alloc ?_ _)); refine blk_put (cs := #[.int .i64 t124, .int .i64 0, .int .i64 0]) ?_ 1 _ rfl; (with_reducible repeat (first | refine blk_drewN ?_ _ | refine blk_drew ?_ | refine blk_alloc ?_ _)); refine blk_put (cs := #[.int .i64 0, .int .i64 0, .int .i64 0]) ?_ 0 _ rfl; (with_reducible repeat (first | refine blk_drewN ?_ _ | refine blk_drew ?_ | refine blk_alloc ?_ _)); exact BK128.out) hb); have n4_ := Aside0.mk (below_step (by repeat (first | (with_reducible first | exact HB.out | apply below_alloc | apply pw_below_drewN | apply below_drew1 | refine below_set ?_ GE116.out | refine below_set ?_ GE117.out | refine below_set ?_ GE123.out | refine below_set ?_ GE128.out) | exact HB.out)) hb); clear BK116; clear BK117; clear BK123; clear BK128; clear HB; have BK116 := n0_; have BK117 := n1_; have BK123 := n2_; have BK128 := n3_; have HB := n4_; clear n0_ n1_ n2_ n3_ n4_; (try clear hb); (try clear hb2); (try clear hk); (try clear hi)))
      go_meet
      case rel => exact ⟨_, (false), (by first | rfl | (simp; done) | (simp [*]; done)), H', ⟨by first | omega | exact Nat.le_refl _⟩, ⟨by (with_reducible repeat (first | refine blk_drewN ?_ _ | refine blk_drew ?_ | refine blk_alloc ?_ _)); exact BK116.out⟩, ⟨by (with_reducible repeat (first | refine blk_drewN ?_ _ | refine blk_drew ?_ | refine blk_alloc ?_ _)); exact BK117.out⟩, ⟨by (with_reducible repeat (first | refine blk_drewN ?_ _ | refine blk_drew ?_ | refine blk_alloc ?_ _)); exact BK123.out⟩, ⟨by (with_reducible repeat (first | refine blk_drewN ?_ _ | refine blk_drew ?_ | refine blk_alloc ?_ _)); exact BK128.out⟩, ⟨by repeat (first | (with_reducible first | exact HB.out | apply below_alloc | apply pw_below_drewN | apply below_drew1 | refine below_set ?_ GE116.out | refine below_set ?_ GE117.out | refine below_set ?_ GE123.out | refine below_set ?_ GE128.out) | exact HB.out)⟩⟩
  case rest =>
    clear HC6
    try clear c1
    try clear c2
    try clear p2
    try clear c3
    try clear c4
    try clear c6
    try clear c7
    try clear c8
    try clear c10
    try clear c15
    try clear c16
    try clear c21
    try clear c22
    try clear c23
    try clear c26
    try clear c27
    try clear c27b0
    try clear c27b1
    try clear c28
    try clear c29
    try clear c30
    try clear c33
    try clear c34
    try clear c37
    try clear c38
    try clear c39
    try clear c42
    try clear c43
    try clear c44
    try clear hcz11_0
    try clear hcz11_1
    try clear hcz11_2
    try clear hcz12_0
    try clear hcz12_1
    try clear hcz12_2
    try clear hcz17_0
    try clear hcz17_1
    try clear hcz17_2
    try clear hcz18_0
    try clear hcz18_1
    try clear hcz18_2
    try clear hcz24_0
    try clear hcz24_1
    try clear hcz24_2
    try clear hcz31_0
    try clear hcz31_1
    try clear hcz31_2
    try clear hcz35_0
    try clear hcz35_1
    try clear hcz35_2
    try clear hcz36_0
    try clear hcz36_1
    try clear hcz36_2
    try clear hcz40_0
    try clear hcz40_1
    try clear hcz40_2
    try clear hcz45_0
    try clear hcz45_1
    try clear hcz45_2
    try clear hfz11_0
    try clear hfz11_1
    try clear hfz11_2
    try clear hfz12_0
    try clear hfz12_1
    try clear hfz12_2
    try clear hfz17_0
    try clear hfz17_1
    try clear hfz17_2
    try clear hfz18_0
    try clear hfz18_1
    try clear hfz18_2
    try clear hfz24_0
    try clear hfz24_1
    try clear hfz24_2
    try clear hfz31_0
    try clear hfz31_1
    try clear hfz31_2
    try clear hfz35_0
    try clear hfz35_1
    try clear hfz35_2
    try clear hfz36_0
    try clear hfz36_1
    try clear hfz36_2
    try clear hfz40_0
    try clear hfz40_1
    try clear hfz40_2
    try clear hfz45_0
    try clear hfz45_1
    try clear hfz45_2
    obtain ⟨kq, x33_5, rfl, HA, HJ5, BK116, BK117, BK123, BK128, HB⟩ := hcut
    cases kq with
    | zero => exact absurd HA.out (by simp [interchangelaw11_DialTune.j0])
    | succ kj5 =>
      have H := HA.out
      clear HA
      simp only [interchangelaw11_DialTune.j0] at H
      by_cases c47 : x33_5 = true
      · subst c47
        have H1 : (some false) = some true := by rw [if_pos rfl] at H; first | done | exact H
        clear H
        have H := H1
        clear H1
        exact absurd H (by decide)
      · replace c47 := Bool.eq_false_iff.mpr c47
        subst c47
        have H1 : (if t122 = 0 then (if t118 = true then ((serve_Right.f t119 t120 t121).bind fun t130 => (if t130 = true then (if t119 ≤ a0_0 then (if t120 ≤ a0_1 then (if t121 ≤ a0_2 then (if a1_0 = 0 then (if a1_1 = 0 then (some (decide (t121 ≤ a1_2))) else (if t120 ≤ a1_1 then (some (decide (t121 ≤ a1_2))) else (some false))) else (if t119 ≤ a1_0 then (if a1_1 = 0 then (some (decide (t121 ≤ a1_2))) else (if t120 ≤ a1_1 then (some (decide (t121 ≤ a1_2))) else (some false))) else (some false))) else (some false)) else (some false)) else (some false)) else (some false))) else (some false)) else (if t118 = true then (some (t119 == 0 && (t120 == 0 && (t121 == 0)))) else (some false))) = some true := by rw [if_neg (show ¬ (false = true) by decide)] at H; first | done | exact H
        clear H
        have H := H1
        clear H1
        by_cases c48 : t122 = 0
        · rw [if_pos c48] at H
          have c48b0 : (t122 == 0) = true := beq_iff_eq.mpr c48
          have c48b1 : (t122 != 0) = false := bne_eq_false_iff_eq.mpr c48
          clear c48
          by_cases c49 : t118 = true
          · subst c49
            have H1 : ((serve_Right.f t119 t120 t121).bind fun t130 => (if t130 = true then (if t119 ≤ a0_0 then (if t120 ≤ a0_1 then (if t121 ≤ a0_2 then (if a1_0 = 0 then (if a1_1 = 0 then (some (decide (t121 ≤ a1_2))) else (if t120 ≤ a1_1 then (some (decide (t121 ≤ a1_2))) else (some false))) else (if t119 ≤ a1_0 then (if a1_1 = 0 then (some (decide (t121 ≤ a1_2))) else (if t120 ≤ a1_1 then (some (decide (t121 ≤ a1_2))) else (some false))) else (some false))) else (some false)) else (some false)) else (some false)) else (some false))) = some true := by rw [if_pos rfl] at H; first | done | exact H
            clear H
            have H := H1
            clear H1
            replace H := Option.bind_eq_some_iff.mp H
            obtain ⟨t130, A500, H⟩ := H
            replace H : (if t130 = true then (if t119 ≤ a0_0 then (if t120 ≤ a0_1 then (if t121 ≤ a0_2 then (if a1_0 = 0 then (if a1_1 = 0 then (some (decide (t121 ≤ a1_2))) else (if t120 ≤ a1_1 then (some (decide (t121 ≤ a1_2))) else (some false))) else (if t119 ≤ a1_0 then (if a1_1 = 0 then (some (decide (t121 ≤ a1_2))) else (if t120 ≤ a1_1 then (some (decide (t121 ≤ a1_2))) else (some false))) else (some false))) else (some false)) else (some false)) else (some false)) else (some false)) = some true := H
            have A50 := Aside0.mk A500
            clear A500
            by_cases c51 : t130 = true
            · subst c51
              have H1 : (if t119 ≤ a0_0 then (if t120 ≤ a0_1 then (if t121 ≤ a0_2 then (if a1_0 = 0 then (if a1_1 = 0 then (some (decide (t121 ≤ a1_2))) else (if t120 ≤ a1_1 then (some (decide (t121 ≤ a1_2))) else (some false))) else (if t119 ≤ a1_0 then (if a1_1 = 0 then (some (decide (t121 ≤ a1_2))) else (if t120 ≤ a1_1 then (some (decide (t121 ≤ a1_2))) else (some false))) else (some false))) else (some false)) else (some false)) else (some false)) = some true := by rw [if_pos rfl] at H; first | done | exact H
              clear H
              have H := H1
              clear H1
              by_cases c52 : t119 ≤ a0_0
              · rw [if_pos c52] at H
                have c52b0 : decide (t119 ≤ a0_0) = true := decide_eq_true c52
                clear c52
                by_cases c53 : t120 ≤ a0_1
                · rw [if_pos c53] at H
                  have c53b0 : decide (t120 ≤ a0_1) = true := decide_eq_true c53
                  clear c53
                  by_cases c54 : t121 ≤ a0_2
                  · rw [if_pos c54] at H
                    have c54b0 : decide (t121 ≤ a0_2) = true := decide_eq_true c54
                    clear c54
                    by_cases c55 : a1_0 = 0
                    · rw [if_pos c55] at H
                      have c55b0 : (a1_0 == 0) = true := beq_iff_eq.mpr c55
                      have c55b1 : (a1_0 != 0) = false := bne_eq_false_iff_eq.mpr c55
                      clear c55
                      by_cases c56 : a1_1 = 0
                      · rw [if_pos c56] at H
                        have c56b0 : (a1_1 == 0) = true := beq_iff_eq.mpr c56
                        have c56b1 : (a1_1 != 0) = false := bne_eq_false_iff_eq.mpr c56
                        clear c56
                        have HR_ := Aside0.mk (Option.some.inj H)
                        clear H
                        have hnb57 := NB123_116.out
                        have hnc57 := NB116_123.out
                        have hnb58 := NB123_117.out
                        have hnc58 := NB117_123.out
                        have hnb59 := NB123_128.out
                        have hnc59 := NB128_123.out
                        have hcz60_0 : wc.cell? ⟨gb123, 0, none⟩ = some (.int .i64 t119) := (blk_cell BK123.out 0).trans rfl
                        have hcz60_1 : wc.cell? ⟨gb123, 1, none⟩ = some (.int .i64 t120) := (blk_cell BK123.out 1).trans rfl
                        have hcz60_2 : wc.cell? ⟨gb123, 2, none⟩ = some (.int .i64 t121) := (blk_cell BK123.out 2).trans rfl
                        have hfz60_0 := blk_frozen BK123.out 0
                        have hfz60_1 := blk_frozen BK123.out 1
                        have hfz60_2 := blk_frozen BK123.out 2
                        go_wp2_with (first | (go_at_call 8; (with_reducible refine (serve_Right.calls t119 t120 t121 true _ A50.out).mono ?_); rintro e w61 ⟨rfl, hb⟩; have n0_ := Aside0.mk (blk_below (g := gb116) (o := .cells #[.int .i64 a0_0, .int .i64 a0_1, .int .i64 a0_2] 23 (0, 0)) (by (with_reducible repeat (first | refine blk_drewN ?_ _ | refine blk_drew ?_ | refine blk_alloc ?_ _)); exact BK116.out) hb); have n1_ := Aside0.mk (blk_below (g := gb117) (o := .cells #[.int .i64 a1_0, .int .i64 a1_1, .int .i64 a1_2] 23 (0, 0)) (by (with_reducible repeat (first | refine blk_drewN ?_ _ | refine blk_drew ?_ | refine blk_alloc ?_ _)); exact BK117.out) hb); have n2_ := Aside0.mk (blk_below (g := gb123) (o := .cells #[.int .i64 t119, .int .i64 t120, .int .i64 t121] 23 (0, 0)) (by (with_reducible repeat (first | refine blk_drewN ?_ _ | refine blk_drew ?_ | refine blk_alloc ?_ _)); exact BK123.out) hb); have n3_ := Aside0.mk (blk_below (g := gb128) (o := .cells #[.int .i64 t124, .int .i64 t125, .int .i64 t126] 23 (0, 0)) (by (with_reducible repeat (first | refine blk_drewN ?_ _ | refine blk_drew ?_ | refine blk_alloc ?_ _)); exact BK128.out) hb); have n4_ := Aside0.mk (below_step (by repeat (first | (with_reducible first | exact HB.out | apply below_alloc | apply pw_below_drewN | apply below_drew1 | refine below_set ?_ GE116.out | refine below_set ?_ GE117.out | refine below_set ?_ GE123.out | refine below_set ?_ GE128.out) | exact HB.out)) hb); clear BK116; clear BK117; clear BK123; clear BK128; clear HB; have BK116 := n0_; have BK117 := n1_; have BK123 := n2_; have BK128 := n3_; have HB := n4_; clear n0_ n1_ n2_ n3_ n4_; (try clear hb); (try clear hb2); (try clear hk); (try clear hi); have hcz62_0 : w61.cell? ⟨gb123, 0, none⟩ = some (.int .i64 t119) := (blk_cell BK123.out 0).trans rfl; have hcz62_1 : w61.cell? ⟨gb123, 1, none⟩ = some (.int .i64 t120) := (blk_cell BK123.out 1).trans rfl; have hcz62_2 : w61.cell? ⟨gb123, 2, none⟩ = some (.int .i64 t121) := (blk_cell BK123.out 2).trans rfl; have hfz62_0 := blk_frozen BK123.out 0; have hfz62_1 := blk_frozen BK123.out 1; have hfz62_2 := blk_frozen BK123.out 2; have hnb63 := NB116_117.out; have hnc63 := NB117_116.out; have hnb64 := NB116_128.out; have hnc64 := NB128_116.out; have hcz65_0 : w61.cell? ⟨gb116, 0, none⟩ = some (.int .i64 a0_0) := (blk_cell BK116.out 0).trans rfl; have hcz65_1 : w61.cell? ⟨gb116, 1, none⟩ = some (.int .i64 a0_1) := (blk_cell BK116.out 1).trans rfl; have hcz65_2 : w61.cell? ⟨gb116, 2, none⟩ = some (.int .i64 a0_2) := (blk_cell BK116.out 2).trans rfl; have hfz65_0 := blk_frozen BK116.out 0; have hfz65_1 := blk_frozen BK116.out 1; have hfz65_2 := blk_frozen BK116.out 2; have hnb66 := NB117_128.out; have hnc66 := NB128_117.out; have hcz67_0 : w61.cell? ⟨gb117, 0, none⟩ = some (.int .i64 a1_0) := (blk_cell BK117.out 0).trans rfl; have hcz67_1 : w61.cell? ⟨gb117, 1, none⟩ = some (.int .i64 a1_1) := (blk_cell BK117.out 1).trans rfl; have hcz67_2 : w61.cell? ⟨gb117, 2, none⟩ = some (.int .i64 a1_2) := (blk_cell BK117.out 2).trans rfl; have hfz67_0 := blk_frozen BK117.out 0; have hfz67_1 := blk_frozen BK117.out 1; have hfz67_2 := blk_frozen BK117.out 2))
                        go_ret
                        exact ⟨by have HR0_ := HR_.out; first | exact congrArg (fun b_ => Ending.returned (Value.bool b_)) HR0_ | rfl | (simp [errW_none, errW_some] <;> rfl) | (simp [*, errW_none, errW_some] <;> rfl), by repeat (first | (with_reducible first | exact HB.out | apply below_alloc | apply pw_below_drewN | apply below_drew1 | refine below_set ?_ GE116.out | refine below_set ?_ GE117.out | refine below_set ?_ GE123.out | refine below_set ?_ GE128.out) | exact HB.out)⟩
                      · rw [if_neg c56] at H
                        have c56b0 : (a1_1 == 0) = false := beq_eq_false_iff_ne.mpr c56
                        have c56b1 : (a1_1 != 0) = true := bne_iff_ne.mpr c56
                        by_cases c68 : t120 ≤ a1_1
                        · rw [if_pos c68] at H
                          have c68b0 : decide (t120 ≤ a1_1) = true := decide_eq_true c68
                          clear c68
                          have HR_ := Aside0.mk (Option.some.inj H)
                          clear H
                          have hnb69 := NB123_116.out
                          have hnc69 := NB116_123.out
                          have hnb70 := NB123_117.out
                          have hnc70 := NB117_123.out
                          have hnb71 := NB123_128.out
                          have hnc71 := NB128_123.out
                          have hcz72_0 : wc.cell? ⟨gb123, 0, none⟩ = some (.int .i64 t119) := (blk_cell BK123.out 0).trans rfl
                          have hcz72_1 : wc.cell? ⟨gb123, 1, none⟩ = some (.int .i64 t120) := (blk_cell BK123.out 1).trans rfl
                          have hcz72_2 : wc.cell? ⟨gb123, 2, none⟩ = some (.int .i64 t121) := (blk_cell BK123.out 2).trans rfl
                          have hfz72_0 := blk_frozen BK123.out 0
                          have hfz72_1 := blk_frozen BK123.out 1
                          have hfz72_2 := blk_frozen BK123.out 2
                          go_wp2_with (first | (go_at_call 8; (with_reducible refine (serve_Right.calls t119 t120 t121 true _ A50.out).mono ?_); rintro e w73 ⟨rfl, hb⟩; have n0_ := Aside0.mk (blk_below (g := gb116) (o := .cells #[.int .i64 a0_0, .int .i64 a0_1, .int .i64 a0_2] 23 (0, 0)) (by (with_reducible repeat (first | refine blk_drewN ?_ _ | refine blk_drew ?_ | refine blk_alloc ?_ _)); exact BK116.out) hb); have n1_ := Aside0.mk (blk_below (g := gb117) (o := .cells #[.int .i64 a1_0, .int .i64 a1_1, .int .i64 a1_2] 23 (0, 0)) (by (with_reducible repeat (first | refine blk_drewN ?_ _ | refine blk_drew ?_ | refine blk_alloc ?_ _)); exact BK117.out) hb); have n2_ := Aside0.mk (blk_below (g := gb123) (o := .cells #[.int .i64 t119, .int .i64 t120, .int .i64 t121] 23 (0, 0)) (by (with_reducible repeat (first | refine blk_drewN ?_ _ | refine blk_drew ?_ | refine blk_alloc ?_ _)); exact BK123.out) hb); have n3_ := Aside0.mk (blk_below (g := gb128) (o := .cells #[.int .i64 t124, .int .i64 t125, .int .i64 t126] 23 (0, 0)) (by (with_reducible repeat (first | refine blk_drewN ?_ _ | refine blk_drew ?_ | refine blk_alloc ?_ _)); exact BK128.out) hb); have n4_ := Aside0.mk (below_step (by repeat (first | (with_reducible first | exact HB.out | apply below_alloc | apply pw_below_drewN | apply below_drew1 | refine below_set ?_ GE116.out | refine below_set ?_ GE117.out | refine below_set ?_ GE123.out | refine below_set ?_ GE128.out) | exact HB.out)) hb); clear BK116; clear BK117; clear BK123; clear BK128; clear HB; have BK116 := n0_; have BK117 := n1_; have BK123 := n2_; have BK128 := n3_; have HB := n4_; clear n0_ n1_ n2_ n3_ n4_; (try clear hb); (try clear hb2); (try clear hk); (try clear hi); have hcz74_0 : w73.cell? ⟨gb123, 0, none⟩ = some (.int .i64 t119) := (blk_cell BK123.out 0).trans rfl; have hcz74_1 : w73.cell? ⟨gb123, 1, none⟩ = some (.int .i64 t120) := (blk_cell BK123.out 1).trans rfl; have hcz74_2 : w73.cell? ⟨gb123, 2, none⟩ = some (.int .i64 t121) := (blk_cell BK123.out 2).trans rfl; have hfz74_0 := blk_frozen BK123.out 0; have hfz74_1 := blk_frozen BK123.out 1; have hfz74_2 := blk_frozen BK123.out 2; have hnb75 := NB116_117.out; have hnc75 := NB117_116.out; have hnb76 := NB116_128.out; have hnc76 := NB128_116.out; have hcz77_0 : w73.cell? ⟨gb116, 0, none⟩ = some (.int .i64 a0_0) := (blk_cell BK116.out 0).trans rfl; have hcz77_1 : w73.cell? ⟨gb116, 1, none⟩ = some (.int .i64 a0_1) := (blk_cell BK116.out 1).trans rfl; have hcz77_2 : w73.cell? ⟨gb116, 2, none⟩ = some (.int .i64 a0_2) := (blk_cell BK116.out 2).trans rfl; have hfz77_0 := blk_frozen BK116.out 0; have hfz77_1 := blk_frozen BK116.out 1; have hfz77_2 := blk_frozen BK116.out 2; have hnb78 := NB117_128.out; have hnc78 := NB128_117.out; have hcz79_0 : w73.cell? ⟨gb117, 0, none⟩ = some (.int .i64 a1_0) := (blk_cell BK117.out 0).trans rfl; have hcz79_1 : w73.cell? ⟨gb117, 1, none⟩ = some (.int .i64 a1_1) := (blk_cell BK117.out 1).trans rfl; have hcz79_2 : w73.cell? ⟨gb117, 2, none⟩ = some (.int .i64 a1_2) := (blk_cell BK117.out 2).trans rfl; have hfz79_0 := blk_frozen BK117.out 0; have hfz79_1 := blk_frozen BK117.out 1; have hfz79_2 := blk_frozen BK117.out 2))
                          go_ret
                          exact ⟨by have HR0_ := HR_.out; first | exact congrArg (fun b_ => Ending.returned (Value.bool b_)) HR0_ | rfl | (simp [errW_none, errW_some] <;> rfl) | (simp [*, errW_none, errW_some] <;> rfl), by repeat (first | (with_reducible first | exact HB.out | apply below_alloc | apply pw_below_drewN | apply below_drew1 | refine below_set ?_ GE116.out | refine below_set ?_ GE117.out | refine below_set ?_ GE123.out | refine below_set ?_ GE128.out) | exact HB.out)⟩
                        · rw [if_neg c68] at H
                          have c68b0 : decide (t120 ≤ a1_1) = false := decide_eq_false c68
                          clear c68
                          exact absurd H (by decide)
                    · rw [if_neg c55] at H
                      have c55b0 : (a1_0 == 0) = false := beq_eq_false_iff_ne.mpr c55
                      have c55b1 : (a1_0 != 0) = true := bne_iff_ne.mpr c55
                      by_cases c91 : t119 ≤ a1_0
                      · rw [if_pos c91] at H
                        have c91b0 : decide (t119 ≤ a1_0) = true := decide_eq_true c91
                        clear c91
                        by_cases c92 : a1_1 = 0
                        · rw [if_pos c92] at H
                          have c92b0 : (a1_1 == 0) = true := beq_iff_eq.mpr c92
                          have c92b1 : (a1_1 != 0) = false := bne_eq_false_iff_eq.mpr c92
                          clear c92
                          have HR_ := Aside0.mk (Option.some.inj H)
                          clear H
                          have hnb93 := NB123_116.out
                          have hnc93 := NB116_123.out
                          have hnb94 := NB123_117.out
                          have hnc94 := NB117_123.out
                          have hnb95 := NB123_128.out
                          have hnc95 := NB128_123.out
                          have hcz96_0 : wc.cell? ⟨gb123, 0, none⟩ = some (.int .i64 t119) := (blk_cell BK123.out 0).trans rfl
                          have hcz96_1 : wc.cell? ⟨gb123, 1, none⟩ = some (.int .i64 t120) := (blk_cell BK123.out 1).trans rfl
                          have hcz96_2 : wc.cell? ⟨gb123, 2, none⟩ = some (.int .i64 t121) := (blk_cell BK123.out 2).trans rfl
                          have hfz96_0 := blk_frozen BK123.out 0
                          have hfz96_1 := blk_frozen BK123.out 1
                          have hfz96_2 := blk_frozen BK123.out 2
                          go_wp2_with (first | (go_at_call 8; (with_reducible refine (serve_Right.calls t119 t120 t121 true _ A50.out).mono ?_); rintro e w97 ⟨rfl, hb⟩; have n0_ := Aside0.mk (blk_below (g := gb116) (o := .cells #[.int .i64 a0_0, .int .i64 a0_1, .int .i64 a0_2] 23 (0, 0)) (by (with_reducible repeat (first | refine blk_drewN ?_ _ | refine blk_drew ?_ | refine blk_alloc ?_ _)); exact BK116.out) hb); have n1_ := Aside0.mk (blk_below (g := gb117) (o := .cells #[.int .i64 a1_0, .int .i64 a1_1, .int .i64 a1_2] 23 (0, 0)) (by (with_reducible repeat (first | refine blk_drewN ?_ _ | refine blk_drew ?_ | refine blk_alloc ?_ _)); exact BK117.out) hb); have n2_ := Aside0.mk (blk_below (g := gb123) (o := .cells #[.int .i64 t119, .int .i64 t120, .int .i64 t121] 23 (0, 0)) (by (with_reducible repeat (first | refine blk_drewN ?_ _ | refine blk_drew ?_ | refine blk_alloc ?_ _)); exact BK123.out) hb); have n3_ := Aside0.mk (blk_below (g := gb128) (o := .cells #[.int .i64 t124, .int .i64 t125, .int .i64 t126] 23 (0, 0)) (by (with_reducible repeat (first | refine blk_drewN ?_ _ | refine blk_drew ?_ | refine blk_alloc ?_ _)); exact BK128.out) hb); have n4_ := Aside0.mk (below_step (by repeat (first | (with_reducible first | exact HB.out | apply below_alloc | apply pw_below_drewN | apply below_drew1 | refine below_set ?_ GE116.out | refine below_set ?_ GE117.out | refine below_set ?_ GE123.out | refine below_set ?_ GE128.out) | exact HB.out)) hb); clear BK116; clear BK117; clear BK123; clear BK128; clear HB; have BK116 := n0_; have BK117 := n1_; have BK123 := n2_; have BK128 := n3_; have HB := n4_; clear n0_ n1_ n2_ n3_ n4_; (try clear hb); (try clear hb2); (try clear hk); (try clear hi); have hcz98_0 : w97.cell? ⟨gb123, 0, none⟩ = some (.int .i64 t119) := (blk_cell BK123.out 0).trans rfl; have hcz98_1 : w97.cell? ⟨gb123, 1, none⟩ = some (.int .i64 t120) := (blk_cell BK123.out 1).trans rfl; have hcz98_2 : w97.cell? ⟨gb123, 2, none⟩ = some (.int .i64 t121) := (blk_cell BK123.out 2).trans rfl; have hfz98_0 := blk_frozen BK123.out 0; have hfz98_1 := blk_frozen BK123.out 1; have hfz98_2 := blk_frozen BK123.out 2; have hnb99 := NB116_117.out; have hnc99 := NB117_116.out; have hnb100 := NB116_128.out; have hnc100 := NB128_116.out; have hcz101_0 : w97.cell? ⟨gb116, 0, none⟩ = some (.int .i64 a0_0) := (blk_cell BK116.out 0).trans rfl; have hcz101_1 : w97.cell? ⟨gb116, 1, none⟩ = some (.int .i64 a0_1) := (blk_cell BK116.out 1).trans rfl; have hcz101_2 : w97.cell? ⟨gb116, 2, none⟩ = some (.int .i64 a0_2) := (blk_cell BK116.out 2).trans rfl; have hfz101_0 := blk_frozen BK116.out 0; have hfz101_1 := blk_frozen BK116.out 1; have hfz101_2 := blk_frozen BK116.out 2; have hnb102 := NB117_128.out; have hnc102 := NB128_117.out; have hcz103_0 : w97.cell? ⟨gb117, 0, none⟩ = some (.int .i64 a1_0) := (blk_cell BK117.out 0).trans rfl; have hcz103_1 : w97.cell? ⟨gb117, 1, none⟩ = some (.int .i64 a1_1) := (blk_cell BK117.out 1).trans rfl; have hcz103_2 : w97.cell? ⟨gb117, 2, none⟩ = some (.int .i64 a1_2) := (blk_cell BK117.out 2).trans rfl; have hfz103_0 := blk_frozen BK117.out 0; have hfz103_1 := blk_frozen BK117.out 1; have hfz103_2 := blk_frozen BK117.out 2))
                          go_ret
                          exact ⟨by have HR0_ := HR_.out; first | exact congrArg (fun b_ => Ending.returned (Value.bool b_)) HR0_ | rfl | (simp [errW_none, errW_some] <;> rfl) | (simp [*, errW_none, errW_some] <;> rfl), by repeat (first | (with_reducible first | exact HB.out | apply below_alloc | apply pw_below_drewN | apply below_drew1 | refine below_set ?_ GE116.out | refine below_set ?_ GE117.out | refine below_set ?_ GE123.out | refine below_set ?_ GE128.out) | exact HB.out)⟩
                        · rw [if_neg c92] at H
                          have c92b0 : (a1_1 == 0) = false := beq_eq_false_iff_ne.mpr c92
                          have c92b1 : (a1_1 != 0) = true := bne_iff_ne.mpr c92
                          by_cases c104 : t120 ≤ a1_1
                          · rw [if_pos c104] at H
                            have c104b0 : decide (t120 ≤ a1_1) = true := decide_eq_true c104
                            clear c104
                            have HR_ := Aside0.mk (Option.some.inj H)
                            clear H
                            have hnb105 := NB123_116.out
                            have hnc105 := NB116_123.out
                            have hnb106 := NB123_117.out
                            have hnc106 := NB117_123.out
                            have hnb107 := NB123_128.out
                            have hnc107 := NB128_123.out
                            have hcz108_0 : wc.cell? ⟨gb123, 0, none⟩ = some (.int .i64 t119) := (blk_cell BK123.out 0).trans rfl
                            have hcz108_1 : wc.cell? ⟨gb123, 1, none⟩ = some (.int .i64 t120) := (blk_cell BK123.out 1).trans rfl
                            have hcz108_2 : wc.cell? ⟨gb123, 2, none⟩ = some (.int .i64 t121) := (blk_cell BK123.out 2).trans rfl
                            have hfz108_0 := blk_frozen BK123.out 0
                            have hfz108_1 := blk_frozen BK123.out 1
                            have hfz108_2 := blk_frozen BK123.out 2
                            go_wp2_with (first | (go_at_call 8; (with_reducible refine (serve_Right.calls t119 t120 t121 true _ A50.out).mono ?_); rintro e w109 ⟨rfl, hb⟩; have n0_ := Aside0.mk (blk_below (g := gb116) (o := .cells #[.int .i64 a0_0, .int .i64 a0_1, .int .i64 a0_2] 23 (0, 0)) (by (with_reducible repeat (first | refine blk_drewN ?_ _ | refine blk_drew ?_ | refine blk_alloc ?_ _)); exact BK116.out) hb); have n1_ := Aside0.mk (blk_below (g := gb117) (o := .cells #[.int .i64 a1_0, .int .i64 a1_1, .int .i64 a1_2] 23 (0, 0)) (by (with_reducible repeat (first | refine blk_drewN ?_ _ | refine blk_drew ?_ | refine blk_alloc ?_ _)); exact BK117.out) hb); have n2_ := Aside0.mk (blk_below (g := gb123) (o := .cells #[.int .i64 t119, .int .i64 t120, .int .i64 t121] 23 (0, 0)) (by (with_reducible repeat (first | refine blk_drewN ?_ _ | refine blk_drew ?_ | refine blk_alloc ?_ _)); exact BK123.out) hb); have n3_ := Aside0.mk (blk_below (g := gb128) (o := .cells #[.int .i64 t124, .int .i64 t125, .int .i64 t126] 23 (0, 0)) (by (with_reducible repeat (first | refine blk_drewN ?_ _ | refine blk_drew ?_ | refine blk_alloc ?_ _)); exact BK128.out) hb); have n4_ := Aside0.mk (below_step (by repeat (first | (with_reducible first | exact HB.out | apply below_alloc | apply pw_below_drewN | apply below_drew1 | refine below_set ?_ GE116.out | refine below_set ?_ GE117.out | refine below_set ?_ GE123.out | refine below_set ?_ GE128.out) | exact HB.out)) hb); clear BK116; clear BK117; clear BK123; clear BK128; clear HB; have BK116 := n0_; have BK117 := n1_; have BK123 := n2_; have BK128 := n3_; have HB := n4_; clear n0_ n1_ n2_ n3_ n4_; (try clear hb); (try clear hb2); (try clear hk); (try clear hi); have hcz110_0 : w109.cell? ⟨gb123, 0, none⟩ = some (.int .i64 t119) := (blk_cell BK123.out 0).trans rfl; have hcz110_1 : w109.cell? ⟨gb123, 1, none⟩ = some (.int .i64 t120) := (blk_cell BK123.out 1).trans rfl; have hcz110_2 : w109.cell? ⟨gb123, 2, none⟩ = some (.int .i64 t121) := (blk_cell BK123.out 2).trans rfl; have hfz110_0 := blk_frozen BK123.out 0; have hfz110_1 := blk_frozen BK123.out 1; have hfz110_2 := blk_frozen BK123.out 2; have hnb111 := NB116_117.out; have hnc111 := NB117_116.out; have hnb112 := NB116_128.out; have hnc112 := NB128_116.out; have hcz113_0 : w109.cell? ⟨gb116, 0, none⟩ = some (.int .i64 a0_0) := (blk_cell BK116.out 0).trans rfl; have hcz113_1 : w109.cell? ⟨gb116, 1, none⟩ = some (.int .i64 a0_1) := (blk_cell BK116.out 1).trans rfl; have hcz113_2 : w109.cell? ⟨gb116, 2, none⟩ = some (.int .i64 a0_2) := (blk_cell BK116.out 2).trans rfl; have hfz113_0 := blk_frozen BK116.out 0; have hfz113_1 := blk_frozen BK116.out 1; have hfz113_2 := blk_frozen BK116.out 2; have hnb114 := NB117_128.out; have hnc114 := NB128_117.out; have hcz115_0 : w109.cell? ⟨gb117, 0, none⟩ = some (.int .i64 a1_0) := (blk_cell BK117.out 0).trans rfl; have hcz115_1 : w109.cell? ⟨gb117, 1, none⟩ = some (.int .i64 a1_1) := (blk_cell BK117.out 1).trans rfl; have hcz115_2 : w109.cell? ⟨gb117, 2, none⟩ = some (.int .i64 a1_2) := (blk_cell BK117.out 2).trans rfl; have hfz115_0 := blk_frozen BK117.out 0; have hfz115_1 := blk_frozen BK117.out 1; have hfz115_2 := blk_frozen BK117.out 2))
                            go_ret
                            exact ⟨by have HR0_ := HR_.out; first | exact congrArg (fun b_ => Ending.returned (Value.bool b_)) HR0_ | rfl | (simp [errW_none, errW_some] <;> rfl) | (simp [*, errW_none, errW_some] <;> rfl), by repeat (first | (with_reducible first | exact HB.out | apply below_alloc | apply pw_below_drewN | apply below_drew1 | refine below_set ?_ GE116.out | refine below_set ?_ GE117.out | refine below_set ?_ GE123.out | refine below_set ?_ GE128.out) | exact HB.out)⟩
                          · rw [if_neg c104] at H
                            have c104b0 : decide (t120 ≤ a1_1) = false := decide_eq_false c104
                            clear c104
                            exact absurd H (by decide)
                      · rw [if_neg c91] at H
                        have c91b0 : decide (t119 ≤ a1_0) = false := decide_eq_false c91
                        clear c91
                        exact absurd H (by decide)
                  · rw [if_neg c54] at H
                    have c54b0 : decide (t121 ≤ a0_2) = false := decide_eq_false c54
                    clear c54
                    exact absurd H (by decide)
                · rw [if_neg c53] at H
                  have c53b0 : decide (t120 ≤ a0_1) = false := decide_eq_false c53
                  clear c53
                  exact absurd H (by decide)
              · rw [if_neg c52] at H
                have c52b0 : decide (t119 ≤ a0_0) = false := decide_eq_false c52
                clear c52
                exact absurd H (by decide)
            · replace c51 := Bool.eq_false_iff.mpr c51
              subst c51
              have H1 : (some false) = some true := by rw [if_neg (show ¬ (false = true) by decide)] at H; first | done | exact H
              clear H
              have H := H1
              clear H1
              exact absurd H (by decide)
          · replace c49 := Bool.eq_false_iff.mpr c49
            subst c49
            have H1 : (some false) = some true := by rw [if_neg (show ¬ (false = true) by decide)] at H; first | done | exact H
            clear H
            have H := H1
            clear H1
            exact absurd H (by decide)
        · rw [if_neg c48] at H
          have c48b0 : (t122 == 0) = false := beq_eq_false_iff_ne.mpr c48
          have c48b1 : (t122 != 0) = true := bne_iff_ne.mpr c48
          by_cases c170 : t118 = true
          · subst c170
            have H1 : (some (t119 == 0 && (t120 == 0 && (t121 == 0)))) = some true := by rw [if_pos rfl] at H; first | done | exact H
            clear H
            have H := H1
            clear H1
            have HR_ := Aside0.mk (Option.some.inj H)
            clear H
            have hnb171 := NB123_116.out
            have hnc171 := NB116_123.out
            have hnb172 := NB123_117.out
            have hnc172 := NB117_123.out
            have hnb173 := NB123_128.out
            have hnc173 := NB128_123.out
            have hcz174_0 : wc.cell? ⟨gb123, 0, none⟩ = some (.int .i64 t119) := (blk_cell BK123.out 0).trans rfl
            have hcz174_1 : wc.cell? ⟨gb123, 1, none⟩ = some (.int .i64 t120) := (blk_cell BK123.out 1).trans rfl
            have hcz174_2 : wc.cell? ⟨gb123, 2, none⟩ = some (.int .i64 t121) := (blk_cell BK123.out 2).trans rfl
            have hfz174_0 := blk_frozen BK123.out 0
            have hfz174_1 := blk_frozen BK123.out 1
            have hfz174_2 := blk_frozen BK123.out 2
            go_wp2
            go_ret
            exact ⟨by have HR0_ := HR_.out; first | exact congrArg (fun b_ => Ending.returned (Value.bool b_)) HR0_ | rfl | (simp [errW_none, errW_some] <;> rfl) | (simp [*, errW_none, errW_some] <;> rfl), by repeat (first | (with_reducible first | exact HB.out | apply below_alloc | apply pw_below_drewN | apply below_drew1 | refine below_set ?_ GE116.out | refine below_set ?_ GE117.out | refine below_set ?_ GE123.out | refine below_set ?_ GE128.out) | exact HB.out)⟩
          · replace c170 := Bool.eq_false_iff.mpr c170
            subst c170
            have H1 : (some false) = some true := by rw [if_neg (show ¬ (false = true) by decide)] at H; first | done | exact H
            clear H
            have H := H1
            clear H1
            exact absurd H (by decide)


end Go.Proofs.YtoldelpmmlpgjaaDoor.F
