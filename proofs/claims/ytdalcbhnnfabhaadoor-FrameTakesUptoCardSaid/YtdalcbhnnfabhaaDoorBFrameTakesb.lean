/- Texts of this session for the law FrameTakes, one behind the other: frameTake, PframeTake, PframeBack, Hframes, Hframesiter. -/
import Derived.WalkKit
import Derived.Test.YtdalcbhnnfabhaaDoorBFrameTakesa
namespace Go.Proofs.YtdalcbhnnfabhaaDoor.F
open Go.RowKit Go.Proofs.YtdalcbhnnfabhaaDoorW.PrintWords Go.Proofs.YtdalcbhnnfabhaaDoorW.PrintLast Go.Proofs.YtdalcbhnnfabhaaDoorW.PrintMore
attribute [local go_sem] max2_int min2_int max_two min_two max_three min_three max_four min_four
set_option linter.unusedVariables false
set_option linter.unusedSimpArgs false

/-! ### frame_Take: function 14 -/
def frame_Take.j0 : Nat → ByteArray → Int → Bool → Option (Int × Int × ByteArray × ByteArray × Int)
  | 0, _, _, _ => none
  | k + 1, x0, x1, x16 => if x16 = true then (some (0, 0, (⟨#[]⟩ : ByteArray), (⟨#[]⟩ : ByteArray), 6)) else (if (x0.size : Int) < 7 then (some (0, 0, (⟨#[]⟩ : ByteArray), (⟨#[]⟩ : ByteArray), 2)) else (if 1 ≤ (x0.size : Int) then ((num_Take.f k (x0.extract 1 x0.size) 2).bind fun bt138 => ((num_Take.f k bt138.2.1 4).bind fun bt141 => (if bt141.1 > (IntKind.u64.wrap (wrap64 (x1 - 8))) then (some (0, 0, (⟨#[]⟩ : ByteArray), (⟨#[]⟩ : ByteArray), 6)) else (if (IntKind.u64.wrap ((bt141.2.1.size : Int))) ≤ bt141.1 then (some (0, 0, (⟨#[]⟩ : ByteArray), (⟨#[]⟩ : ByteArray), 2)) else (if 0 < (x0.size : Int) then (if 0 ≤ bt141.1 then (if bt141.1 ≤ (bt141.2.1.size : Int) then (if bt141.1 < (bt141.2.1.size : Int) then (if (bt bt141.2.1 bt141.1) = 206 then ((frame_Right.f k (wrap64 (bt x0 0)) (wrap64 (bt138.1)) (bt141.2.1.extract 0 (bt141.1 : Int).toNat)).bind fun t145 => (if t145 = true then (if 0 ≤ (IntKind.u64.wrap (bt141.1 + 1)) then (if (IntKind.u64.wrap (bt141.1 + 1)) ≤ (bt141.2.1.size : Int) then (some (wrap64 (bt x0 0), wrap64 (bt138.1), bt141.2.1.extract 0 (bt141.1 : Int).toNat, bt141.2.1.extract ((IntKind.u64.wrap (bt141.1 + 1)) : Int).toNat bt141.2.1.size, 0)) else (none)) else (none)) else (some (0, 0, (⟨#[]⟩ : ByteArray), (⟨#[]⟩ : ByteArray), 6)))) else (some (0, 0, (⟨#[]⟩ : ByteArray), (⟨#[]⟩ : ByteArray), 6))) else (none)) else (none)) else (none)) else (none)))))) else (none)))
def frame_Take.f (k : Nat) (a0 : ByteArray) (a1 : Int) : Option (Int × Int × ByteArray × ByteArray × Int) := if a0.toList = ([] : List UInt8) then (frame_Take.j0 k a0 (mn (mx a1 4096) 131072) false) else (if 0 < (a0.size : Int) then ((frame_kind.f (wrap64 (bt a0 0))).bind fun t137 => (frame_Take.j0 k a0 (mn (mx a1 4096) 131072) (!t137))) else (none))
theorem frame_Take.mono_l : ∀ k, (∀ y0 y1 y2, LeO (frame_Take.j0 k y0 y1 y2) (frame_Take.j0 (k + 1) y0 y1 y2))
  | 0 => fun _ _ _ r h => by simp [frame_Take.j0] at h
  | k + 1 => by
    have ih0 := frame_Take.mono_l k
    · intro y0 y1 y2
      unfold frame_Take.j0
      repeat' first
      | (with_reducible exact ih0 _ _ _)
      | (with_reducible exact frame_Right.mono _ _ _ _)
      | (with_reducible exact num_Take.mono _ _ _)
      | (with_reducible exact LeO.refl _)
      | (with_reducible exact LeO.none _)
      | (with_reducible refine LeO.ite ?_ ?_)
      | (with_reducible refine LeO.bind ?_ (fun _ => ?_))
      | exact ih0 _ _ _
      | exact frame_Right.mono _ _ _ _
      | exact num_Take.mono _ _ _
      | exact LeO.none _
      | refine LeO.ite ?_ ?_
      | refine LeO.bind ?_ (fun _ => ?_)
theorem frame_Take.mono : ∀ a0 a1 k, LeO (frame_Take.f k a0 a1) (frame_Take.f (k + 1) a0 a1) := by
  intro a0 a1 k
  have ih0 := frame_Take.mono_l k
  unfold frame_Take.f
  repeat' first
      | (with_reducible exact ih0 _ _ _)
      | (with_reducible exact frame_Right.mono _ _ _ _)
      | (with_reducible exact num_Take.mono _ _ _)
      | (with_reducible exact LeO.refl _)
      | (with_reducible exact LeO.none _)
      | (with_reducible refine LeO.ite ?_ ?_)
      | (with_reducible refine LeO.bind ?_ (fun _ => ?_))
      | exact ih0 _ _ _
      | exact frame_Right.mono _ _ _ _
      | exact num_Take.mono _ _ _
      | exact LeO.none _
      | refine LeO.ite ?_ ?_
      | refine LeO.bind ?_ (fun _ => ?_)
def frame_Take.T12 : Bool × List (List Nat × List Nat) := (true, [([], []), ([0], [0]), ([1], [1]), ([], []), ([3], [3]), ([], []), ([], []), ([5, 6], [5, 6]), ([2, 4, 7], [2, 4, 7]), ([], []), ([9, 8, 0, 1, 2, 3, 4, 5, 6, 7, 8, 9], [8, 9])])
def frame_Take.B12 : List Nat := [0, 1, 3, 0, 8, 0, 0, 96, 255, 0, 1023]
theorem frame_Take.tab12 : rtab .any (opsOf Tryd.f14 12) = frame_Take.T12 := by kernel_rfl
theorem frame_Take.bits12 : waitsOk frame_Take.T12.2 frame_Take.B12 = true := by kernel_rfl
def frame_Take.T15 : Bool × List (List Nat × List Nat) := (true, [([], []), ([], []), ([], []), ([2], [2]), ([1, 3], [1, 3]), ([0, 0], [0]), ([4, 5, 0, 1, 2, 3, 4, 5], [4]), ([6, 0, 1, 2, 3, 4, 5, 6], [])])
def frame_Take.B15 : List Nat := [0, 0, 0, 4, 14, 1, 63, 127]
theorem frame_Take.tab15 : rtab .any (opsOf Tryd.f14 15) = frame_Take.T15 := by kernel_rfl
theorem frame_Take.bits15 : waitsOk frame_Take.T15.2 frame_Take.B15 = true := by kernel_rfl
set_option maxHeartbeats 8000000 in
set_option maxRecDepth 100000 in
theorem frame_Take.calls (k : Nat) (a0 : ByteArray) (a1 : Int) (r1 : Int) (r2 : Int) (r3 : ByteArray) (r4 : ByteArray) (r5 : Int) (w : World) (hg : Laid w) (h : frame_Take.f k a0 a1 = some (r1, r2, r3, r4, r5)) :
    Calls Tryd.prog 14 #[.string a0, .int .i64 a1] w fun e w' => e = .returned (.tuple #[.agg #[.int .i64 r1, .int .i64 r2, .string r3], .string r4, .int .i64 r5]) ∧ Below w.heap.size w w' := by
  have HG := Aside0.mk hg
  clear hg
  have hu29 := Tryd.underlying29
  have HB := Aside0.mk (Below.refl w.heap.size w)
  have H : (if a0.toList = ([] : List UInt8) then (frame_Take.j0 k a0 (mn (mx a1 4096) 131072) false) else (if 0 < (a0.size : Int) then ((frame_kind.f (wrap64 (bt a0 0))).bind fun t137 => (frame_Take.j0 k a0 (mn (mx a1 4096) 131072) (!t137))) else (none))) = some (r1, r2, r3, r4, r5) := h
  clear h
  obtain ⟨ji3, hji3⟩ : ∃ j_ : Int, (mx a1 4096) = j_ := ⟨_, rfl⟩
  replace H : (if a0.toList = ([] : List UInt8) then (frame_Take.j0 k a0 (mn (ji3) 131072) false) else (if 0 < (a0.size : Int) then ((frame_kind.f (wrap64 (bt a0 0))).bind fun t137 => (frame_Take.j0 k a0 (mn (ji3) 131072) (!t137))) else (none))) = some (r1, r2, r3, r4, r5) := by first | (rw [hji3] at H; exact H) | (simp only [hji3] at H ⊢; exact H)
  (try (have hji3l : 4096 ≤ ji3 := by (rw [← hji3]; unfold mx; (repeat' split) <;> omega)))
  (try (have hji3m : 0 ≤ ji3 := by omega))
  have hji3_ : (if a1 < 4096 then 4096 else a1) = ji3 := hji3
  obtain ⟨ji4, hji4⟩ : ∃ j_ : Int, (mn (ji3) 131072) = j_ := ⟨_, rfl⟩
  replace H : (if a0.toList = ([] : List UInt8) then (frame_Take.j0 k a0 ji4 false) else (if 0 < (a0.size : Int) then ((frame_kind.f (wrap64 (bt a0 0))).bind fun t137 => (frame_Take.j0 k a0 ji4 (!t137))) else (none))) = some (r1, r2, r3, r4, r5) := by first | (rw [hji4] at H; exact H) | (simp only [hji4] at H ⊢; exact H)
  have hji4_ : (if 131072 < (ji3) then 131072 else (ji3)) = ji4 := hji4
  have HC5 := Aside0.mk H
  clear H
  go_enter Tryd.func14, Tryd.ntmps14
  go_upto_region 2 with (first | ((with_reducible refine gate_dst (N := 4) rfl ?_); refine box_event ?hg (N := 4) ?hd (cs := #[.int .i64 0, .int .i64 0, .string (⟨#[]⟩ : ByteArray)]) (t := 29) ?hr ?_; (case hd => rfl); (case hg => rfl); (case hr => first | (go_simp; done) | (go_simp; rfl)); intro gb136 hg w6 hbox hb; have n0_ := Aside0.mk (below_step (by repeat (first | (with_reducible first | exact HB.out | apply below_alloc | apply pw_below_drewN | apply below_drew1) | exact HB.out)) hb); have n1_ := Aside0.mk (hbox); have n2_ := Aside0.mk ((by rw [hg]; exact (below_size (by repeat (first | (with_reducible first | exact HB.out | apply below_alloc | apply pw_below_drewN | apply below_drew1) | exact HB.out))) : w.heap.size ≤ gb136)); have n3_ := Aside0.mk ((by rw [hg]; exact (below_size (by repeat (first | (with_reducible first | exact HB.out | apply below_alloc | apply pw_below_drewN | apply below_drew1) | exact HB.out))) : w.heap.size ≤ gb136)); clear HB; have HB := n0_; have BK136 := n1_; have GW136 := n2_; have GE136 := n3_; clear n0_ n1_ n2_ n3_; clear hb hbox hg))
  (try simp only [Act.put, List.setIfInBounds_toArray, List.set_cons_zero, List.set_cons_succ])
  go_cut [16] (fun v16 wc => ∃ (kq : Nat) (x16_4 : Bool), v16 = .bool x16_4 ∧ Aside0 (frame_Take.j0 kq a0 ji4 x16_4 = some (r1, r2, r3, r4, r5)) ∧ Aside0 (kq ≤ k) ∧ Aside0 (wc.heap[gb136]? = some (.cells #[.int .i64 0, .int .i64 0, .string (⟨#[]⟩ : ByteArray)] 29 (0, 0))) ∧ Aside0 (Below w.heap.size w wc))
  case first =>
    have H := HC5.out
    clear HC5
    by_cases c7 : a0.toList = ([] : List UInt8)
    · rw [if_pos c7] at H
      have c7b0 : (a0.toList == ([] : List UInt8)) = true := beq_iff_eq.mpr c7
      have c7b1 : (a0.toList != ([] : List UInt8)) = false := bne_eq_false_iff_eq.mpr c7
      clear c7
      (first | rw [c7b0] | (simp only [i64_w, i32_w]; rw [c7b0]) | skip)
      have H' := Aside0.mk H
      clear H
      go_wp2
      go_meet
      case rel => exact ⟨_, (false), (by first | rfl | (simp; done) | (simp [*]; done)), H', ⟨by first | omega | exact Nat.le_refl _⟩, ⟨by (with_reducible repeat (first | refine blk_drewN ?_ _ | refine blk_drew ?_ | refine blk_alloc ?_ _)); exact BK136.out⟩, ⟨by repeat (first | (with_reducible first | exact HB.out | apply below_alloc | apply pw_below_drewN | apply below_drew1 | refine below_set ?_ GE136.out) | exact HB.out)⟩⟩
    · rw [if_neg c7] at H
      have c7b0 : (a0.toList == ([] : List UInt8)) = false := beq_eq_false_iff_ne.mpr c7
      have c7b1 : (a0.toList != ([] : List UInt8)) = true := bne_iff_ne.mpr c7
      (first | rw [c7b0] | (simp only [i64_w, i32_w]; rw [c7b0]) | skip)
      by_cases c8 : 0 < (a0.size : Int)
      · rw [if_pos c8] at H
        have c8b0 : decide (0 < (a0.size : Int)) = true := decide_eq_true c8
        have c8b1 : decide (0 < a0.size) = true := decide_eq_true (by omega)
        clear c8
        replace H := Option.bind_eq_some_iff.mp H
        obtain ⟨t137, A100, H⟩ := H
        replace H : (frame_Take.j0 k a0 ji4 (!t137)) = some (r1, r2, r3, r4, r5) := H
        have A10 := Aside0.mk A100
        clear A100
        have H' := Aside0.mk H
        clear H
        have p9 : 0 ≤ (0 : Int) := (by omega)
        have q9 : 0 < a0.size := (by have : (0 : Int) < (a0.size : Int) := of_decide_eq_true (by first | (with_reducible assumption) | assumption); omega)
        have hx9 : ∀ h : 0 < a0.size, ((a0[0]'h).toNat : Int) = bt a0 0 := bt_at a0 0
        clear p9
        have qi9 : (0 < (a0.size : Int)) = True := eq_true (of_decide_eq_true (by first | (with_reducible assumption) | assumption))
        replace q9 := eq_true q9
        go_wp2_with (first | (go_at_call 26; (with_reducible refine (frame_kind.calls (wrap64 (bt a0 0)) t137 _ ?lg A10.out).mono ?_); (case lg => exact (HG.out.below (by repeat (first | (with_reducible first | exact HB.out | apply below_alloc | apply pw_below_drewN | apply below_drew1) | exact HB.out)))); rintro e w' ⟨rfl, ⟨nd, rfl⟩⟩))
        go_meet
        case rel => exact ⟨_, (!t137), (by first | rfl | (simp; done) | (simp [*]; done)), H', ⟨by first | omega | exact Nat.le_refl _⟩, ⟨by (with_reducible repeat (first | refine blk_drewN ?_ _ | refine blk_drew ?_ | refine blk_alloc ?_ _)); exact BK136.out⟩, ⟨by repeat (first | (with_reducible first | exact HB.out | apply below_alloc | apply pw_below_drewN | apply below_drew1 | refine below_set ?_ GE136.out) | exact HB.out)⟩⟩
      · rw [if_neg c8] at H
        exact absurd H (by simp)
  case rest =>
    clear HC5
    try clear c1
    try clear p2
    try clear p6
    try clear c7
    try clear c7b0
    try clear c7b1
    try clear c8
    try clear c8b0
    try clear c8b1
    try clear p9
    try clear q9
    try clear hx9
    try clear qi9
    try clear p9
    try clear q9
    obtain ⟨kq, x16_4, rfl, HA, HJ4, BK136, HB⟩ := hcut
    cases kq with
    | zero => exact absurd HA.out (by simp [frame_Take.j0])
    | succ kj4 =>
      have H := HA.out
      clear HA
      simp only [frame_Take.j0] at H
      by_cases c11 : x16_4 = true
      · subst c11
        have H1 : (some (0, 0, (⟨#[]⟩ : ByteArray), (⟨#[]⟩ : ByteArray), 6)) = some (r1, r2, r3, r4, r5) := by rw [if_pos rfl] at H; exact H
        clear H
        have H := H1
        clear H1
        simp only [Option.some.injEq, Prod.mk.injEq] at H
        obtain ⟨rfl, rfl, rfl, rfl, rfl⟩ := H
        have hcz12_0 : wc.cell? ⟨gb136, 0, none⟩ = some (.int .i64 0) := (blk_cell BK136.out 0).trans rfl
        have hcz12_1 : wc.cell? ⟨gb136, 1, none⟩ = some (.int .i64 0) := (blk_cell BK136.out 1).trans rfl
        have hcz12_2 : wc.cell? ⟨gb136, 2, none⟩ = some (.string (⟨#[]⟩ : ByteArray)) := (blk_cell BK136.out 2).trans rfl
        have hfz12_0 := blk_frozen BK136.out 0
        have hfz12_1 := blk_frozen BK136.out 1
        have hfz12_2 := blk_frozen BK136.out 2
        go_wp2
        refine bodyPost_ret (results_ctt rfl _ _ gb136 29 #[.int .i64 0, .int .i64 0, .string (⟨#[]⟩ : ByteArray)] (0, 0) _ rfl (by (with_reducible repeat (first | refine blk_drewN ?_ _ | refine blk_drew ?_ | refine blk_alloc ?_ _)); refine blk_put (cs := #[.int .i64 0, .int .i64 0, .string (⟨#[]⟩ : ByteArray)]) ?_ 2 _ rfl; (with_reducible repeat (first | refine blk_drewN ?_ _ | refine blk_drew ?_ | refine blk_alloc ?_ _)); refine blk_put (cs := #[.int .i64 0, .int .i64 0, .string (⟨#[]⟩ : ByteArray)]) ?_ 1 _ rfl; (with_reducible repeat (first | refine blk_drewN ?_ _ | refine blk_drew ?_ | refine blk_alloc ?_ _)); refine blk_put (cs := #[.int .i64 0, .int .i64 0, .string (⟨#[]⟩ : ByteArray)]) ?_ 0 _ rfl; (with_reducible repeat (first | refine blk_drewN ?_ _ | refine blk_drew ?_ | refine blk_alloc ?_ _)); exact BK136.out) Tryd.underlying29 rfl (by kernel_rfl)) rfl ?_
        exact ⟨by first | rfl | (simp [errW_none, errW_some] <;> rfl) | (simp only [← hji3, ← hji4]; first | rfl | (simp [errW_none, errW_some] <;> rfl)) | (simp [*, errW_none, errW_some] <;> rfl), by repeat (first | (with_reducible first | exact HB.out | apply below_alloc | apply pw_below_drewN | apply below_drew1 | refine below_set ?_ GE136.out) | exact HB.out)⟩
      · replace c11 := Bool.eq_false_iff.mpr c11
        subst c11
        have H1 : (if (a0.size : Int) < 7 then (some (0, 0, (⟨#[]⟩ : ByteArray), (⟨#[]⟩ : ByteArray), 2)) else (if 1 ≤ (a0.size : Int) then ((num_Take.f kj4 (a0.extract 1 a0.size) 2).bind fun bt138 => ((num_Take.f kj4 bt138.2.1 4).bind fun bt141 => (if bt141.1 > (IntKind.u64.wrap (wrap64 (ji4 - 8))) then (some (0, 0, (⟨#[]⟩ : ByteArray), (⟨#[]⟩ : ByteArray), 6)) else (if (IntKind.u64.wrap ((bt141.2.1.size : Int))) ≤ bt141.1 then (some (0, 0, (⟨#[]⟩ : ByteArray), (⟨#[]⟩ : ByteArray), 2)) else (if 0 < (a0.size : Int) then (if 0 ≤ bt141.1 then (if bt141.1 ≤ (bt141.2.1.size : Int) then (if bt141.1 < (bt141.2.1.size : Int) then (if (bt bt141.2.1 bt141.1) = 206 then ((frame_Right.f kj4 (wrap64 (bt a0 0)) (wrap64 (bt138.1)) (bt141.2.1.extract 0 (bt141.1 : Int).toNat)).bind fun t145 => (if t145 = true then (if 0 ≤ (IntKind.u64.wrap (bt141.1 + 1)) then (if (IntKind.u64.wrap (bt141.1 + 1)) ≤ (bt141.2.1.size : Int) then (some (wrap64 (bt a0 0), wrap64 (bt138.1), bt141.2.1.extract 0 (bt141.1 : Int).toNat, bt141.2.1.extract ((IntKind.u64.wrap (bt141.1 + 1)) : Int).toNat bt141.2.1.size, 0)) else (none)) else (none)) else (some (0, 0, (⟨#[]⟩ : ByteArray), (⟨#[]⟩ : ByteArray), 6)))) else (some (0, 0, (⟨#[]⟩ : ByteArray), (⟨#[]⟩ : ByteArray), 6))) else (none)) else (none)) else (none)) else (none)))))) else (none))) = some (r1, r2, r3, r4, r5) := by rw [if_neg (show ¬ (false = true) by decide)] at H; exact H
        clear H
        have H := H1
        clear H1
        by_cases c13 : (a0.size : Int) < 7
        · rw [if_pos c13] at H
          have c13b0 : decide ((a0.size : Int) < 7) = true := decide_eq_true c13
          have c13b1 : decide (a0.size < 7) = true := decide_eq_true (by omega)
          clear c13
          simp only [Option.some.injEq, Prod.mk.injEq] at H
          obtain ⟨rfl, rfl, rfl, rfl, rfl⟩ := H
          have hcz14_0 : wc.cell? ⟨gb136, 0, none⟩ = some (.int .i64 0) := (blk_cell BK136.out 0).trans rfl
          have hcz14_1 : wc.cell? ⟨gb136, 1, none⟩ = some (.int .i64 0) := (blk_cell BK136.out 1).trans rfl
          have hcz14_2 : wc.cell? ⟨gb136, 2, none⟩ = some (.string (⟨#[]⟩ : ByteArray)) := (blk_cell BK136.out 2).trans rfl
          have hfz14_0 := blk_frozen BK136.out 0
          have hfz14_1 := blk_frozen BK136.out 1
          have hfz14_2 := blk_frozen BK136.out 2
          go_wp2
          refine bodyPost_ret (results_ctt rfl _ _ gb136 29 #[.int .i64 0, .int .i64 0, .string (⟨#[]⟩ : ByteArray)] (0, 0) _ rfl (by (with_reducible repeat (first | refine blk_drewN ?_ _ | refine blk_drew ?_ | refine blk_alloc ?_ _)); refine blk_put (cs := #[.int .i64 0, .int .i64 0, .string (⟨#[]⟩ : ByteArray)]) ?_ 2 _ rfl; (with_reducible repeat (first | refine blk_drewN ?_ _ | refine blk_drew ?_ | refine blk_alloc ?_ _)); refine blk_put (cs := #[.int .i64 0, .int .i64 0, .string (⟨#[]⟩ : ByteArray)]) ?_ 1 _ rfl; (with_reducible repeat (first | refine blk_drewN ?_ _ | refine blk_drew ?_ | refine blk_alloc ?_ _)); refine blk_put (cs := #[.int .i64 0, .int .i64 0, .string (⟨#[]⟩ : ByteArray)]) ?_ 0 _ rfl; (with_reducible repeat (first | refine blk_drewN ?_ _ | refine blk_drew ?_ | refine blk_alloc ?_ _)); exact BK136.out) Tryd.underlying29 rfl (by kernel_rfl)) rfl ?_
          exact ⟨by first | rfl | (simp [errW_none, errW_some] <;> rfl) | (simp only [← hji3, ← hji4]; first | rfl | (simp [errW_none, errW_some] <;> rfl)) | (simp [*, errW_none, errW_some] <;> rfl), by repeat (first | (with_reducible first | exact HB.out | apply below_alloc | apply pw_below_drewN | apply below_drew1 | refine below_set ?_ GE136.out) | exact HB.out)⟩
        · rw [if_neg c13] at H
          have c13b0 : decide ((a0.size : Int) < 7) = false := decide_eq_false c13
          have c13b1 : decide (a0.size < 7) = false := decide_eq_false (by omega)
          clear c13
          by_cases c15 : 1 ≤ (a0.size : Int)
          · rw [if_pos c15] at H
            have c15b0 := eq_true c15
            have c15b1 : decide (1 ≤ (a0.size : Int)) = true := decide_eq_true c15
            clear c15
            replace H := Option.bind_eq_some_iff.mp H
            obtain ⟨⟨t138, t139, t140⟩, A160, H⟩ := H
            replace H : ((num_Take.f kj4 t139 4).bind fun bt141 => (if bt141.1 > (IntKind.u64.wrap (wrap64 (ji4 - 8))) then (some (0, 0, (⟨#[]⟩ : ByteArray), (⟨#[]⟩ : ByteArray), 6)) else (if (IntKind.u64.wrap ((bt141.2.1.size : Int))) ≤ bt141.1 then (some (0, 0, (⟨#[]⟩ : ByteArray), (⟨#[]⟩ : ByteArray), 2)) else (if 0 < (a0.size : Int) then (if 0 ≤ bt141.1 then (if bt141.1 ≤ (bt141.2.1.size : Int) then (if bt141.1 < (bt141.2.1.size : Int) then (if (bt bt141.2.1 bt141.1) = 206 then ((frame_Right.f kj4 (wrap64 (bt a0 0)) (wrap64 (t138)) (bt141.2.1.extract 0 (bt141.1 : Int).toNat)).bind fun t145 => (if t145 = true then (if 0 ≤ (IntKind.u64.wrap (bt141.1 + 1)) then (if (IntKind.u64.wrap (bt141.1 + 1)) ≤ (bt141.2.1.size : Int) then (some (wrap64 (bt a0 0), wrap64 (t138), bt141.2.1.extract 0 (bt141.1 : Int).toNat, bt141.2.1.extract ((IntKind.u64.wrap (bt141.1 + 1)) : Int).toNat bt141.2.1.size, 0)) else (none)) else (none)) else (some (0, 0, (⟨#[]⟩ : ByteArray), (⟨#[]⟩ : ByteArray), 6)))) else (some (0, 0, (⟨#[]⟩ : ByteArray), (⟨#[]⟩ : ByteArray), 6))) else (none)) else (none)) else (none)) else (none))))) = some (r1, r2, r3, r4, r5) := H
            have A16 := Aside0.mk A160
            clear A160
            replace H := Option.bind_eq_some_iff.mp H
            obtain ⟨⟨t141, t142, t143⟩, A170, H⟩ := H
            replace H : (if t141 > (IntKind.u64.wrap (wrap64 (ji4 - 8))) then (some (0, 0, (⟨#[]⟩ : ByteArray), (⟨#[]⟩ : ByteArray), 6)) else (if (IntKind.u64.wrap ((t142.size : Int))) ≤ t141 then (some (0, 0, (⟨#[]⟩ : ByteArray), (⟨#[]⟩ : ByteArray), 2)) else (if 0 < (a0.size : Int) then (if 0 ≤ t141 then (if t141 ≤ (t142.size : Int) then (if t141 < (t142.size : Int) then (if (bt t142 t141) = 206 then ((frame_Right.f kj4 (wrap64 (bt a0 0)) (wrap64 (t138)) (t142.extract 0 (t141 : Int).toNat)).bind fun t145 => (if t145 = true then (if 0 ≤ (IntKind.u64.wrap (t141 + 1)) then (if (IntKind.u64.wrap (t141 + 1)) ≤ (t142.size : Int) then (some (wrap64 (bt a0 0), wrap64 (t138), t142.extract 0 (t141 : Int).toNat, t142.extract ((IntKind.u64.wrap (t141 + 1)) : Int).toNat t142.size, 0)) else (none)) else (none)) else (some (0, 0, (⟨#[]⟩ : ByteArray), (⟨#[]⟩ : ByteArray), 6)))) else (some (0, 0, (⟨#[]⟩ : ByteArray), (⟨#[]⟩ : ByteArray), 6))) else (none)) else (none)) else (none)) else (none)))) = some (r1, r2, r3, r4, r5) := H
            have A17 := Aside0.mk A170
            clear A170
            by_cases c18 : t141 > (IntKind.u64.wrap (wrap64 (ji4 - 8)))
            · rw [if_pos c18] at H
              have hw_ : IntKind.u64.wrap (wrap64 (ji4 - 8)) = ji4 - 8 := by
                have hb_ : 4096 ≤ ji4 ∧ ji4 ≤ 131072 := by rw [← hji4_]; split <;> omega
                rw [IntWalk.wrap64_in _ (by omega), IntWalk.u64_in _ (by omega)]
              have c18b3 : decide (ji4 - 8 < t141) = true := by rw [hw_] at c18; exact decide_eq_true c18
              clear hw_
              have c18b0 : decide ((IntKind.u64.wrap (wrap64 (ji4 - 8))) < t141) = true := decide_eq_true c18
              clear c18
              simp only [Option.some.injEq, Prod.mk.injEq] at H
              obtain ⟨rfl, rfl, rfl, rfl, rfl⟩ := H
              go_wp2_with (first | ((with_reducible refine gate_callee (f := 27) rfl ?_); refine goesL_ (some 35) rfl rfl Tryd.func27 (by kernel_rfl) rfl #[.string (a0.extract 1 a0.size), .int .i64 2] rfl (by (try simp only [List.map_toArray, List.map_cons, List.map_nil]); first | done | rfl | (simp only [List.length_drop, List.length_take]; rfl)) ?_; (with_reducible refine (num_Take.calls kj4 (a0.extract 1 a0.size) 2 t138 t139 t140 _ ?lg A16.out).mono ?_); (case lg => exact (HG.out.below (by repeat (first | (with_reducible first | exact HB.out | apply below_alloc | apply pw_below_drewN | apply below_drew1 | refine below_set ?_ GE136.out) | exact HB.out)))); rintro e w' ⟨rfl, ⟨nd, rfl⟩⟩; refine ⟨_, rfl, ?_⟩; (try (rw [drewN_self wc]; generalize hq_ : World.drewN wc _ = wc; have n0_ : Aside0 (wc.heap[gb136]? = some (.cells #[.int .i64 0, .int .i64 0, .string (⟨#[]⟩ : ByteArray)] 29 (0, 0))) := ⟨by rw [← hq_]; exact (by (with_reducible repeat (first | refine blk_drewN ?_ _ | refine blk_drew ?_ | refine blk_alloc ?_ _)); exact BK136.out)⟩; have n1_ : Aside0 (Below w.heap.size w wc) := ⟨by rw [← hq_]; exact (by repeat (first | (with_reducible first | exact HB.out | apply below_alloc | apply pw_below_drewN | apply below_drew1 | refine below_set ?_ GE136.out) | exact HB.out))⟩; clear BK136 HB hq_; have BK136 := n0_; have HB := n1_; clear n0_ n1_))) | ((with_reducible refine gate_callee (f := 27) rfl ?_); refine goesL_ (some 41) rfl rfl Tryd.func27 (by kernel_rfl) rfl #[.string t139, .int .i64 4] rfl (by (try simp only [List.map_toArray, List.map_cons, List.map_nil]); first | done | rfl | (simp only [List.length_drop, List.length_take]; rfl)) ?_; (with_reducible refine (num_Take.calls kj4 t139 4 t141 t142 t143 _ ?lg A17.out).mono ?_); (case lg => exact (HG.out.below (by repeat (first | (with_reducible first | exact HB.out | apply below_alloc | apply pw_below_drewN | apply below_drew1 | refine below_set ?_ GE136.out) | exact HB.out)))); rintro e w' ⟨rfl, ⟨nd, rfl⟩⟩; refine ⟨_, rfl, ?_⟩; (try (rw [drewN_self wc]; generalize hq_ : World.drewN wc _ = wc; have n0_ : Aside0 (wc.heap[gb136]? = some (.cells #[.int .i64 0, .int .i64 0, .string (⟨#[]⟩ : ByteArray)] 29 (0, 0))) := ⟨by rw [← hq_]; exact (by (with_reducible repeat (first | refine blk_drewN ?_ _ | refine blk_drew ?_ | refine blk_alloc ?_ _)); exact BK136.out)⟩; have n1_ : Aside0 (Below w.heap.size w wc) := ⟨by rw [← hq_]; exact (by repeat (first | (with_reducible first | exact HB.out | apply below_alloc | apply pw_below_drewN | apply below_drew1 | refine below_set ?_ GE136.out) | exact HB.out))⟩; clear BK136 HB hq_; have BK136 := n0_; have HB := n1_; clear n0_ n1_)); have hcz19_0 : wc.cell? ⟨gb136, 0, none⟩ = some (.int .i64 0) := (blk_cell BK136.out 0).trans rfl; have hcz19_1 : wc.cell? ⟨gb136, 1, none⟩ = some (.int .i64 0) := (blk_cell BK136.out 1).trans rfl; have hcz19_2 : wc.cell? ⟨gb136, 2, none⟩ = some (.string (⟨#[]⟩ : ByteArray)) := (blk_cell BK136.out 2).trans rfl; have hfz19_0 := blk_frozen BK136.out 0; have hfz19_1 := blk_frozen BK136.out 1; have hfz19_2 := blk_frozen BK136.out 2))
              refine bodyPost_ret (results_ctt rfl _ _ gb136 29 #[.int .i64 0, .int .i64 0, .string (⟨#[]⟩ : ByteArray)] (0, 0) _ rfl (by (with_reducible repeat (first | refine blk_drewN ?_ _ | refine blk_drew ?_ | refine blk_alloc ?_ _)); refine blk_put (cs := #[.int .i64 0, .int .i64 0, .string (⟨#[]⟩ : ByteArray)]) ?_ 2 _ rfl; (with_reducible repeat (first | refine blk_drewN ?_ _ | refine blk_drew ?_ | refine blk_alloc ?_ _)); refine blk_put (cs := #[.int .i64 0, .int .i64 0, .string (⟨#[]⟩ : ByteArray)]) ?_ 1 _ rfl; (with_reducible repeat (first | refine blk_drewN ?_ _ | refine blk_drew ?_ | refine blk_alloc ?_ _)); refine blk_put (cs := #[.int .i64 0, .int .i64 0, .string (⟨#[]⟩ : ByteArray)]) ?_ 0 _ rfl; (with_reducible repeat (first | refine blk_drewN ?_ _ | refine blk_drew ?_ | refine blk_alloc ?_ _)); exact BK136.out) Tryd.underlying29 rfl (by kernel_rfl)) rfl ?_
              exact ⟨by first | rfl | (simp [errW_none, errW_some] <;> rfl) | (simp only [← hji3, ← hji4]; first | rfl | (simp [errW_none, errW_some] <;> rfl)) | (simp [*, errW_none, errW_some] <;> rfl), by repeat (first | (with_reducible first | exact HB.out | apply below_alloc | apply pw_below_drewN | apply below_drew1 | refine below_set ?_ GE136.out) | exact HB.out)⟩
            · rw [if_neg c18] at H
              have hw_ : IntKind.u64.wrap (wrap64 (ji4 - 8)) = ji4 - 8 := by
                have hb_ : 4096 ≤ ji4 ∧ ji4 ≤ 131072 := by rw [← hji4_]; split <;> omega
                rw [IntWalk.wrap64_in _ (by omega), IntWalk.u64_in _ (by omega)]
              have c18b3 : decide (ji4 - 8 < t141) = false := by rw [hw_] at c18; exact decide_eq_false c18
              clear hw_
              have c18b0 : decide ((IntKind.u64.wrap (wrap64 (ji4 - 8))) < t141) = false := decide_eq_false c18
              clear c18
              by_cases c20 : (IntKind.u64.wrap ((t142.size : Int))) ≤ t141
              · rw [if_pos c20] at H
                have c20b0 : decide ((IntKind.u64.wrap ((t142.size : Int))) ≤ t141) = true := decide_eq_true c20
                clear c20
                simp only [Option.some.injEq, Prod.mk.injEq] at H
                obtain ⟨rfl, rfl, rfl, rfl, rfl⟩ := H
                go_wp2_with (first | ((with_reducible refine gate_callee (f := 27) rfl ?_); refine goesL_ (some 35) rfl rfl Tryd.func27 (by kernel_rfl) rfl #[.string (a0.extract 1 a0.size), .int .i64 2] rfl (by (try simp only [List.map_toArray, List.map_cons, List.map_nil]); first | done | rfl | (simp only [List.length_drop, List.length_take]; rfl)) ?_; (with_reducible refine (num_Take.calls kj4 (a0.extract 1 a0.size) 2 t138 t139 t140 _ ?lg A16.out).mono ?_); (case lg => exact (HG.out.below (by repeat (first | (with_reducible first | exact HB.out | apply below_alloc | apply pw_below_drewN | apply below_drew1 | refine below_set ?_ GE136.out) | exact HB.out)))); rintro e w' ⟨rfl, ⟨nd, rfl⟩⟩; refine ⟨_, rfl, ?_⟩; (try (rw [drewN_self wc]; generalize hq_ : World.drewN wc _ = wc; have n0_ : Aside0 (wc.heap[gb136]? = some (.cells #[.int .i64 0, .int .i64 0, .string (⟨#[]⟩ : ByteArray)] 29 (0, 0))) := ⟨by rw [← hq_]; exact (by (with_reducible repeat (first | refine blk_drewN ?_ _ | refine blk_drew ?_ | refine blk_alloc ?_ _)); exact BK136.out)⟩; have n1_ : Aside0 (Below w.heap.size w wc) := ⟨by rw [← hq_]; exact (by repeat (first | (with_reducible first | exact HB.out | apply below_alloc | apply pw_below_drewN | apply below_drew1 | refine below_set ?_ GE136.out) | exact HB.out))⟩; clear BK136 HB hq_; have BK136 := n0_; have HB := n1_; clear n0_ n1_))) | ((with_reducible refine gate_callee (f := 27) rfl ?_); refine goesL_ (some 41) rfl rfl Tryd.func27 (by kernel_rfl) rfl #[.string t139, .int .i64 4] rfl (by (try simp only [List.map_toArray, List.map_cons, List.map_nil]); first | done | rfl | (simp only [List.length_drop, List.length_take]; rfl)) ?_; (with_reducible refine (num_Take.calls kj4 t139 4 t141 t142 t143 _ ?lg A17.out).mono ?_); (case lg => exact (HG.out.below (by repeat (first | (with_reducible first | exact HB.out | apply below_alloc | apply pw_below_drewN | apply below_drew1 | refine below_set ?_ GE136.out) | exact HB.out)))); rintro e w' ⟨rfl, ⟨nd, rfl⟩⟩; refine ⟨_, rfl, ?_⟩; (try (rw [drewN_self wc]; generalize hq_ : World.drewN wc _ = wc; have n0_ : Aside0 (wc.heap[gb136]? = some (.cells #[.int .i64 0, .int .i64 0, .string (⟨#[]⟩ : ByteArray)] 29 (0, 0))) := ⟨by rw [← hq_]; exact (by (with_reducible repeat (first | refine blk_drewN ?_ _ | refine blk_drew ?_ | refine blk_alloc ?_ _)); exact BK136.out)⟩; have n1_ : Aside0 (Below w.heap.size w wc) := ⟨by rw [← hq_]; exact (by repeat (first | (with_reducible first | exact HB.out | apply below_alloc | apply pw_below_drewN | apply below_drew1 | refine below_set ?_ GE136.out) | exact HB.out))⟩; clear BK136 HB hq_; have BK136 := n0_; have HB := n1_; clear n0_ n1_)); have hcz21_0 : wc.cell? ⟨gb136, 0, none⟩ = some (.int .i64 0) := (blk_cell BK136.out 0).trans rfl; have hcz21_1 : wc.cell? ⟨gb136, 1, none⟩ = some (.int .i64 0) := (blk_cell BK136.out 1).trans rfl; have hcz21_2 : wc.cell? ⟨gb136, 2, none⟩ = some (.string (⟨#[]⟩ : ByteArray)) := (blk_cell BK136.out 2).trans rfl; have hfz21_0 := blk_frozen BK136.out 0; have hfz21_1 := blk_frozen BK136.out 1; have hfz21_2 := blk_frozen BK136.out 2))
                refine bodyPost_ret (results_ctt rfl _ _ gb136 29 #[.int .i64 0, .int .i64 0, .string (⟨#[]⟩ : ByteArray)] (0, 0) _ rfl (by (with_reducible repeat (first | refine blk_drewN ?_ _ | refine blk_drew ?_ | refine blk_alloc ?_ _)); refine blk_put (cs := #[.int .i64 0, .int .i64 0, .string (⟨#[]⟩ : ByteArray)]) ?_ 2 _ rfl; (with_reducible repeat (first | refine blk_drewN ?_ _ | refine blk_drew ?_ | refine blk_alloc ?_ _)); refine blk_put (cs := #[.int .i64 0, .int .i64 0, .string (⟨#[]⟩ : ByteArray)]) ?_ 1 _ rfl; (with_reducible repeat (first | refine blk_drewN ?_ _ | refine blk_drew ?_ | refine blk_alloc ?_ _)); refine blk_put (cs := #[.int .i64 0, .int .i64 0, .string (⟨#[]⟩ : ByteArray)]) ?_ 0 _ rfl; (with_reducible repeat (first | refine blk_drewN ?_ _ | refine blk_drew ?_ | refine blk_alloc ?_ _)); exact BK136.out) Tryd.underlying29 rfl (by kernel_rfl)) rfl ?_
                exact ⟨by first | rfl | (simp [errW_none, errW_some] <;> rfl) | (simp only [← hji3, ← hji4]; first | rfl | (simp [errW_none, errW_some] <;> rfl)) | (simp [*, errW_none, errW_some] <;> rfl), by repeat (first | (with_reducible first | exact HB.out | apply below_alloc | apply pw_below_drewN | apply below_drew1 | refine below_set ?_ GE136.out) | exact HB.out)⟩
              · rw [if_neg c20] at H
                have c20b0 : decide ((IntKind.u64.wrap ((t142.size : Int))) ≤ t141) = false := decide_eq_false c20
                clear c20
                by_cases c22 : 0 < (a0.size : Int)
                · rw [if_pos c22] at H
                  have c22b0 : decide (0 < (a0.size : Int)) = true := decide_eq_true c22
                  have c22b1 : decide (0 < a0.size) = true := decide_eq_true (by omega)
                  clear c22
                  by_cases c24 : 0 ≤ t141
                  · rw [if_pos c24] at H
                    have c24b0 := eq_true c24
                    have c24b1 : decide (0 ≤ t141) = true := decide_eq_true c24
                    clear c24
                    by_cases c25 : t141 ≤ (t142.size : Int)
                    · rw [if_pos c25] at H
                      have c25b0 := eq_true c25
                      have c25b1 : decide (t141 ≤ (t142.size : Int)) = true := decide_eq_true c25
                      clear c25
                      by_cases c26 : t141 < (t142.size : Int)
                      · rw [if_pos c26] at H
                        have c26b0 : decide (t141 < (t142.size : Int)) = true := decide_eq_true c26
                        clear c26
                        by_cases c28 : (bt t142 t141) = 206
                        · rw [if_pos c28] at H
                          have c28b0 : ((bt t142 t141) == 206) = true := beq_iff_eq.mpr c28
                          have c28b1 : ((bt t142 t141) != 206) = false := bne_eq_false_iff_eq.mpr c28
                          clear c28
                          replace H := Option.bind_eq_some_iff.mp H
                          obtain ⟨t145, A290, H⟩ := H
                          replace H : (if t145 = true then (if 0 ≤ (IntKind.u64.wrap (t141 + 1)) then (if (IntKind.u64.wrap (t141 + 1)) ≤ (t142.size : Int) then (some (wrap64 (bt a0 0), wrap64 (t138), t142.extract 0 (t141 : Int).toNat, t142.extract ((IntKind.u64.wrap (t141 + 1)) : Int).toNat t142.size, 0)) else (none)) else (none)) else (some (0, 0, (⟨#[]⟩ : ByteArray), (⟨#[]⟩ : ByteArray), 6))) = some (r1, r2, r3, r4, r5) := H
                          have A29 := Aside0.mk A290
                          clear A290
                          by_cases c30 : t145 = true
                          · subst c30
                            have H1 : (if 0 ≤ (IntKind.u64.wrap (t141 + 1)) then (if (IntKind.u64.wrap (t141 + 1)) ≤ (t142.size : Int) then (some (wrap64 (bt a0 0), wrap64 (t138), t142.extract 0 (t141 : Int).toNat, t142.extract ((IntKind.u64.wrap (t141 + 1)) : Int).toNat t142.size, 0)) else (none)) else (none)) = some (r1, r2, r3, r4, r5) := by rw [if_pos rfl] at H; exact H
                            clear H
                            have H := H1
                            clear H1
                            obtain ⟨ji31, hji31⟩ : ∃ j_ : Int, (IntKind.u64.wrap (t141 + 1)) = j_ := ⟨_, rfl⟩
                            replace H : (if 0 ≤ (ji31) then (if (ji31) ≤ (t142.size : Int) then (some (wrap64 (bt a0 0), wrap64 (t138), t142.extract 0 (t141 : Int).toNat, t142.extract ((ji31) : Int).toNat t142.size, 0)) else (none)) else (none)) = some (r1, r2, r3, r4, r5) := by first | (rw [hji31] at H; exact H) | (simp only [hji31] at H ⊢; exact H)
                            (try rw [hji31] at A16)
                            (try rw [hji31] at A17)
                            (try rw [hji31] at A29)
                            by_cases c32 : 0 ≤ (ji31)
                            · rw [if_pos c32] at H
                              have c32b0 := eq_true c32
                              have c32b1 : decide (0 ≤ (ji31)) = true := decide_eq_true c32
                              clear c32
                              by_cases c33 : (ji31) ≤ (t142.size : Int)
                              · rw [if_pos c33] at H
                                have c33b0 := eq_true c33
                                have c33b1 : decide ((ji31) ≤ (t142.size : Int)) = true := decide_eq_true c33
                                clear c33
                                simp only [Option.some.injEq, Prod.mk.injEq] at H
                                obtain ⟨rfl, rfl, rfl, rfl, rfl⟩ := H
                                try go_wp2_with (first | ((with_reducible refine gate_callee (f := 27) rfl ?_); refine goesL_ (some 35) rfl rfl Tryd.func27 (by kernel_rfl) rfl #[.string (a0.extract 1 a0.size), .int .i64 2] rfl (by (try simp only [List.map_toArray, List.map_cons, List.map_nil]); first | done | rfl | (simp only [List.length_drop, List.length_take]; rfl)) ?_; (with_reducible refine (num_Take.calls kj4 (a0.extract 1 a0.size) 2 t138 t139 t140 _ ?lg A16.out).mono ?_); (case lg => exact (HG.out.below (by repeat (first | (with_reducible first | exact HB.out | apply below_alloc | apply pw_below_drewN | apply below_drew1 | refine below_set ?_ GE136.out) | exact HB.out)))); rintro e w' ⟨rfl, ⟨nd, rfl⟩⟩; refine ⟨_, rfl, ?_⟩; (try (rw [drewN_self wc]; generalize hq_ : World.drewN wc _ = wc; have n0_ : Aside0 (wc.heap[gb136]? = some (.cells #[.int .i64 0, .int .i64 0, .string (⟨#[]⟩ : ByteArray)] 29 (0, 0))) := ⟨by rw [← hq_]; exact (by (with_reducible repeat (first | refine blk_drewN ?_ _ | refine blk_drew ?_ | refine blk_alloc ?_ _)); exact BK136.out)⟩; have n1_ : Aside0 (Below w.heap.size w wc) := ⟨by rw [← hq_]; exact (by repeat (first | (with_reducible first | exact HB.out | apply below_alloc | apply pw_below_drewN | apply below_drew1 | refine below_set ?_ GE136.out) | exact HB.out))⟩; clear BK136 HB hq_; have BK136 := n0_; have HB := n1_; clear n0_ n1_))) | ((with_reducible refine gate_callee (f := 27) rfl ?_); refine goesL_ (some 41) rfl rfl Tryd.func27 (by kernel_rfl) rfl #[.string t139, .int .i64 4] rfl (by (try simp only [List.map_toArray, List.map_cons, List.map_nil]); first | done | rfl | (simp only [List.length_drop, List.length_take]; rfl)) ?_; (with_reducible refine (num_Take.calls kj4 t139 4 t141 t142 t143 _ ?lg A17.out).mono ?_); (case lg => exact (HG.out.below (by repeat (first | (with_reducible first | exact HB.out | apply below_alloc | apply pw_below_drewN | apply below_drew1 | refine below_set ?_ GE136.out) | exact HB.out)))); rintro e w' ⟨rfl, ⟨nd, rfl⟩⟩; refine ⟨_, rfl, ?_⟩; (try (rw [drewN_self wc]; generalize hq_ : World.drewN wc _ = wc; have n0_ : Aside0 (wc.heap[gb136]? = some (.cells #[.int .i64 0, .int .i64 0, .string (⟨#[]⟩ : ByteArray)] 29 (0, 0))) := ⟨by rw [← hq_]; exact (by (with_reducible repeat (first | refine blk_drewN ?_ _ | refine blk_drew ?_ | refine blk_alloc ?_ _)); exact BK136.out)⟩; have n1_ : Aside0 (Below w.heap.size w wc) := ⟨by rw [← hq_]; exact (by repeat (first | (with_reducible first | exact HB.out | apply below_alloc | apply pw_below_drewN | apply below_drew1 | refine below_set ?_ GE136.out) | exact HB.out))⟩; clear BK136 HB hq_; have BK136 := n0_; have HB := n1_; clear n0_ n1_))))
                                have n0_ := Aside0.mk (blk_drew BK136.out)
                                have n1_ := Aside0.mk (below_drew1 HB.out)
                                clear BK136
                                clear HB
                                have BK136 := n0_
                                have HB := n1_
                                clear n0_ n1_
                                have p23 : 0 ≤ (0 : Int) := (by omega)
                                have q23 : 0 < a0.size := (by have : (0 : Int) < (a0.size : Int) := of_decide_eq_true (by first | (with_reducible assumption) | assumption); omega)
                                have hx23 : ∀ h : 0 < a0.size, ((a0[0]'h).toNat : Int) = bt a0 0 := bt_at a0 0
                                clear p23
                                have qi23 : (0 < (a0.size : Int)) = True := eq_true (of_decide_eq_true (by first | (with_reducible assumption) | assumption))
                                replace q23 := eq_true q23
                                refine start_ (n := 11) (S := fun w' => True) (ds := []) #[false, false, false, false, false, false, false, false, false, false, false] (by kernel_rfl) rfl rfl trivial (fun hHeld => ?_); refine with_tabW frame_Take.tab12 frame_Take.bits12 (fun HT_ HW_ => ?_)
                                generalize wc.drew = w34 at BK136 HB hHeld ⊢
                                refine pure_ (i := 0) (N := some 59) (v := ?_) (a' := ?_) #[true, false, false, false, false, false, false, false, false, false, false] rfl rfl (any_of HT_.out (by kernel_rfl)) (fun _ _ _ h => h) (Or.inl ⟨by rfl, ?_⟩) ?_ ?_
                                rotate_left
                                · intro w'
                                  go_simp
                                  with_reducible rfl
                                rotate_left
                                · simp only [Act.put, List.setIfInBounds_toArray, List.set_cons_zero, List.set_cons_succ, i64_w, i32_w]
                                  rfl
                                refine pure_ (i := 3) (N := some 62) (v := ?_) (a' := ?_) #[true, false, false, true, false, false, false, false, false, false, false] rfl rfl (any_of HT_.out (by kernel_rfl)) (fun _ _ _ h => h) (Or.inl ⟨by rfl, ?_⟩) ?_ ?_
                                rotate_left
                                · intro w'
                                  go_simp
                                  with_reducible rfl
                                rotate_left
                                · simp only [Act.put, List.setIfInBounds_toArray, List.set_cons_zero, List.set_cons_succ, i64_w, i32_w]
                                  rfl
                                refine pure_ (i := 4) (N := some 63) (v := ?_) (a' := ?_) #[true, false, false, true, true, false, false, false, false, false, false] rfl rfl (any_of HT_.out (by kernel_rfl)) (fun _ _ _ h => h) (Or.inl ⟨by rfl, ?_⟩) ?_ ?_
                                rotate_left
                                · intro w'
                                  go_simp
                                  with_reducible rfl
                                rotate_left
                                · simp only [Act.put, List.setIfInBounds_toArray, List.set_cons_zero, List.set_cons_succ, i64_w, i32_w]
                                  rfl
                                refine pure_ (i := 5) (N := some 64) (v := ?_) (a' := ?_) #[true, false, false, true, true, true, false, false, false, false, false] rfl rfl (any_of HT_.out (by kernel_rfl)) (fun _ _ _ h => h) (Or.inl ⟨by rfl, ?_⟩) ?_ ?_
                                rotate_left
                                · intro w'
                                  go_simp
                                  with_reducible rfl
                                rotate_left
                                · simp only [Act.put, List.setIfInBounds_toArray, List.set_cons_zero, List.set_cons_succ, i64_w, i32_w]
                                  rfl
                                refine pure_ (i := 6) (N := some 65) (v := ?_) (a' := ?_) #[true, false, false, true, true, true, true, false, false, false, false] rfl rfl (any_of HT_.out (by kernel_rfl)) (fun _ _ _ h => h) (Or.inl ⟨by rfl, ?_⟩) ?_ ?_
                                rotate_left
                                · intro w'
                                  go_simp
                                  with_reducible rfl
                                rotate_left
                                · simp only [Act.put, List.setIfInBounds_toArray, List.set_cons_zero, List.set_cons_succ, i64_w, i32_w]
                                  rfl
                                refine pure_ (i := 7) (N := some 66) (v := ?_) (a' := ?_) #[true, false, false, true, true, true, true, true, false, false, false] rfl rfl (any_of HT_.out (by kernel_rfl)) (fun _ _ _ h => h) (Or.inl ⟨by rfl, ?_⟩) ?_ ?_
                                rotate_left
                                · intro w'
                                  go_simp
                                  with_reducible rfl
                                rotate_left
                                · simp only [Act.put, List.setIfInBounds_toArray, List.set_cons_zero, List.set_cons_succ, i64_w, i32_w]
                                  rfl
                                refine take_ (i := 1) (N := some 60) (v := ?_) (a' := ?_) #[true, true, false, true, true, true, true, true, false, false, false] rfl rfl (take_ofW HT_.out HW_.out (by kernel_rfl)) (fun _ _ _ h => h) (Or.inl ⟨by rfl, ?_⟩) hHeld ?_ ?_
                                rotate_left
                                · intro w' _
                                  go_simp
                                  with_reducible rfl
                                rotate_left
                                · simp only [Act.put, List.setIfInBounds_toArray, List.set_cons_zero, List.set_cons_succ, i64_w, i32_w]
                                  rfl
                                refine pure_ (i := 2) (N := some 61) (v := ?_) (a' := ?_) #[true, true, true, true, true, true, true, true, false, false, false] rfl rfl (any_of HT_.out (by kernel_rfl)) (fun _ _ _ h => h) (Or.inl ⟨by rfl, ?_⟩) ?_ ?_
                                rotate_left
                                · intro w'
                                  go_simp
                                  with_reducible rfl
                                rotate_left
                                · simp only [Act.put, List.setIfInBounds_toArray, List.set_cons_zero, List.set_cons_succ, i64_w, i32_w]
                                  rfl
                                refine pure_ (i := 8) (N := some 67) (v := ?_) (a' := ?_) #[true, true, true, true, true, true, true, true, true, false, false] rfl rfl (any_of HT_.out (by kernel_rfl)) (fun _ _ _ h => h) (Or.inl ⟨by rfl, ?_⟩) ?_ ?_
                                rotate_left
                                · intro w'
                                  go_simp
                                  with_reducible rfl
                                rotate_left
                                · simp only [Act.put, List.setIfInBounds_toArray, List.set_cons_zero, List.set_cons_succ, i64_w, i32_w]
                                  rfl
                                refine one_ (i := 9) (N := some 12) #[true, true, true, true, true, true, true, true, true, true, false] rfl rfl (one_of HT_.out (by kernel_rfl)) (by decide) (fun K hK => ?_)
                                refine box_step ?hg (N := 12) ?hd (cs := #[.int .i64 0, .int .i64 0, .string (⟨#[]⟩ : ByteArray)]) (t := 29) ?hr ?_; (case hd => rfl); (case hg => rfl); (case hr => first | (go_simp; done) | (go_simp; rfl))
                                intro gb144 hg w35 hbox hb
                                have n0_ := Aside0.mk (blk_below (g := gb136) (o := .cells #[.int .i64 0, .int .i64 0, .string (⟨#[]⟩ : ByteArray)] 29 (0, 0)) (by (with_reducible repeat (first | refine blk_drewN ?_ _ | refine blk_drew ?_ | refine blk_alloc ?_ _)); exact BK136.out) hb)
                                have n1_ := Aside0.mk (below_step (by repeat (first | (with_reducible first | exact HB.out | apply below_alloc | apply pw_below_drewN | apply below_drew1 | refine below_set ?_ GE136.out) | exact HB.out)) hb)
                                have n2_ := Aside0.mk (hbox)
                                have n3_ := Aside0.mk ((by rw [hg]; exact (below_size (by repeat (first | (with_reducible first | exact HB.out | apply below_alloc | apply pw_below_drewN | apply below_drew1 | refine below_set ?_ GE136.out) | exact HB.out))) : w.heap.size ≤ gb144))
                                have n4_ := Aside0.mk ((by rw [hg]; exact (below_size (by repeat (first | (with_reducible first | exact HB.out | apply below_alloc | apply pw_below_drewN | apply below_drew1 | refine below_set ?_ GE136.out) | exact HB.out))) : w.heap.size ≤ gb144))
                                have n5_ := Aside0.mk ((by rw [hg]; exact Nat.ne_of_lt (blk_lt (g := gb136) (o := .cells #[.int .i64 0, .int .i64 0, .string (⟨#[]⟩ : ByteArray)] 29 (0, 0)) (by (with_reducible repeat (first | refine blk_drewN ?_ _ | refine blk_drew ?_ | refine blk_alloc ?_ _)); exact BK136.out)) : gb136 ≠ gb144))
                                have n6_ := Aside0.mk ((by rw [hg]; exact Nat.ne_of_gt (blk_lt (g := gb136) (o := .cells #[.int .i64 0, .int .i64 0, .string (⟨#[]⟩ : ByteArray)] 29 (0, 0)) (by (with_reducible repeat (first | refine blk_drewN ?_ _ | refine blk_drew ?_ | refine blk_alloc ?_ _)); exact BK136.out)) : gb144 ≠ gb136))
                                clear BK136
                                clear HB
                                have BK136 := n0_
                                have HB := n1_
                                have BK144 := n2_
                                have GW144 := n3_
                                have GE144 := n4_
                                have NB136_144 := n5_
                                have NB144_136 := n6_
                                clear n0_ n1_ n2_ n3_ n4_ n5_ n6_
                                clear hb hbox hg
                                refine hK.out _ _ trivial (fun hHeld => ?_)
                                clear hK K
                                refine norm_ (a' := ?_) ?_ ?_
                                rotate_left
                                · show Act.put _ (some 12) _ = _
                                  simp only [Act.put, List.setIfInBounds_toArray, List.set_cons_zero, List.set_cons_succ, i64_w, i32_w]
                                  rfl
                                refine one_ (i := 10) (N := none) #[true, true, true, true, true, true, true, true, true, true, true] rfl rfl (one_of HT_.out (by kernel_rfl)) (by decide) (fun K hK => ?_)
                                have hs36 : w35.cell? ⟨gb144, 0, none⟩ = some (.int .i64 0) := (blk_cell BK144.out 0).trans rfl
                                have hfs36 := blk_frozen BK144.out 0
                                have hns36_0 := NB136_144.out
                                have hms36_0 := NB144_136.out
                                have hs37 : w35.cell? ⟨gb144, 1, none⟩ = some (.int .i64 0) := (blk_cell BK144.out 1).trans rfl
                                have hfs37 := blk_frozen BK144.out 1
                                have hns37_0 := NB136_144.out
                                have hms37_0 := NB144_136.out
                                have hs38 : w35.cell? ⟨gb144, 2, none⟩ = some (.string (⟨#[]⟩ : ByteArray)) := (blk_cell BK144.out 2).trans rfl
                                have hfs38 := blk_frozen BK144.out 2
                                have hns38_0 := NB136_144.out
                                have hms38_0 := NB144_136.out
                                refine skip_ (w1 := ?_) (by rfl) rfl ?_ ?_
                                rotate_left
                                · go_simp
                                  rfl
                                refine hK.out _ _ trivial (fun hHeld => ?_)
                                clear hK K
                                refine done_ (done_of HT_.out (by kernel_rfl)) ?_
                                have p27 : 0 ≤ (t141 : Int) := of_decide_eq_true (by first | (with_reducible assumption) | assumption)
                                have q27 : t141 < (t142.size : Int) := of_decide_eq_true (by first | (with_reducible assumption) | assumption)
                                have hx27 := bt_at t142 t141
                                replace p27 := eq_true p27
                                replace q27 := eq_true q27
                                have hnb39 := NB144_136.out
                                have hnc39 := NB136_144.out
                                have hcz40_0 : w35.cell? ⟨gb144, 0, none⟩ = some (.int .i64 0) := (blk_cell BK144.out 0).trans rfl
                                have hcz40_1 : w35.cell? ⟨gb144, 1, none⟩ = some (.int .i64 0) := (blk_cell BK144.out 1).trans rfl
                                have hcz40_2 : w35.cell? ⟨gb144, 2, none⟩ = some (.string (⟨#[]⟩ : ByteArray)) := (blk_cell BK144.out 2).trans rfl
                                have hfz40_0 := blk_frozen BK144.out 0
                                have hfz40_1 := blk_frozen BK144.out 1
                                have hfz40_2 := blk_frozen BK144.out 2
                                try go_wp2_with (first | (go_at_call 15; (with_reducible refine (frame_Right.calls kj4 (wrap64 (bt a0 0)) (wrap64 (t138)) (t142.extract 0 (t141 : Int).toNat) true _ ?lg A29.out).mono ?_); (case lg => exact (HG.out.below (by repeat (first | (with_reducible first | exact HB.out | apply below_alloc | apply pw_below_drewN | apply below_drew1 | refine below_set ?_ GE136.out | refine below_set ?_ GE144.out) | exact HB.out)))); rintro e w41 ⟨rfl, hb⟩; have n0_ := Aside0.mk (blk_below (g := gb136) (o := .cells #[.int .i64 0, .int .i64 0, .string (⟨#[]⟩ : ByteArray)] 29 (0, 0)) (by (with_reducible repeat (first | refine blk_drewN ?_ _ | refine blk_drew ?_ | refine blk_alloc ?_ _)); refine blk_far ?_ NB136_144.out _; (with_reducible repeat (first | refine blk_drewN ?_ _ | refine blk_drew ?_ | refine blk_alloc ?_ _)); refine blk_far ?_ NB136_144.out _; (with_reducible repeat (first | refine blk_drewN ?_ _ | refine blk_drew ?_ | refine blk_alloc ?_ _)); refine blk_far ?_ NB136_144.out _; (with_reducible repeat (first | refine blk_drewN ?_ _ | refine blk_drew ?_ | refine blk_alloc ?_ _)); exact BK136.out) hb); have n1_ := Aside0.mk (blk_below (g := gb144) (o := .cells #[.int .i64 (wrap64 (bt a0 0)), .int .i64 (wrap64 (t138)), .string (t142.extract 0 (t141 : Int).toNat)] 29 (0, 0)) (by (with_reducible repeat (first | refine blk_drewN ?_ _ | refine blk_drew ?_ | refine blk_alloc ?_ _)); refine blk_put (cs := #[.int .i64 (wrap64 (bt a0 0)), .int .i64 (wrap64 (t138)), .string (⟨#[]⟩ : ByteArray)]) ?_ 2 _ rfl; (with_reducible repeat (first | refine blk_drewN ?_ _ | refine blk_drew ?_ | refine blk_alloc ?_ _)); refine blk_put (cs := #[.int .i64 (wrap64 (bt a0 0)), .int .i64 0, .string (⟨#[]⟩ : ByteArray)]) ?_ 1 _ rfl; (with_reducible repeat (first | refine blk_drewN ?_ _ | refine blk_drew ?_ | refine blk_alloc ?_ _)); refine blk_put (cs := #[.int .i64 0, .int .i64 0, .string (⟨#[]⟩ : ByteArray)]) ?_ 0 _ rfl; (with_reducible repeat (first | refine blk_drewN ?_ _ | refine blk_drew ?_ | refine blk_alloc ?_ _)); exact BK144.out) hb); have n2_ := Aside0.mk (below_step (by repeat (first | (with_reducible first | exact HB.out | apply below_alloc | apply pw_below_drewN | apply below_drew1 | refine below_set ?_ GE136.out | refine below_set ?_ GE144.out) | exact HB.out)) hb); clear BK136; clear BK144; clear HB; have BK136 := n0_; have BK144 := n1_; have HB := n2_; clear n0_ n1_ n2_; (try clear hb); (try clear hb2); (try clear hk); (try clear hi)))
                                have n0_ := Aside0.mk (blk_drew BK136.out)
                                have n1_ := Aside0.mk (blk_drew BK144.out)
                                have n2_ := Aside0.mk (below_drew1 HB.out)
                                clear BK136
                                clear BK144
                                clear HB
                                have BK136 := n0_
                                have BK144 := n1_
                                have HB := n2_
                                clear n0_ n1_ n2_
                                refine start_ (n := 8) (S := fun w' => w'.cell? ⟨gb144, 0, none⟩ = some (.int .i64 (wrap64 (bt a0 0))) ∧ w'.cell? ⟨gb144, 1, none⟩ = some (.int .i64 (wrap64 (t138))) ∧ w'.cell? ⟨gb144, 2, none⟩ = some (.string (t142.extract 0 (t141 : Int).toNat))) (ds := []) #[false, false, false, false, false, false, false, false] (by kernel_rfl) rfl rfl ⟨(blk_cell BK144.out 0).trans rfl, (blk_cell BK144.out 1).trans rfl, (blk_cell BK144.out 2).trans rfl⟩ (fun hHeld => ?_); refine with_tabW frame_Take.tab15 frame_Take.bits15 (fun HT_ HW_ => ?_)
                                generalize w41.drew = w42 at BK136 BK144 HB hHeld ⊢
                                refine pure_ (i := 1) (N := some 79) (v := ?_) (a' := ?_) #[false, true, false, false, false, false, false, false] rfl rfl (any_of HT_.out (by kernel_rfl)) (fun _ _ _ h => h) (Or.inl ⟨by rfl, ?_⟩) ?_ ?_
                                rotate_left
                                · intro w'
                                  go_simp
                                  with_reducible rfl
                                rotate_left
                                · simp only [Act.put, List.setIfInBounds_toArray, List.set_cons_zero, List.set_cons_succ, i64_w, i32_w]
                                  rfl
                                refine pure_ (i := 2) (N := some 80) (v := ?_) (a' := ?_) #[false, true, true, false, false, false, false, false] rfl rfl (any_of HT_.out (by kernel_rfl)) (fun _ _ _ h => h) (Or.inl ⟨by rfl, ?_⟩) ?_ ?_
                                rotate_left
                                · intro w'
                                  go_simp
                                  with_reducible rfl
                                rotate_left
                                · simp only [Act.put, List.setIfInBounds_toArray, List.set_cons_zero, List.set_cons_succ, i64_w, i32_w]
                                  rfl
                                refine pure_ (i := 3) (N := some 81) (v := ?_) (a' := ?_) #[false, true, true, true, false, false, false, false] rfl rfl (any_of HT_.out (by kernel_rfl)) (fun _ _ _ h => h) (Or.inl ⟨by rfl, ?_⟩) ?_ ?_
                                rotate_left
                                · intro w'
                                  go_simp
                                  with_reducible rfl
                                rotate_left
                                · simp only [Act.put, List.setIfInBounds_toArray, List.set_cons_zero, List.set_cons_succ, i64_w, i32_w]
                                  rfl
                                refine pure_ (i := 4) (N := some 82) (v := ?_) (a' := ?_) #[false, true, true, true, true, false, false, false] rfl rfl (any_of HT_.out (by kernel_rfl)) (fun _ _ _ h => h) (Or.inl ⟨by rfl, ?_⟩) ?_ ?_
                                rotate_left
                                · intro w'
                                  go_simp
                                  with_reducible rfl
                                rotate_left
                                · simp only [Act.put, List.setIfInBounds_toArray, List.set_cons_zero, List.set_cons_succ, i64_w, i32_w]
                                  rfl
                                refine take_ (i := 0) (N := some 78) (v := ?_) (a' := ?_) #[true, true, true, true, true, false, false, false] rfl rfl (take_ofW HT_.out HW_.out (by kernel_rfl)) (fun _ _ _ h => h) (Or.inl ⟨by rfl, ?_⟩) hHeld ?_ ?_
                                rotate_left
                                · rintro w' ⟨s0, s1, s2⟩
                                  go_simp
                                  with_reducible rfl
                                rotate_left
                                · simp only [Act.put, List.setIfInBounds_toArray, List.set_cons_zero, List.set_cons_succ, i64_w, i32_w]
                                  rfl
                                refine one_ (i := 5) (N := none) #[true, true, true, true, true, true, false, false] rfl rfl (one_of HT_.out (by kernel_rfl)) (by decide) (fun K hK => ?_)
                                have hs43 : w42.cell? ⟨gb136, 0, none⟩ = some (.int .i64 0) := (blk_cell BK136.out 0).trans rfl
                                have hfs43 := blk_frozen BK136.out 0
                                have hns43_1 := NB144_136.out
                                have hms43_1 := NB136_144.out
                                have hs44 : w42.cell? ⟨gb136, 1, none⟩ = some (.int .i64 0) := (blk_cell BK136.out 1).trans rfl
                                have hfs44 := blk_frozen BK136.out 1
                                have hns44_1 := NB144_136.out
                                have hms44_1 := NB136_144.out
                                have hs45 : w42.cell? ⟨gb136, 2, none⟩ = some (.string (⟨#[]⟩ : ByteArray)) := (blk_cell BK136.out 2).trans rfl
                                have hfs45 := blk_frozen BK136.out 2
                                have hns45_1 := NB144_136.out
                                have hms45_1 := NB136_144.out
                                refine skip_ (w1 := ?_) (by rfl) rfl ?_ ?_
                                rotate_left
                                · go_simp
                                  rfl
                                refine hK.out _ _ ⟨((cell_far (p := ⟨gb136, _, none⟩) NB144_136.out _).trans (((cell_far (p := ⟨gb136, _, none⟩) NB144_136.out _).trans (((cell_far (p := ⟨gb136, _, none⟩) NB144_136.out _).trans (hHeld.1)))))), ((cell_far (p := ⟨gb136, _, none⟩) NB144_136.out _).trans (((cell_far (p := ⟨gb136, _, none⟩) NB144_136.out _).trans (((cell_far (p := ⟨gb136, _, none⟩) NB144_136.out _).trans (hHeld.2.1)))))), ((cell_far (p := ⟨gb136, _, none⟩) NB144_136.out _).trans (((cell_far (p := ⟨gb136, _, none⟩) NB144_136.out _).trans (((cell_far (p := ⟨gb136, _, none⟩) NB144_136.out _).trans (hHeld.2.2))))))⟩ (fun hHeld => ?_)
                                clear hK K
                                refine pure_ (i := 6) (N := some 5) (v := ?_) (a' := ?_) #[true, true, true, true, true, true, true, false] rfl rfl (any_of HT_.out (by kernel_rfl)) (fun _ _ _ h => h) (Or.inl ⟨by rfl, ?_⟩) ?_ ?_
                                rotate_left
                                · intro w'
                                  go_simp
                                  with_reducible rfl
                                rotate_left
                                · simp only [Act.put, List.setIfInBounds_toArray, List.set_cons_zero, List.set_cons_succ, i64_w, i32_w]
                                  rfl
                                refine pure_ (i := 7) (N := some 6) (v := ?_) (a' := ?_) #[true, true, true, true, true, true, true, true] rfl rfl (any_of HT_.out (by kernel_rfl)) (fun _ _ _ h => h) (Or.inl ⟨by rfl, ?_⟩) ?_ ?_
                                rotate_left
                                · intro w'
                                  go_simp
                                  with_reducible rfl
                                rotate_left
                                · simp only [Act.put, List.setIfInBounds_toArray, List.set_cons_zero, List.set_cons_succ, i64_w, i32_w]
                                  rfl
                                refine done_ (done_of HT_.out (by kernel_rfl)) ?_
                                try go_wp2
                                refine bodyPost_ret (results_ctt rfl _ _ gb136 29 #[.int .i64 (wrap64 (bt a0 0)), .int .i64 (wrap64 (t138)), .string (t142.extract 0 (t141 : Int).toNat)] (0, 0) _ rfl (by (with_reducible repeat (first | refine blk_drewN ?_ _ | refine blk_drew ?_ | refine blk_alloc ?_ _)); refine blk_put (cs := #[.int .i64 (wrap64 (bt a0 0)), .int .i64 (wrap64 (t138)), .string (⟨#[]⟩ : ByteArray)]) ?_ 2 _ rfl; (with_reducible repeat (first | refine blk_drewN ?_ _ | refine blk_drew ?_ | refine blk_alloc ?_ _)); refine blk_put (cs := #[.int .i64 (wrap64 (bt a0 0)), .int .i64 0, .string (⟨#[]⟩ : ByteArray)]) ?_ 1 _ rfl; (with_reducible repeat (first | refine blk_drewN ?_ _ | refine blk_drew ?_ | refine blk_alloc ?_ _)); refine blk_put (cs := #[.int .i64 0, .int .i64 0, .string (⟨#[]⟩ : ByteArray)]) ?_ 0 _ rfl; (with_reducible repeat (first | refine blk_drewN ?_ _ | refine blk_drew ?_ | refine blk_alloc ?_ _)); exact BK136.out) Tryd.underlying29 rfl (by kernel_rfl)) rfl ?_
                                exact ⟨by first | rfl | (simp [errW_none, errW_some] <;> rfl) | (simp only [← hji3, ← hji4, ← hji31]; first | rfl | (simp [errW_none, errW_some] <;> rfl)) | (simp [*, errW_none, errW_some] <;> rfl), by repeat (first | (with_reducible first | exact HB.out | apply below_alloc | apply pw_below_drewN | apply below_drew1 | refine below_set ?_ GE136.out | refine below_set ?_ GE144.out) | exact HB.out)⟩
                              · rw [if_neg c33] at H
                                exact absurd H (by simp)
                            · rw [if_neg c32] at H
                              exact absurd H (by simp)
                          · replace c30 := Bool.eq_false_iff.mpr c30
                            subst c30
                            have H1 : (some (0, 0, (⟨#[]⟩ : ByteArray), (⟨#[]⟩ : ByteArray), 6)) = some (r1, r2, r3, r4, r5) := by rw [if_neg (show ¬ (false = true) by decide)] at H; exact H
                            clear H
                            have H := H1
                            clear H1
                            simp only [Option.some.injEq, Prod.mk.injEq] at H
                            obtain ⟨rfl, rfl, rfl, rfl, rfl⟩ := H
                            try go_wp2_with (first | ((with_reducible refine gate_callee (f := 27) rfl ?_); refine goesL_ (some 35) rfl rfl Tryd.func27 (by kernel_rfl) rfl #[.string (a0.extract 1 a0.size), .int .i64 2] rfl (by (try simp only [List.map_toArray, List.map_cons, List.map_nil]); first | done | rfl | (simp only [List.length_drop, List.length_take]; rfl)) ?_; (with_reducible refine (num_Take.calls kj4 (a0.extract 1 a0.size) 2 t138 t139 t140 _ ?lg A16.out).mono ?_); (case lg => exact (HG.out.below (by repeat (first | (with_reducible first | exact HB.out | apply below_alloc | apply pw_below_drewN | apply below_drew1 | refine below_set ?_ GE136.out) | exact HB.out)))); rintro e w' ⟨rfl, ⟨nd, rfl⟩⟩; refine ⟨_, rfl, ?_⟩; (try (rw [drewN_self wc]; generalize hq_ : World.drewN wc _ = wc; have n0_ : Aside0 (wc.heap[gb136]? = some (.cells #[.int .i64 0, .int .i64 0, .string (⟨#[]⟩ : ByteArray)] 29 (0, 0))) := ⟨by rw [← hq_]; exact (by (with_reducible repeat (first | refine blk_drewN ?_ _ | refine blk_drew ?_ | refine blk_alloc ?_ _)); exact BK136.out)⟩; have n1_ : Aside0 (Below w.heap.size w wc) := ⟨by rw [← hq_]; exact (by repeat (first | (with_reducible first | exact HB.out | apply below_alloc | apply pw_below_drewN | apply below_drew1 | refine below_set ?_ GE136.out) | exact HB.out))⟩; clear BK136 HB hq_; have BK136 := n0_; have HB := n1_; clear n0_ n1_))) | ((with_reducible refine gate_callee (f := 27) rfl ?_); refine goesL_ (some 41) rfl rfl Tryd.func27 (by kernel_rfl) rfl #[.string t139, .int .i64 4] rfl (by (try simp only [List.map_toArray, List.map_cons, List.map_nil]); first | done | rfl | (simp only [List.length_drop, List.length_take]; rfl)) ?_; (with_reducible refine (num_Take.calls kj4 t139 4 t141 t142 t143 _ ?lg A17.out).mono ?_); (case lg => exact (HG.out.below (by repeat (first | (with_reducible first | exact HB.out | apply below_alloc | apply pw_below_drewN | apply below_drew1 | refine below_set ?_ GE136.out) | exact HB.out)))); rintro e w' ⟨rfl, ⟨nd, rfl⟩⟩; refine ⟨_, rfl, ?_⟩; (try (rw [drewN_self wc]; generalize hq_ : World.drewN wc _ = wc; have n0_ : Aside0 (wc.heap[gb136]? = some (.cells #[.int .i64 0, .int .i64 0, .string (⟨#[]⟩ : ByteArray)] 29 (0, 0))) := ⟨by rw [← hq_]; exact (by (with_reducible repeat (first | refine blk_drewN ?_ _ | refine blk_drew ?_ | refine blk_alloc ?_ _)); exact BK136.out)⟩; have n1_ : Aside0 (Below w.heap.size w wc) := ⟨by rw [← hq_]; exact (by repeat (first | (with_reducible first | exact HB.out | apply below_alloc | apply pw_below_drewN | apply below_drew1 | refine below_set ?_ GE136.out) | exact HB.out))⟩; clear BK136 HB hq_; have BK136 := n0_; have HB := n1_; clear n0_ n1_))))
                            have n0_ := Aside0.mk (blk_drew BK136.out)
                            have n1_ := Aside0.mk (below_drew1 HB.out)
                            clear BK136
                            clear HB
                            have BK136 := n0_
                            have HB := n1_
                            clear n0_ n1_
                            have p23 : 0 ≤ (0 : Int) := (by omega)
                            have q23 : 0 < a0.size := (by have : (0 : Int) < (a0.size : Int) := of_decide_eq_true (by first | (with_reducible assumption) | assumption); omega)
                            have hx23 : ∀ h : 0 < a0.size, ((a0[0]'h).toNat : Int) = bt a0 0 := bt_at a0 0
                            clear p23
                            have qi23 : (0 < (a0.size : Int)) = True := eq_true (of_decide_eq_true (by first | (with_reducible assumption) | assumption))
                            replace q23 := eq_true q23
                            refine start_ (n := 11) (S := fun w' => True) (ds := []) #[false, false, false, false, false, false, false, false, false, false, false] (by kernel_rfl) rfl rfl trivial (fun hHeld => ?_); refine with_tabW frame_Take.tab12 frame_Take.bits12 (fun HT_ HW_ => ?_)
                            generalize wc.drew = w46 at BK136 HB hHeld ⊢
                            refine pure_ (i := 0) (N := some 59) (v := ?_) (a' := ?_) #[true, false, false, false, false, false, false, false, false, false, false] rfl rfl (any_of HT_.out (by kernel_rfl)) (fun _ _ _ h => h) (Or.inl ⟨by rfl, ?_⟩) ?_ ?_
                            rotate_left
                            · intro w'
                              go_simp
                              with_reducible rfl
                            rotate_left
                            · simp only [Act.put, List.setIfInBounds_toArray, List.set_cons_zero, List.set_cons_succ, i64_w, i32_w]
                              rfl
                            refine pure_ (i := 3) (N := some 62) (v := ?_) (a' := ?_) #[true, false, false, true, false, false, false, false, false, false, false] rfl rfl (any_of HT_.out (by kernel_rfl)) (fun _ _ _ h => h) (Or.inl ⟨by rfl, ?_⟩) ?_ ?_
                            rotate_left
                            · intro w'
                              go_simp
                              with_reducible rfl
                            rotate_left
                            · simp only [Act.put, List.setIfInBounds_toArray, List.set_cons_zero, List.set_cons_succ, i64_w, i32_w]
                              rfl
                            refine pure_ (i := 4) (N := some 63) (v := ?_) (a' := ?_) #[true, false, false, true, true, false, false, false, false, false, false] rfl rfl (any_of HT_.out (by kernel_rfl)) (fun _ _ _ h => h) (Or.inl ⟨by rfl, ?_⟩) ?_ ?_
                            rotate_left
                            · intro w'
                              go_simp
                              with_reducible rfl
                            rotate_left
                            · simp only [Act.put, List.setIfInBounds_toArray, List.set_cons_zero, List.set_cons_succ, i64_w, i32_w]
                              rfl
                            refine pure_ (i := 5) (N := some 64) (v := ?_) (a' := ?_) #[true, false, false, true, true, true, false, false, false, false, false] rfl rfl (any_of HT_.out (by kernel_rfl)) (fun _ _ _ h => h) (Or.inl ⟨by rfl, ?_⟩) ?_ ?_
                            rotate_left
                            · intro w'
                              go_simp
                              with_reducible rfl
                            rotate_left
                            · simp only [Act.put, List.setIfInBounds_toArray, List.set_cons_zero, List.set_cons_succ, i64_w, i32_w]
                              rfl
                            refine pure_ (i := 6) (N := some 65) (v := ?_) (a' := ?_) #[true, false, false, true, true, true, true, false, false, false, false] rfl rfl (any_of HT_.out (by kernel_rfl)) (fun _ _ _ h => h) (Or.inl ⟨by rfl, ?_⟩) ?_ ?_
                            rotate_left
                            · intro w'
                              go_simp
                              with_reducible rfl
                            rotate_left
                            · simp only [Act.put, List.setIfInBounds_toArray, List.set_cons_zero, List.set_cons_succ, i64_w, i32_w]
                              rfl
                            refine pure_ (i := 7) (N := some 66) (v := ?_) (a' := ?_) #[true, false, false, true, true, true, true, true, false, false, false] rfl rfl (any_of HT_.out (by kernel_rfl)) (fun _ _ _ h => h) (Or.inl ⟨by rfl, ?_⟩) ?_ ?_
                            rotate_left
                            · intro w'
                              go_simp
                              with_reducible rfl
                            rotate_left
                            · simp only [Act.put, List.setIfInBounds_toArray, List.set_cons_zero, List.set_cons_succ, i64_w, i32_w]
                              rfl
                            refine take_ (i := 1) (N := some 60) (v := ?_) (a' := ?_) #[true, true, false, true, true, true, true, true, false, false, false] rfl rfl (take_ofW HT_.out HW_.out (by kernel_rfl)) (fun _ _ _ h => h) (Or.inl ⟨by rfl, ?_⟩) hHeld ?_ ?_
                            rotate_left
                            · intro w' _
                              go_simp
                              with_reducible rfl
                            rotate_left
                            · simp only [Act.put, List.setIfInBounds_toArray, List.set_cons_zero, List.set_cons_succ, i64_w, i32_w]
                              rfl
                            refine pure_ (i := 2) (N := some 61) (v := ?_) (a' := ?_) #[true, true, true, true, true, true, true, true, false, false, false] rfl rfl (any_of HT_.out (by kernel_rfl)) (fun _ _ _ h => h) (Or.inl ⟨by rfl, ?_⟩) ?_ ?_
                            rotate_left
                            · intro w'
                              go_simp
                              with_reducible rfl
                            rotate_left
                            · simp only [Act.put, List.setIfInBounds_toArray, List.set_cons_zero, List.set_cons_succ, i64_w, i32_w]
                              rfl
                            refine pure_ (i := 8) (N := some 67) (v := ?_) (a' := ?_) #[true, true, true, true, true, true, true, true, true, false, false] rfl rfl (any_of HT_.out (by kernel_rfl)) (fun _ _ _ h => h) (Or.inl ⟨by rfl, ?_⟩) ?_ ?_
                            rotate_left
                            · intro w'
                              go_simp
                              with_reducible rfl
                            rotate_left
                            · simp only [Act.put, List.setIfInBounds_toArray, List.set_cons_zero, List.set_cons_succ, i64_w, i32_w]
                              rfl
                            refine one_ (i := 9) (N := some 12) #[true, true, true, true, true, true, true, true, true, true, false] rfl rfl (one_of HT_.out (by kernel_rfl)) (by decide) (fun K hK => ?_)
                            refine box_step ?hg (N := 12) ?hd (cs := #[.int .i64 0, .int .i64 0, .string (⟨#[]⟩ : ByteArray)]) (t := 29) ?hr ?_; (case hd => rfl); (case hg => rfl); (case hr => first | (go_simp; done) | (go_simp; rfl))
                            intro gb144 hg w47 hbox hb
                            have n0_ := Aside0.mk (blk_below (g := gb136) (o := .cells #[.int .i64 0, .int .i64 0, .string (⟨#[]⟩ : ByteArray)] 29 (0, 0)) (by (with_reducible repeat (first | refine blk_drewN ?_ _ | refine blk_drew ?_ | refine blk_alloc ?_ _)); exact BK136.out) hb)
                            have n1_ := Aside0.mk (below_step (by repeat (first | (with_reducible first | exact HB.out | apply below_alloc | apply pw_below_drewN | apply below_drew1 | refine below_set ?_ GE136.out) | exact HB.out)) hb)
                            have n2_ := Aside0.mk (hbox)
                            have n3_ := Aside0.mk ((by rw [hg]; exact (below_size (by repeat (first | (with_reducible first | exact HB.out | apply below_alloc | apply pw_below_drewN | apply below_drew1 | refine below_set ?_ GE136.out) | exact HB.out))) : w.heap.size ≤ gb144))
                            have n4_ := Aside0.mk ((by rw [hg]; exact (below_size (by repeat (first | (with_reducible first | exact HB.out | apply below_alloc | apply pw_below_drewN | apply below_drew1 | refine below_set ?_ GE136.out) | exact HB.out))) : w.heap.size ≤ gb144))
                            have n5_ := Aside0.mk ((by rw [hg]; exact Nat.ne_of_lt (blk_lt (g := gb136) (o := .cells #[.int .i64 0, .int .i64 0, .string (⟨#[]⟩ : ByteArray)] 29 (0, 0)) (by (with_reducible repeat (first | refine blk_drewN ?_ _ | refine blk_drew ?_ | refine blk_alloc ?_ _)); exact BK136.out)) : gb136 ≠ gb144))
                            have n6_ := Aside0.mk ((by rw [hg]; exact Nat.ne_of_gt (blk_lt (g := gb136) (o := .cells #[.int .i64 0, .int .i64 0, .string (⟨#[]⟩ : ByteArray)] 29 (0, 0)) (by (with_reducible repeat (first | refine blk_drewN ?_ _ | refine blk_drew ?_ | refine blk_alloc ?_ _)); exact BK136.out)) : gb144 ≠ gb136))
                            clear BK136
                            clear HB
                            have BK136 := n0_
                            have HB := n1_
                            have BK144 := n2_
                            have GW144 := n3_
                            have GE144 := n4_
                            have NB136_144 := n5_
                            have NB144_136 := n6_
                            clear n0_ n1_ n2_ n3_ n4_ n5_ n6_
                            clear hb hbox hg
                            refine hK.out _ _ trivial (fun hHeld => ?_)
                            clear hK K
                            refine norm_ (a' := ?_) ?_ ?_
                            rotate_left
                            · show Act.put _ (some 12) _ = _
                              simp only [Act.put, List.setIfInBounds_toArray, List.set_cons_zero, List.set_cons_succ, i64_w, i32_w]
                              rfl
                            refine one_ (i := 10) (N := none) #[true, true, true, true, true, true, true, true, true, true, true] rfl rfl (one_of HT_.out (by kernel_rfl)) (by decide) (fun K hK => ?_)
                            have hs48 : w47.cell? ⟨gb144, 0, none⟩ = some (.int .i64 0) := (blk_cell BK144.out 0).trans rfl
                            have hfs48 := blk_frozen BK144.out 0
                            have hns48_0 := NB136_144.out
                            have hms48_0 := NB144_136.out
                            have hs49 : w47.cell? ⟨gb144, 1, none⟩ = some (.int .i64 0) := (blk_cell BK144.out 1).trans rfl
                            have hfs49 := blk_frozen BK144.out 1
                            have hns49_0 := NB136_144.out
                            have hms49_0 := NB144_136.out
                            have hs50 : w47.cell? ⟨gb144, 2, none⟩ = some (.string (⟨#[]⟩ : ByteArray)) := (blk_cell BK144.out 2).trans rfl
                            have hfs50 := blk_frozen BK144.out 2
                            have hns50_0 := NB136_144.out
                            have hms50_0 := NB144_136.out
                            refine skip_ (w1 := ?_) (by rfl) rfl ?_ ?_
                            rotate_left
                            · go_simp
                              rfl
                            refine hK.out _ _ trivial (fun hHeld => ?_)
                            clear hK K
                            refine done_ (done_of HT_.out (by kernel_rfl)) ?_
                            have p27 : 0 ≤ (t141 : Int) := of_decide_eq_true (by first | (with_reducible assumption) | assumption)
                            have q27 : t141 < (t142.size : Int) := of_decide_eq_true (by first | (with_reducible assumption) | assumption)
                            have hx27 := bt_at t142 t141
                            replace p27 := eq_true p27
                            replace q27 := eq_true q27
                            have hnb51 := NB144_136.out
                            have hnc51 := NB136_144.out
                            have hcz52_0 : w47.cell? ⟨gb144, 0, none⟩ = some (.int .i64 0) := (blk_cell BK144.out 0).trans rfl
                            have hcz52_1 : w47.cell? ⟨gb144, 1, none⟩ = some (.int .i64 0) := (blk_cell BK144.out 1).trans rfl
                            have hcz52_2 : w47.cell? ⟨gb144, 2, none⟩ = some (.string (⟨#[]⟩ : ByteArray)) := (blk_cell BK144.out 2).trans rfl
                            have hfz52_0 := blk_frozen BK144.out 0
                            have hfz52_1 := blk_frozen BK144.out 1
                            have hfz52_2 := blk_frozen BK144.out 2
                            try go_wp2_with (first | (go_at_call 15; (with_reducible refine (frame_Right.calls kj4 (wrap64 (bt a0 0)) (wrap64 (t138)) (t142.extract 0 (t141 : Int).toNat) false _ ?lg A29.out).mono ?_); (case lg => exact (HG.out.below (by repeat (first | (with_reducible first | exact HB.out | apply below_alloc | apply pw_below_drewN | apply below_drew1 | refine below_set ?_ GE136.out | refine below_set ?_ GE144.out) | exact HB.out)))); rintro e w53 ⟨rfl, hb⟩; have n0_ := Aside0.mk (blk_below (g := gb136) (o := .cells #[.int .i64 0, .int .i64 0, .string (⟨#[]⟩ : ByteArray)] 29 (0, 0)) (by (with_reducible repeat (first | refine blk_drewN ?_ _ | refine blk_drew ?_ | refine blk_alloc ?_ _)); refine blk_far ?_ NB136_144.out _; (with_reducible repeat (first | refine blk_drewN ?_ _ | refine blk_drew ?_ | refine blk_alloc ?_ _)); refine blk_far ?_ NB136_144.out _; (with_reducible repeat (first | refine blk_drewN ?_ _ | refine blk_drew ?_ | refine blk_alloc ?_ _)); refine blk_far ?_ NB136_144.out _; (with_reducible repeat (first | refine blk_drewN ?_ _ | refine blk_drew ?_ | refine blk_alloc ?_ _)); exact BK136.out) hb); have n1_ := Aside0.mk (blk_below (g := gb144) (o := .cells #[.int .i64 (wrap64 (bt a0 0)), .int .i64 (wrap64 (t138)), .string (t142.extract 0 (t141 : Int).toNat)] 29 (0, 0)) (by (with_reducible repeat (first | refine blk_drewN ?_ _ | refine blk_drew ?_ | refine blk_alloc ?_ _)); refine blk_put (cs := #[.int .i64 (wrap64 (bt a0 0)), .int .i64 (wrap64 (t138)), .string (⟨#[]⟩ : ByteArray)]) ?_ 2 _ rfl; (with_reducible repeat (first | refine blk_drewN ?_ _ | refine blk_drew ?_ | refine blk_alloc ?_ _)); refine blk_put (cs := #[.int .i64 (wrap64 (bt a0 0)), .int .i64 0, .string (⟨#[]⟩ : ByteArray)]) ?_ 1 _ rfl; (with_reducible repeat (first | refine blk_drewN ?_ _ | refine blk_drew ?_ | refine blk_alloc ?_ _)); refine blk_put (cs := #[.int .i64 0, .int .i64 0, .string (⟨#[]⟩ : ByteArray)]) ?_ 0 _ rfl; (with_reducible repeat (first | refine blk_drewN ?_ _ | refine blk_drew ?_ | refine blk_alloc ?_ _)); exact BK144.out) hb); have n2_ := Aside0.mk (below_step (by repeat (first | (with_reducible first | exact HB.out | apply below_alloc | apply pw_below_drewN | apply below_drew1 | refine below_set ?_ GE136.out | refine below_set ?_ GE144.out) | exact HB.out)) hb); clear BK136; clear BK144; clear HB; have BK136 := n0_; have BK144 := n1_; have HB := n2_; clear n0_ n1_ n2_; (try clear hb); (try clear hb2); (try clear hk); (try clear hi); have hcz54_0 : w53.cell? ⟨gb136, 0, none⟩ = some (.int .i64 0) := (blk_cell BK136.out 0).trans rfl; have hcz54_1 : w53.cell? ⟨gb136, 1, none⟩ = some (.int .i64 0) := (blk_cell BK136.out 1).trans rfl; have hcz54_2 : w53.cell? ⟨gb136, 2, none⟩ = some (.string (⟨#[]⟩ : ByteArray)) := (blk_cell BK136.out 2).trans rfl; have hfz54_0 := blk_frozen BK136.out 0; have hfz54_1 := blk_frozen BK136.out 1; have hfz54_2 := blk_frozen BK136.out 2))
                            refine bodyPost_ret (results_ctt rfl _ _ gb136 29 #[.int .i64 0, .int .i64 0, .string (⟨#[]⟩ : ByteArray)] (0, 0) _ rfl (by (with_reducible repeat (first | refine blk_drewN ?_ _ | refine blk_drew ?_ | refine blk_alloc ?_ _)); refine blk_put (cs := #[.int .i64 0, .int .i64 0, .string (⟨#[]⟩ : ByteArray)]) ?_ 2 _ rfl; (with_reducible repeat (first | refine blk_drewN ?_ _ | refine blk_drew ?_ | refine blk_alloc ?_ _)); refine blk_put (cs := #[.int .i64 0, .int .i64 0, .string (⟨#[]⟩ : ByteArray)]) ?_ 1 _ rfl; (with_reducible repeat (first | refine blk_drewN ?_ _ | refine blk_drew ?_ | refine blk_alloc ?_ _)); refine blk_put (cs := #[.int .i64 0, .int .i64 0, .string (⟨#[]⟩ : ByteArray)]) ?_ 0 _ rfl; (with_reducible repeat (first | refine blk_drewN ?_ _ | refine blk_drew ?_ | refine blk_alloc ?_ _)); exact BK136.out) Tryd.underlying29 rfl (by kernel_rfl)) rfl ?_
                            exact ⟨by first | rfl | (simp [errW_none, errW_some] <;> rfl) | (simp only [← hji3, ← hji4]; first | rfl | (simp [errW_none, errW_some] <;> rfl)) | (simp [*, errW_none, errW_some] <;> rfl), by repeat (first | (with_reducible first | exact HB.out | apply below_alloc | apply pw_below_drewN | apply below_drew1 | refine below_set ?_ GE136.out | refine below_set ?_ GE144.out) | exact HB.out)⟩
                        · rw [if_neg c28] at H
                          have c28b0 : ((bt t142 t141) == 206) = false := beq_eq_false_iff_ne.mpr c28
                          have c28b1 : ((bt t142 t141) != 206) = true := bne_iff_ne.mpr c28
                          simp only [Option.some.injEq, Prod.mk.injEq] at H
                          obtain ⟨rfl, rfl, rfl, rfl, rfl⟩ := H
                          try go_wp2_with (first | ((with_reducible refine gate_callee (f := 27) rfl ?_); refine goesL_ (some 35) rfl rfl Tryd.func27 (by kernel_rfl) rfl #[.string (a0.extract 1 a0.size), .int .i64 2] rfl (by (try simp only [List.map_toArray, List.map_cons, List.map_nil]); first | done | rfl | (simp only [List.length_drop, List.length_take]; rfl)) ?_; (with_reducible refine (num_Take.calls kj4 (a0.extract 1 a0.size) 2 t138 t139 t140 _ ?lg A16.out).mono ?_); (case lg => exact (HG.out.below (by repeat (first | (with_reducible first | exact HB.out | apply below_alloc | apply pw_below_drewN | apply below_drew1 | refine below_set ?_ GE136.out) | exact HB.out)))); rintro e w' ⟨rfl, ⟨nd, rfl⟩⟩; refine ⟨_, rfl, ?_⟩; (try (rw [drewN_self wc]; generalize hq_ : World.drewN wc _ = wc; have n0_ : Aside0 (wc.heap[gb136]? = some (.cells #[.int .i64 0, .int .i64 0, .string (⟨#[]⟩ : ByteArray)] 29 (0, 0))) := ⟨by rw [← hq_]; exact (by (with_reducible repeat (first | refine blk_drewN ?_ _ | refine blk_drew ?_ | refine blk_alloc ?_ _)); exact BK136.out)⟩; have n1_ : Aside0 (Below w.heap.size w wc) := ⟨by rw [← hq_]; exact (by repeat (first | (with_reducible first | exact HB.out | apply below_alloc | apply pw_below_drewN | apply below_drew1 | refine below_set ?_ GE136.out) | exact HB.out))⟩; clear BK136 HB hq_; have BK136 := n0_; have HB := n1_; clear n0_ n1_))) | ((with_reducible refine gate_callee (f := 27) rfl ?_); refine goesL_ (some 41) rfl rfl Tryd.func27 (by kernel_rfl) rfl #[.string t139, .int .i64 4] rfl (by (try simp only [List.map_toArray, List.map_cons, List.map_nil]); first | done | rfl | (simp only [List.length_drop, List.length_take]; rfl)) ?_; (with_reducible refine (num_Take.calls kj4 t139 4 t141 t142 t143 _ ?lg A17.out).mono ?_); (case lg => exact (HG.out.below (by repeat (first | (with_reducible first | exact HB.out | apply below_alloc | apply pw_below_drewN | apply below_drew1 | refine below_set ?_ GE136.out) | exact HB.out)))); rintro e w' ⟨rfl, ⟨nd, rfl⟩⟩; refine ⟨_, rfl, ?_⟩; (try (rw [drewN_self wc]; generalize hq_ : World.drewN wc _ = wc; have n0_ : Aside0 (wc.heap[gb136]? = some (.cells #[.int .i64 0, .int .i64 0, .string (⟨#[]⟩ : ByteArray)] 29 (0, 0))) := ⟨by rw [← hq_]; exact (by (with_reducible repeat (first | refine blk_drewN ?_ _ | refine blk_drew ?_ | refine blk_alloc ?_ _)); exact BK136.out)⟩; have n1_ : Aside0 (Below w.heap.size w wc) := ⟨by rw [← hq_]; exact (by repeat (first | (with_reducible first | exact HB.out | apply below_alloc | apply pw_below_drewN | apply below_drew1 | refine below_set ?_ GE136.out) | exact HB.out))⟩; clear BK136 HB hq_; have BK136 := n0_; have HB := n1_; clear n0_ n1_))))
                          have n0_ := Aside0.mk (blk_drew BK136.out)
                          have n1_ := Aside0.mk (below_drew1 HB.out)
                          clear BK136
                          clear HB
                          have BK136 := n0_
                          have HB := n1_
                          clear n0_ n1_
                          have p23 : 0 ≤ (0 : Int) := (by omega)
                          have q23 : 0 < a0.size := (by have : (0 : Int) < (a0.size : Int) := of_decide_eq_true (by first | (with_reducible assumption) | assumption); omega)
                          have hx23 : ∀ h : 0 < a0.size, ((a0[0]'h).toNat : Int) = bt a0 0 := bt_at a0 0
                          clear p23
                          have qi23 : (0 < (a0.size : Int)) = True := eq_true (of_decide_eq_true (by first | (with_reducible assumption) | assumption))
                          replace q23 := eq_true q23
                          refine start_ (n := 11) (S := fun w' => True) (ds := []) #[false, false, false, false, false, false, false, false, false, false, false] (by kernel_rfl) rfl rfl trivial (fun hHeld => ?_); refine with_tabW frame_Take.tab12 frame_Take.bits12 (fun HT_ HW_ => ?_)
                          generalize wc.drew = w55 at BK136 HB hHeld ⊢
                          refine pure_ (i := 0) (N := some 59) (v := ?_) (a' := ?_) #[true, false, false, false, false, false, false, false, false, false, false] rfl rfl (any_of HT_.out (by kernel_rfl)) (fun _ _ _ h => h) (Or.inl ⟨by rfl, ?_⟩) ?_ ?_
                          rotate_left
                          · intro w'
                            go_simp
                            with_reducible rfl
                          rotate_left
                          · simp only [Act.put, List.setIfInBounds_toArray, List.set_cons_zero, List.set_cons_succ, i64_w, i32_w]
                            rfl
                          refine pure_ (i := 3) (N := some 62) (v := ?_) (a' := ?_) #[true, false, false, true, false, false, false, false, false, false, false] rfl rfl (any_of HT_.out (by kernel_rfl)) (fun _ _ _ h => h) (Or.inl ⟨by rfl, ?_⟩) ?_ ?_
                          rotate_left
                          · intro w'
                            go_simp
                            with_reducible rfl
                          rotate_left
                          · simp only [Act.put, List.setIfInBounds_toArray, List.set_cons_zero, List.set_cons_succ, i64_w, i32_w]
                            rfl
                          refine pure_ (i := 4) (N := some 63) (v := ?_) (a' := ?_) #[true, false, false, true, true, false, false, false, false, false, false] rfl rfl (any_of HT_.out (by kernel_rfl)) (fun _ _ _ h => h) (Or.inl ⟨by rfl, ?_⟩) ?_ ?_
                          rotate_left
                          · intro w'
                            go_simp
                            with_reducible rfl
                          rotate_left
                          · simp only [Act.put, List.setIfInBounds_toArray, List.set_cons_zero, List.set_cons_succ, i64_w, i32_w]
                            rfl
                          refine pure_ (i := 5) (N := some 64) (v := ?_) (a' := ?_) #[true, false, false, true, true, true, false, false, false, false, false] rfl rfl (any_of HT_.out (by kernel_rfl)) (fun _ _ _ h => h) (Or.inl ⟨by rfl, ?_⟩) ?_ ?_
                          rotate_left
                          · intro w'
                            go_simp
                            with_reducible rfl
                          rotate_left
                          · simp only [Act.put, List.setIfInBounds_toArray, List.set_cons_zero, List.set_cons_succ, i64_w, i32_w]
                            rfl
                          refine pure_ (i := 6) (N := some 65) (v := ?_) (a' := ?_) #[true, false, false, true, true, true, true, false, false, false, false] rfl rfl (any_of HT_.out (by kernel_rfl)) (fun _ _ _ h => h) (Or.inl ⟨by rfl, ?_⟩) ?_ ?_
                          rotate_left
                          · intro w'
                            go_simp
                            with_reducible rfl
                          rotate_left
                          · simp only [Act.put, List.setIfInBounds_toArray, List.set_cons_zero, List.set_cons_succ, i64_w, i32_w]
                            rfl
                          refine pure_ (i := 7) (N := some 66) (v := ?_) (a' := ?_) #[true, false, false, true, true, true, true, true, false, false, false] rfl rfl (any_of HT_.out (by kernel_rfl)) (fun _ _ _ h => h) (Or.inl ⟨by rfl, ?_⟩) ?_ ?_
                          rotate_left
                          · intro w'
                            go_simp
                            with_reducible rfl
                          rotate_left
                          · simp only [Act.put, List.setIfInBounds_toArray, List.set_cons_zero, List.set_cons_succ, i64_w, i32_w]
                            rfl
                          refine take_ (i := 1) (N := some 60) (v := ?_) (a' := ?_) #[true, true, false, true, true, true, true, true, false, false, false] rfl rfl (take_ofW HT_.out HW_.out (by kernel_rfl)) (fun _ _ _ h => h) (Or.inl ⟨by rfl, ?_⟩) hHeld ?_ ?_
                          rotate_left
                          · intro w' _
                            go_simp
                            with_reducible rfl
                          rotate_left
                          · simp only [Act.put, List.setIfInBounds_toArray, List.set_cons_zero, List.set_cons_succ, i64_w, i32_w]
                            rfl
                          refine pure_ (i := 2) (N := some 61) (v := ?_) (a' := ?_) #[true, true, true, true, true, true, true, true, false, false, false] rfl rfl (any_of HT_.out (by kernel_rfl)) (fun _ _ _ h => h) (Or.inl ⟨by rfl, ?_⟩) ?_ ?_
                          rotate_left
                          · intro w'
                            go_simp
                            with_reducible rfl
                          rotate_left
                          · simp only [Act.put, List.setIfInBounds_toArray, List.set_cons_zero, List.set_cons_succ, i64_w, i32_w]
                            rfl
                          refine pure_ (i := 8) (N := some 67) (v := ?_) (a' := ?_) #[true, true, true, true, true, true, true, true, true, false, false] rfl rfl (any_of HT_.out (by kernel_rfl)) (fun _ _ _ h => h) (Or.inl ⟨by rfl, ?_⟩) ?_ ?_
                          rotate_left
                          · intro w'
                            go_simp
                            with_reducible rfl
                          rotate_left
                          · simp only [Act.put, List.setIfInBounds_toArray, List.set_cons_zero, List.set_cons_succ, i64_w, i32_w]
                            rfl
                          refine one_ (i := 9) (N := some 12) #[true, true, true, true, true, true, true, true, true, true, false] rfl rfl (one_of HT_.out (by kernel_rfl)) (by decide) (fun K hK => ?_)
                          refine box_step ?hg (N := 12) ?hd (cs := #[.int .i64 0, .int .i64 0, .string (⟨#[]⟩ : ByteArray)]) (t := 29) ?hr ?_; (case hd => rfl); (case hg => rfl); (case hr => first | (go_simp; done) | (go_simp; rfl))
                          intro gb144 hg w56 hbox hb
                          have n0_ := Aside0.mk (blk_below (g := gb136) (o := .cells #[.int .i64 0, .int .i64 0, .string (⟨#[]⟩ : ByteArray)] 29 (0, 0)) (by (with_reducible repeat (first | refine blk_drewN ?_ _ | refine blk_drew ?_ | refine blk_alloc ?_ _)); exact BK136.out) hb)
                          have n1_ := Aside0.mk (below_step (by repeat (first | (with_reducible first | exact HB.out | apply below_alloc | apply pw_below_drewN | apply below_drew1 | refine below_set ?_ GE136.out) | exact HB.out)) hb)
                          have n2_ := Aside0.mk (hbox)
                          have n3_ := Aside0.mk ((by rw [hg]; exact (below_size (by repeat (first | (with_reducible first | exact HB.out | apply below_alloc | apply pw_below_drewN | apply below_drew1 | refine below_set ?_ GE136.out) | exact HB.out))) : w.heap.size ≤ gb144))
                          have n4_ := Aside0.mk ((by rw [hg]; exact (below_size (by repeat (first | (with_reducible first | exact HB.out | apply below_alloc | apply pw_below_drewN | apply below_drew1 | refine below_set ?_ GE136.out) | exact HB.out))) : w.heap.size ≤ gb144))
                          have n5_ := Aside0.mk ((by rw [hg]; exact Nat.ne_of_lt (blk_lt (g := gb136) (o := .cells #[.int .i64 0, .int .i64 0, .string (⟨#[]⟩ : ByteArray)] 29 (0, 0)) (by (with_reducible repeat (first | refine blk_drewN ?_ _ | refine blk_drew ?_ | refine blk_alloc ?_ _)); exact BK136.out)) : gb136 ≠ gb144))
                          have n6_ := Aside0.mk ((by rw [hg]; exact Nat.ne_of_gt (blk_lt (g := gb136) (o := .cells #[.int .i64 0, .int .i64 0, .string (⟨#[]⟩ : ByteArray)] 29 (0, 0)) (by (with_reducible repeat (first | refine blk_drewN ?_ _ | refine blk_drew ?_ | refine blk_alloc ?_ _)); exact BK136.out)) : gb144 ≠ gb136))
                          clear BK136
                          clear HB
                          have BK136 := n0_
                          have HB := n1_
                          have BK144 := n2_
                          have GW144 := n3_
                          have GE144 := n4_
                          have NB136_144 := n5_
                          have NB144_136 := n6_
                          clear n0_ n1_ n2_ n3_ n4_ n5_ n6_
                          clear hb hbox hg
                          refine hK.out _ _ trivial (fun hHeld => ?_)
                          clear hK K
                          refine norm_ (a' := ?_) ?_ ?_
                          rotate_left
                          · show Act.put _ (some 12) _ = _
                            simp only [Act.put, List.setIfInBounds_toArray, List.set_cons_zero, List.set_cons_succ, i64_w, i32_w]
                            rfl
                          refine one_ (i := 10) (N := none) #[true, true, true, true, true, true, true, true, true, true, true] rfl rfl (one_of HT_.out (by kernel_rfl)) (by decide) (fun K hK => ?_)
                          have hs57 : w56.cell? ⟨gb144, 0, none⟩ = some (.int .i64 0) := (blk_cell BK144.out 0).trans rfl
                          have hfs57 := blk_frozen BK144.out 0
                          have hns57_0 := NB136_144.out
                          have hms57_0 := NB144_136.out
                          have hs58 : w56.cell? ⟨gb144, 1, none⟩ = some (.int .i64 0) := (blk_cell BK144.out 1).trans rfl
                          have hfs58 := blk_frozen BK144.out 1
                          have hns58_0 := NB136_144.out
                          have hms58_0 := NB144_136.out
                          have hs59 : w56.cell? ⟨gb144, 2, none⟩ = some (.string (⟨#[]⟩ : ByteArray)) := (blk_cell BK144.out 2).trans rfl
                          have hfs59 := blk_frozen BK144.out 2
                          have hns59_0 := NB136_144.out
                          have hms59_0 := NB144_136.out
                          refine skip_ (w1 := ?_) (by rfl) rfl ?_ ?_
                          rotate_left
                          · go_simp
                            rfl
                          refine hK.out _ _ trivial (fun hHeld => ?_)
                          clear hK K
                          refine done_ (done_of HT_.out (by kernel_rfl)) ?_
                          have p27 : 0 ≤ (t141 : Int) := of_decide_eq_true (by first | (with_reducible assumption) | assumption)
                          have q27 : t141 < (t142.size : Int) := of_decide_eq_true (by first | (with_reducible assumption) | assumption)
                          have hx27 := bt_at t142 t141
                          replace p27 := eq_true p27
                          replace q27 := eq_true q27
                          have hnb60 := NB136_144.out
                          have hnc60 := NB144_136.out
                          have hcz61_0 : w56.cell? ⟨gb136, 0, none⟩ = some (.int .i64 0) := (blk_cell BK136.out 0).trans rfl
                          have hcz61_1 : w56.cell? ⟨gb136, 1, none⟩ = some (.int .i64 0) := (blk_cell BK136.out 1).trans rfl
                          have hcz61_2 : w56.cell? ⟨gb136, 2, none⟩ = some (.string (⟨#[]⟩ : ByteArray)) := (blk_cell BK136.out 2).trans rfl
                          have hfz61_0 := blk_frozen BK136.out 0
                          have hfz61_1 := blk_frozen BK136.out 1
                          have hfz61_2 := blk_frozen BK136.out 2
                          try go_wp2
                          refine bodyPost_ret (results_ctt rfl _ _ gb136 29 #[.int .i64 0, .int .i64 0, .string (⟨#[]⟩ : ByteArray)] (0, 0) _ rfl (by (with_reducible repeat (first | refine blk_drewN ?_ _ | refine blk_drew ?_ | refine blk_alloc ?_ _)); refine blk_put (cs := #[.int .i64 0, .int .i64 0, .string (⟨#[]⟩ : ByteArray)]) ?_ 2 _ rfl; (with_reducible repeat (first | refine blk_drewN ?_ _ | refine blk_drew ?_ | refine blk_alloc ?_ _)); refine blk_put (cs := #[.int .i64 0, .int .i64 0, .string (⟨#[]⟩ : ByteArray)]) ?_ 1 _ rfl; (with_reducible repeat (first | refine blk_drewN ?_ _ | refine blk_drew ?_ | refine blk_alloc ?_ _)); refine blk_put (cs := #[.int .i64 0, .int .i64 0, .string (⟨#[]⟩ : ByteArray)]) ?_ 0 _ rfl; (with_reducible repeat (first | refine blk_drewN ?_ _ | refine blk_drew ?_ | refine blk_alloc ?_ _)); refine blk_far ?_ NB136_144.out _; (with_reducible repeat (first | refine blk_drewN ?_ _ | refine blk_drew ?_ | refine blk_alloc ?_ _)); refine blk_far ?_ NB136_144.out _; (with_reducible repeat (first | refine blk_drewN ?_ _ | refine blk_drew ?_ | refine blk_alloc ?_ _)); refine blk_far ?_ NB136_144.out _; (with_reducible repeat (first | refine blk_drewN ?_ _ | refine blk_drew ?_ | refine blk_alloc ?_ _)); exact BK136.out) Tryd.underlying29 rfl (by kernel_rfl)) rfl ?_
                          exact ⟨by first | rfl | (simp [errW_none, errW_some] <;> rfl) | (simp only [← hji3, ← hji4]; first | rfl | (simp [errW_none, errW_some] <;> rfl)) | (simp [*, errW_none, errW_some] <;> rfl), by repeat (first | (with_reducible first | exact HB.out | apply below_alloc | apply pw_below_drewN | apply below_drew1 | refine below_set ?_ GE136.out | refine below_set ?_ GE144.out) | exact HB.out)⟩
                      · rw [if_neg c26] at H
                        exact absurd H (by simp)
                    · rw [if_neg c25] at H
                      exact absurd H (by simp)
                  · rw [if_neg c24] at H
                    exact absurd H (by simp)
                · rw [if_neg c22] at H
                  exact absurd H (by simp)
          · rw [if_neg c15] at H
            exact absurd H (by simp)


end Go.Proofs.YtdalcbhnnfabhaaDoor.F
namespace Go.Proofs.YtdalcbhnnfabhaaDoor.F
open Go.RowKit Go.Proofs.YtdalcbhnnfabhaaDoorW.PrintWords Go.Proofs.YtdalcbhnnfabhaaDoorW.PrintLast Go.Proofs.YtdalcbhnnfabhaaDoorW.PrintMore
set_option linter.unusedVariables false
set_option linter.unusedSimpArgs false

abbrev Took := Int × Int × ByteArray × ByteArray × Int
def errF : Took := (0, 0, ⟨#[]⟩, ⟨#[]⟩, 6)
def errM : Took := (0, 0, ⟨#[]⟩, ⟨#[]⟩, 2)
/-- The most bytes of a frame. -/
def mostN (m : Int) : Nat := if m < 4096 then 4096 else if 131072 < m then 131072 else m.toNat
theorem most_lo (m : Int) : 4096 ≤ mostN m := by unfold mostN; split; · omega
                                                 split <;> omega
theorem most_hi (m : Int) : mostN m ≤ 131072 := by unfold mostN; split; · omega
                                                   split <;> omega
theorem most_eq (m : Int) : mn (mx m 4096) 131072 = (mostN m : Int) := by
  unfold mn mx mostN
  by_cases h : m < 4096
  · rw [if_pos h, if_pos h]; rfl
  · rw [if_neg h, if_neg h]
    split <;> omega
/-- One frame out of bytes, of which none may have more than M. -/
def takeL (M : Nat) (l : List UInt8) : Took :=
  if kindB ((l.headD 1).toNat : Int) = false then errF
  else if l.length < 7 then errM
  else if M < 8 + beNum ((l.drop 3).take 4) then errF
  else if l.length ≤ 7 + beNum ((l.drop 3).take 4) then errM
  else if (l.drop (7 + beNum ((l.drop 3).take 4))).headD 0 = 206 ∧ rightB ((l.headD 1).toNat : Int) (beNum ((l.drop 1).take 2) : Nat) (toBA ((l.drop 7).take (beNum ((l.drop 3).take 4)))) = true then
    (((l.headD 1).toNat : Int), ((beNum ((l.drop 1).take 2) : Nat) : Int), toBA ((l.drop 7).take (beNum ((l.drop 3).take 4))), toBA (l.drop (8 + beNum ((l.drop 3).take 4))), 0)
  else errF
theorem be_small (l : List UInt8) (n : Nat) (h : n ≤ 4) : beNum (l.take n) < 4294967296 := by
  have h1 := beNum_lt (l.take n)
  have h2 : (l.take n).length ≤ 4 := Nat.le_trans (List.length_take_le _ _) h
  exact Nat.lt_of_lt_of_le h1 (Nat.pow_le_pow_right (by decide) h2)
theorem two_small (l : List UInt8) : beNum (l.take 2) < 65536 := by
  have h1 := beNum_lt (l.take 2)
  have h2 : (l.take 2).length ≤ 2 := List.length_take_le _ _
  exact Nat.lt_of_lt_of_le h1 (Nat.le_trans (Nat.pow_le_pow_right (by decide) h2) (by decide))
theorem head_at (s : ByteArray) (h : 0 < s.size) : bt s 0 = ((s.data.toList.headD 1).toNat : Int) := by
  have := bt_get s 0 h
  have e : ((0 : Nat) : Int) = 0 := rfl
  rw [e] at this
  rw [this]
  have hl : 0 < s.data.toList.length := by rw [size_list]; exact h
  have all : ∀ (l : List UInt8) (hl : 0 < l.length), (l[0].toNat : Int) = ((l.headD 1).toNat : Int) := by
    intro l hl
    cases l with
    | nil => simp at hl
    | cons b r => rfl
  exact all _ hl
theorem takeR_two {s : ByteArray} {n : Nat} (hn : isW (n : Int)) (h : n ≤ s.size) : takeR s n = (((beNum (s.data.toList.take n) : Nat) : Int), toBA (s.data.toList.drop n), 0) := by
  unfold takeR
  rw [if_pos hn, if_neg (by omega), Int.toNat_natCast, extract_drop]
theorem byte_lt (b : UInt8) : (b.toNat : Int) < 256 := by have := b.toNat_lt; omega
theorem headD_drop (l : List UInt8) (i : Nat) (h : i < l.length) : (l.drop i).headD 0 = l[i] := by
  rw [List.drop_eq_getElem_cons h]; rfl
set_option maxHeartbeats 1000000 in
theorem takej_k {k : Nat} (hk : 13 ≤ k) (s : ByteArray) (hz : s.size ≤ 4611686018427387904) (m : Int) : frame_Take.j0 k s (mostN m : Int) (!kindB ((s.data.toList.headD 1).toNat : Int)) = some (takeL (mostN m) s.data.toList) := by
  obtain ⟨k, rfl⟩ : ∃ j, k = j + 1 := ⟨k - 1, by omega⟩
  have lo := most_lo m
  have hi := most_hi m
  generalize mostN m = M at lo hi
  unfold takeL
  simp only [frame_Take.j0]
  by_cases hkd : kindB ((s.data.toList.headD 1).toNat : Int) = false
  · rw [if_pos hkd, hkd]; rfl
  rw [if_neg hkd]
  have hkd' := Bool.not_eq_false _ ▸ hkd
  rw [show kindB ((s.data.toList.headD 1).toNat : Int) = true from by simpa using hkd, Bool.not_true, if_neg (by decide), size_list]
  by_cases h7 : s.size < 7
  · rw [if_pos (by omega), if_pos h7]; rfl
  rw [if_neg (by omega), if_neg h7, if_pos (by omega), extract_drop, take_k (by omega), Option.bind_some]
  have e2 := takeR_two (s := toBA (s.data.toList.drop 1)) (n := 2) (by decide) (by rw [toBA_size, List.length_drop, size_list]; omega)
  rw [show (((2 : Nat)) : Int) = 2 from rfl, toBA_list, List.drop_drop] at e2
  rw [e2]
  simp only []
  rw [take_k (by omega), Option.bind_some]
  have e4 := takeR_two (s := toBA (s.data.toList.drop 3)) (n := 4) (by decide) (by rw [toBA_size, List.length_drop, size_list]; omega)
  rw [show (((4 : Nat)) : Int) = 4 from rfl, toBA_list, List.drop_drop] at e4
  rw [e4]
  simp only []
  have hn := be_small (s.data.toList.drop 3) 4 (by decide)
  generalize hN : beNum ((s.data.toList.drop 3).take 4) = n at hn
  have hc := two_small (s.data.toList.drop 1)
  generalize hC : beNum ((s.data.toList.drop 1).take 2) = c at hc
  have hw1 : IntKind.u64.wrap (wrap64 ((M : Int) - 8)) = (M : Int) - 8 := by rw [wrap64_of (by omega) (by omega), wrapU (by omega) (by omega)]
  rw [hw1]
  by_cases hM : M < 8 + n
  · rw [if_pos (by omega), if_pos hM]; rfl
  rw [if_neg (by omega), if_neg hM]
  have hs : (toBA (s.data.toList.drop (3 + 4))).size = s.size - 7 := by rw [toBA_size, List.length_drop, size_list]
  rw [hs]
  by_cases hl : s.size ≤ 7 + n
  · rw [if_pos, if_pos hl]
    · rfl
    · rw [wrapU (by omega) (by omega)]; omega
  rw [if_neg hl, if_neg (by rw [wrapU (by omega) (by omega)]; omega), if_pos (by omega), if_pos (by omega), if_pos (by omega), if_pos (by omega), head_at s (by omega)]
  have hb : (bt (toBA (s.data.toList.drop (3 + 4))) (n : Int) = 206) ↔ (s.data.toList.drop (7 + n)).headD 0 = 206 := by
    rw [bt_get _ n (by rw [hs]; omega), headD_drop _ _ (by rw [size_list]; omega)]
    simp only [toBA_list, List.getElem_drop]
    rw [← UInt8.toNat_inj]
    have e206 : (206 : UInt8).toNat = 206 := rfl
    simp only [show 3 + 4 + n = 7 + n by omega, e206]
    omega
  have hwb := byte_lt (s.data.toList.headD 1)
  have hw1' : wrap64 (((s.data.toList.headD 1).toNat : Nat) : Int) = (((s.data.toList.headD 1).toNat : Nat) : Int) := wrap64_of (by omega) (by omega)
  have hw2 : wrap64 ((c : Nat) : Int) = ((c : Nat) : Int) := wrap64_of (by omega) (by omega)
  have hd : (toBA (s.data.toList.drop (3 + 4))).extract 0 ((n : Int)).toNat = toBA ((s.data.toList.drop 7).take n) := by rw [extract_take, toBA_list, Int.toNat_natCast]
  have hw3 : IntKind.u64.wrap ((n : Int) + 1) = ((n + 1 : Nat) : Int) := by rw [wrapU (by omega) (by omega)]; omega
  have he : (toBA (s.data.toList.drop (3 + 4))).extract (n + 1) (s.size - 7) = toBA (s.data.toList.drop (8 + n)) := by
    rw [← hs, extract_drop, toBA_list, List.drop_drop]
    congr 2; omega
  rw [hw1', hw2, hd, hw3, Int.toNat_natCast, he, right_k (by omega), Option.bind_some]
  by_cases h206 : (s.data.toList.drop (7 + n)).headD 0 = 206
  · rw [if_pos (hb.2 h206)]
    by_cases hr : rightB ((s.data.toList.headD 1).toNat : Int) (c : Int) (toBA ((s.data.toList.drop 7).take n)) = true
    · rw [if_pos hr, if_pos (by omega), if_pos (by omega), if_pos ⟨h206, hr⟩]
    · rw [if_neg hr, if_neg (fun h => hr h.2)]; rfl
  · rw [if_neg (fun h => h206 (hb.1 h)), if_neg (fun h => h206 h.1)]; rfl
theorem ftake_k {k : Nat} (hk : 13 ≤ k) (s : ByteArray) (hz : s.size ≤ 4611686018427387904) (m : Int) : frame_Take.f k s m = some (takeL (mostN m) s.data.toList) := by
  unfold frame_Take.f
  rw [most_eq]
  have hj := takej_k hk s hz m
  by_cases h0 : s.toList = ([] : List UInt8)
  · rw [if_pos h0]
    have e : s.data.toList = [] := by rw [← toList_data]; exact h0
    rw [e] at hj ⊢
    exact hj
  · rw [if_neg h0]
    have hp : 0 < s.size := by
      have : ¬ s.size = 0 := fun h => h0 ((nil_size s).2 h)
      omega
    rw [if_pos (by omega), head_at s hp]
    have hwb := byte_lt (s.data.toList.headD 1)
    rw [wrap64_of (x := (((s.data.toList.headD 1).toNat : Nat) : Int)) (by omega) (by omega), frame_kind.f, Option.bind_some]
    exact hj
end Go.Proofs.YtdalcbhnnfabhaaDoor.F
namespace Go.Proofs.YtdalcbhnnfabhaaDoor.F
open Go.RowKit Go.Proofs.YtdalcbhnnfabhaaDoorW.PrintWords Go.Proofs.YtdalcbhnnfabhaaDoorW.PrintLast Go.Proofs.YtdalcbhnnfabhaaDoorW.PrintMore
set_option linter.unusedVariables false
set_option linter.unusedSimpArgs false

theorem be_one (b : UInt8) : be 1 b.toNat = [b] := by
  have := be_beNum [b]
  simpa [beNum] using this
theorem beNum_one (b : UInt8) : beNum [b] = b.toNat := by simp [beNum]
theorem split_at (l : List UInt8) (n : Nat) (h : 7 + n < l.length) :
    l = [l.headD 1] ++ (l.drop 1).take 2 ++ (l.drop 3).take 4 ++ (l.drop 7).take n ++ [(l.drop (7 + n)).headD 0] ++ l.drop (8 + n) := by
  have e1 : l = [l.headD 1] ++ l.drop 1 := by
    cases l with
    | nil => simp at h
    | cons b r => rfl
  have e2 : l.drop 1 = (l.drop 1).take 2 ++ l.drop 3 := by
    conv => lhs; rw [← List.take_append_drop 2 (l.drop 1), List.drop_drop]
  have e3 : l.drop 3 = (l.drop 3).take 4 ++ l.drop 7 := by
    conv => lhs; rw [← List.take_append_drop 4 (l.drop 3), List.drop_drop]
  have e4 : l.drop 7 = (l.drop 7).take n ++ l.drop (7 + n) := by
    conv => lhs; rw [← List.take_append_drop n (l.drop 7), List.drop_drop]
  have e5 : l.drop (7 + n) = [(l.drop (7 + n)).headD 0] ++ l.drop (8 + n) := by
    rw [headD_drop l _ h]
    conv => lhs; rw [List.drop_eq_getElem_cons h]
    rw [show 7 + n + 1 = 8 + n by omega]
    rfl
  conv => lhs; rw [e1, e2, e3, e4, e5]
  simp only [List.append_assoc]
theorem take_ok {M : Nat} {l : List UInt8} (h : (takeL M l).2.2.2.2 = 0) :
    rightB (takeL M l).1 (takeL M l).2.1 (takeL M l).2.2.1 = true ∧ bytesL (takeL M l).1 (takeL M l).2.1 (takeL M l).2.2.1 ++ (takeL M l).2.2.2.1.data.toList = l ∧ (takeL M l).2.2.1.size + 8 ≤ M := by
  unfold takeL at h ⊢
  split at h
  · exact absurd h (by decide)
  split at h
  · exact absurd h (by decide)
  split at h
  · exact absurd h (by decide)
  split at h
  · exact absurd h (by decide)
  split at h
  rotate_left
  · exact absurd h (by decide)
  rename_i h1 h2 h3 h4 h5
  rw [if_neg h1, if_neg h2, if_neg h3, if_neg h4, if_pos h5]
  simp only []
  have hs := split_at l (beNum ((l.drop 3).take 4)) (by omega)
  generalize hN : beNum ((l.drop 3).take 4) = n at *
  have hl : ((l.drop 7).take n).length = n := by rw [List.length_take, List.length_drop]; omega
  refine ⟨h5.2, ?_, ?_⟩
  · have e1 : be 1 (((l.headD 1).toNat : Int)).toNat = [l.headD 1] := by rw [Int.toNat_natCast, be_one]
    have e2 : be 2 (((beNum ((l.drop 1).take 2) : Nat) : Int)).toNat = (l.drop 1).take 2 := by
      have := be_beNum ((l.drop 1).take 2)
      rw [show ((l.drop 1).take 2).length = 2 by rw [List.length_take, List.length_drop]; omega] at this
      rw [Int.toNat_natCast, this]
    have e3 : be 4 (toBA ((l.drop 7).take n)).size = (l.drop 3).take 4 := by
      have := be_beNum ((l.drop 3).take 4)
      rw [show ((l.drop 3).take 4).length = 4 by rw [List.length_take, List.length_drop]; omega, hN] at this
      rw [toBA_size, hl, this]
    rw [bytesL, e1, e2, e3, toBA_list, toBA_list]
    rw [h5.1] at hs
    exact hs.symm
  · rw [toBA_size, hl]; omega
theorem take_bytes {M : Nat} {ty ch : Int} {d : ByteArray} (hr : rightB ty ch d = true) (hM : d.size + 8 ≤ M) (t : List UInt8) : takeL M (bytesL ty ch d ++ t) = (ty, ch, d, toBA t, 0) := by
  have hs := right_size hr
  obtain ⟨c0, c1⟩ := right_chan hr
  have ht := kind_cases (right_kind hr)
  have t0 : 0 ≤ ty ∧ ty < 256 := by omega
  have s1 := be_length 1 ty.toNat
  have s2 := be_length 2 ch.toNat
  have s4 := be_length 4 d.size
  have b1 := beNum_be 1 ty.toNat (by omega)
  have b2 := beNum_be 2 ch.toNat (by omega)
  have b4 := beNum_be 4 d.size (by omega)
  have sd := size_list d
  have hd : toBA d.data.toList = d := (toBA_of d).symm
  unfold bytesL
  generalize be 1 ty.toNat = l1 at *
  generalize be 2 ch.toNat = l2 at *
  generalize be 4 d.size = l4 at *
  obtain ⟨x, rfl⟩ : ∃ x, l1 = [x] := List.length_eq_one_iff.1 s1
  rw [beNum_one] at b1
  have q1 : ((([x] ++ l2 ++ l4 ++ d.data.toList ++ [206] ++ t).headD 1).toNat : Int) = ty := by
    show (x.toNat : Int) = ty
    omega
  have hlen : ([x] ++ l2 ++ l4 ++ d.data.toList ++ [206] ++ t).length = d.size + 8 + t.length := by
    simp only [List.length_append, List.length_cons, List.length_nil, s2, s4, sd]; omega
  have q2 : ((([x] ++ l2 ++ l4 ++ d.data.toList ++ [206] ++ t).drop 1).take 2) = l2 := by
    simp only [List.append_assoc, List.cons_append, List.nil_append, List.drop_succ_cons, List.drop_zero]
    rw [List.take_append_of_le_length (by omega), List.take_of_length_le (by omega)]
  have q4 : ((([x] ++ l2 ++ l4 ++ d.data.toList ++ [206] ++ t).drop 3).take 4) = l4 := by
    simp only [List.append_assoc, List.cons_append, List.nil_append, List.drop_succ_cons]
    rw [List.drop_append_of_le_length (by omega), List.drop_of_length_le (by omega), List.nil_append, List.take_append_of_le_length (by omega), List.take_of_length_le (by omega)]
  have q7 : ([x] ++ l2 ++ l4 ++ d.data.toList ++ [206] ++ t).drop 7 = d.data.toList ++ ([206] ++ t) := by
    have : ([x] ++ l2 ++ l4 ++ d.data.toList ++ [206] ++ t) = ([x] ++ l2 ++ l4) ++ (d.data.toList ++ ([206] ++ t)) := by simp only [List.append_assoc]
    rw [this, List.drop_append_of_le_length (by simp only [List.length_append, List.length_cons, List.length_nil]; omega), List.drop_of_length_le (by simp only [List.length_append, List.length_cons, List.length_nil]; omega), List.nil_append]
  have qn : ([x] ++ l2 ++ l4 ++ d.data.toList ++ [206] ++ t).drop (7 + d.size) = [206] ++ t := by
    rw [← List.drop_drop, q7, List.drop_append_of_le_length (by omega), List.drop_of_length_le (by omega), List.nil_append]
  have q8 : ([x] ++ l2 ++ l4 ++ d.data.toList ++ [206] ++ t).drop (8 + d.size) = t := by
    rw [show 8 + d.size = (7 + d.size) + 1 by omega, ← List.drop_drop, qn]
    rfl
  have ec : ((ch.toNat : Nat) : Int) = ch := by omega
  unfold takeL
  rw [q1, q2, q4, b4, b2, hlen, q7, qn, q8, ec, List.take_append_of_le_length (by omega), List.take_of_length_le (by omega), hd, right_kind hr, if_neg (by decide), if_neg (by omega), if_neg (by omega), if_neg (by omega), if_pos ⟨rfl, hr⟩]
theorem take_bad {M : Nat} {l : List UInt8} (hM : 4096 ≤ M) (h : (takeL M l).2.2.2.2 ≠ 0) : takeL M l = errF ∨ takeL M l = errM ∧ l.length < M := by
  unfold takeL at h ⊢
  split
  · exact .inl rfl
  split
  · exact .inr ⟨rfl, by omega⟩
  split
  · exact .inl rfl
  split
  · exact .inr ⟨rfl, by omega⟩
  split
  · rename_i h1 h2 h3 h4 h5
    rw [if_neg h1, if_neg h2, if_neg h3, if_neg h4, if_pos h5] at h
    exact absurd rfl h
  · exact .inl rfl
end Go.Proofs.YtdalcbhnnfabhaaDoor.F
namespace Go.Proofs.YtdalcbhnnfabhaaDoor.F
open Go.RowKit Go.Proofs.YtdalcbhnnfabhaaDoorW.PrintWords Go.Proofs.YtdalcbhnnfabhaaDoorW.PrintLast Go.Proofs.YtdalcbhnnfabhaaDoorW.PrintMore
set_option linter.unusedVariables false
set_option linter.unusedSimpArgs false

theorem frames_calls (s : ByteArray) (most : Int) (fv : Fn) (b1 b2 : Array Value) (w : World) :
    Calls Tryd.prog 29 #[.string s, .int .i64 most, .func fv b1 b2] w fun e w' =>
      e = .returned (.func (.func 34) #[] #[.pointer (some ⟨w.heap.size, 0, none⟩), .pointer (some ⟨w.heap.size + 1, 0, none⟩), .pointer (some ⟨w.heap.size + 2, 0, none⟩)]) ∧
      w' = ((w.alloc (.cells #[.string s] 9)).alloc (.cells #[.int .i64 most] 3)).alloc (.cells #[.func fv b1 b2] 57) := by
  go_enter Tryd.func29, Tryd.ntmps29
  go_wp2
  go_ret
  exact ⟨by simp, rfl⟩
theorem splitEnd_calls (s : ByteArray) (e : Int) (B7 B8 : Nat) (v7 v8 : Value) (w : World) (h7 : Boxed w B7 9 v7) (h8 : Boxed w B8 24 v8) :
    Calls Tryd.prog 28 #[.string s, .int .i64 e, .pointer (some ⟨B7, 0, none⟩), .pointer (some ⟨B8, 0, none⟩)] w fun en w' => (∃ v, en = .returned v) ∧
      w' = if e = 2 then w.setCell ⟨B7, 0, none⟩ (.string s) else w.setCell ⟨B8, 0, none⟩ (.int .i64 e) := by
  have c7 := h7.cell
  have c8 := h8.cell
  have f7 := h7.frozen
  have f8 := h8.frozen
  go_enter Tryd.func28, Tryd.ntmps28
  by_cases he : e = 2
  · subst he
    go_wp2
    go_end0
    exact ⟨⟨_, rfl⟩, rfl⟩
  · have he' : (e == 2) = false := by simp [he]
    go_wp2
    go_end0
    exact ⟨⟨_, rfl⟩, rfl⟩

/-! ### what is split, by definition -/
abbrev Splitted := List S29 × ByteArray × Int
def toF (t : Took) : S29 := ⟨t.1, t.2.1, t.2.2.1⟩
def splitN (M : Nat) : Nat → ByteArray → Splitted
  | 0, _ => ([], ⟨#[]⟩, 0)
  | k + 1, s => let t := takeL M s.data.toList
    if t.2.2.2.2 = 0 then (toF t :: (splitN M k t.2.2.2.1).1, (splitN M k t.2.2.2.1).2) else if t.2.2.2.2 = 2 then ([], s, 0) else ([], ⟨#[]⟩, t.2.2.2.2)
def splitR (M : Nat) (s : ByteArray) : Splitted := splitN M (s.size + 1) s
theorem take_less {M : Nat} {s : ByteArray} (h : (takeL M s.data.toList).2.2.2.2 = 0) : (takeL M s.data.toList).2.2.2.1.size + 8 ≤ s.size := by
  obtain ⟨_, hb, _⟩ := take_ok h
  have hl := congrArg List.length hb
  rw [List.length_append, bytesL_length, size_list, size_list] at hl
  omega
theorem splitN_fuel (M : Nat) : ∀ (k j : Nat) (s : ByteArray), s.size < k → s.size < j → splitN M k s = splitN M j s := by
  intro k
  induction k with
  | zero => intro j s h; omega
  | succ k ih =>
    intro j s hk hj
    obtain ⟨j, rfl⟩ : ∃ i, j = i + 1 := ⟨j - 1, by omega⟩
    simp only [splitN]
    by_cases e : (takeL M s.data.toList).2.2.2.2 = 0
    · have := take_less e
      rw [if_pos e, if_pos e, ih j _ (by omega) (by omega)]
    · rw [if_neg e, if_neg e]
theorem splitN_succ (M k : Nat) (s : ByteArray) : splitN M (k + 1) s = if (takeL M s.data.toList).2.2.2.2 = 0 then (toF (takeL M s.data.toList) :: (splitN M k (takeL M s.data.toList).2.2.2.1).1, (splitN M k (takeL M s.data.toList).2.2.2.1).2)
    else if (takeL M s.data.toList).2.2.2.2 = 2 then ([], s, 0) else ([], ⟨#[]⟩, (takeL M s.data.toList).2.2.2.2) := rfl
theorem splitR_eq (M : Nat) (s : ByteArray) : splitR M s = if (takeL M s.data.toList).2.2.2.2 = 0 then (toF (takeL M s.data.toList) :: (splitR M (takeL M s.data.toList).2.2.2.1).1, (splitR M (takeL M s.data.toList).2.2.2.1).2)
    else if (takeL M s.data.toList).2.2.2.2 = 2 then ([], s, 0) else ([], ⟨#[]⟩, (takeL M s.data.toList).2.2.2.2) := by
  unfold splitR
  rw [splitN_succ M s.size s]
  by_cases e : (takeL M s.data.toList).2.2.2.2 = 0
  · have := take_less e
    rw [if_pos e, if_pos e, splitN_fuel M s.size ((takeL M s.data.toList).2.2.2.1.size + 1) _ (by omega) (by omega)]
  · rw [if_neg e, if_neg e]
end Go.Proofs.YtdalcbhnnfabhaaDoor.F
namespace Go.Proofs.YtdalcbhnnfabhaaDoor.F
open Go.RowKit Go.Proofs.YtdalcbhnnfabhaaDoorW.PrintWords Go.Proofs.YtdalcbhnnfabhaaDoorW.PrintLast Go.Proofs.YtdalcbhnnfabhaaDoorW.PrintMore
set_option linter.unusedVariables false
set_option linter.unusedSimpArgs false
attribute [local go_sem] Oper.semAt_some

/-- What the blocks of a call of Split hold between two rounds. -/
def FHeld (w0 : World) (n : Nat) (endv : Value) (most : Int) (pre : List S29) (s : ByteArray) (W : World) : Prop :=
  Boxed W (n + 3) 9 (.string s) ∧ Boxed W (n + 4) 3 (.int .i64 most) ∧ Boxed W (n + 5) 57 endv ∧ Boxed W n 9 (.string ⟨#[]⟩) ∧ Boxed W (n + 1) 24 (.int .i64 0) ∧
    (∃ v, Boxed W (n + 2) 36 v ∧ Kd.R k29 29 W n (fun _ => True) v pre) ∧ Below n w0 W
theorem boxed_below {W W' : World} {B : Nat} {t : TypeId} {v : Value} (h : Boxed W B t v) (hb : Below W.heap.size W W') : Boxed W' B t v := (hb.block B h.lt).trans h
theorem FHeld.below {w0 : World} {n : Nat} {endv : Value} {most : Int} {pre : List S29} {s : ByteArray} {W W' : World} (h : FHeld w0 n endv most pre s W) (hb : Below W.heap.size W W') : FHeld w0 n endv most pre s W' := by
  obtain ⟨h1, h2, h3, h4, h5, ⟨v, h6, h7⟩, h8⟩ := h
  exact ⟨boxed_below h1 hb, boxed_below h2 hb, boxed_below h3 hb, boxed_below h4 hb, boxed_below h5 hb, ⟨v, boxed_below h6 hb, Kd.R_below h7 hb⟩, h8.trans (hb.mono (by have := h1.lt; omega))⟩
theorem R_other {α : Type} {d : Kd α} {e base : Nat} {ok : Nat → Prop} {W W' : World} {v : Value} {xs : List α} (h : d.R e W base ok v xs) {row : Option Nat} (hg : W.grownBy W' row) (hr : ∀ r, row = some r → ∃ o : Obj, W.heap[r]? = some o ∧ o.isCells = false) : d.R e W' base ok v xs := by
  refine Kd.R_mono (Kd.R_grown (Kd.R_bound h) hg fun k hk e => ?_) (fun k hk => hk.1)
  obtain ⟨_, _, _, q, _, cells, hc⟩ := hk
  obtain ⟨o, ho, hn⟩ := hr k e.symm
  rw [hc] at ho; cases ho; cases hn
theorem boxed_other {W W' : World} {B : Nat} {t : TypeId} {v : Value} (h : Boxed W B t v) {row : Option Nat} (hg : W.grownBy W' row) (hr : ∀ r, row = some r → ∃ o : Obj, W.heap[r]? = some o ∧ o.isCells = false) : Boxed W' B t v :=
  h.kept hg fun e => by
    obtain ⟨o, ho, hn⟩ := hr B e.symm
    rw [show W.heap[B]? = _ from h] at ho; cases ho; cases hn
theorem FHeld.own {β : Type} {w0 : World} {n B : Nat} (hn : n ≤ w0.heap.size) (hB : n ≤ B) {endv : Value} {most : Int} (pre : β → List S29) (s : β → ByteArray) : OwnFrom B (fun (x : β) W => FHeld w0 n endv most (pre x) (s x) W) := by
  rintro x W W' row ⟨h1, h2, h3, h4, h5, ⟨v, h6, h7⟩, h8⟩ hg hr
  have hr' : ∀ r, row = some r → ∃ o : Obj, W.heap[r]? = some o ∧ o.isCells = false := fun r e => (hr r e).2
  exact ⟨boxed_other h1 hg hr', boxed_other h2 hg hr', boxed_other h3 hg hr', boxed_other h4 hg hr', boxed_other h5 hg hr', ⟨v, boxed_other h6 hg hr', R_other h7 hg hr'⟩, ownFrom_below (β := β) hn hB x W W' row h8 hg hr⟩
theorem frame_row (q : Nat) (hq : q ∈ 29 :: k29.E) : q = 29 := by
  simpa [k29, Kd.iso, Kd.pair, Kd.int, Kd.scalar, Kd.string] using hq
theorem FHeld.setS {w0 : World} {n : Nat} {endv : Value} {most : Int} {pre : List S29} {s : ByteArray} {W : World} (h : FHeld w0 n endv most pre s W) (s' : ByteArray) : FHeld w0 n endv most pre s' (W.setCell ⟨n + 3, 0, none⟩ (.string s')) := by
  obtain ⟨h1, h2, h3, h4, h5, ⟨v, h6, h7⟩, h8⟩ := h
  have hg := grownBy_setCell' W (n + 3) (.string s')
  exact ⟨h1.set _, h2.kept hg (by simp), h3.kept hg (by simp), h4.kept hg (by simp), h5.kept hg (by simp), ⟨v, h6.kept hg (by simp), Kd.R_set h7 h1 (fun q hq => by rw [frame_row q hq]; decide) 0 _⟩, h8.setCell (p := ⟨n + 3, 0, none⟩) (by simp) _⟩
/-- the end, where more is wanted -/
theorem FHeld.more {w0 : World} {n : Nat} {endv : Value} {most : Int} {pre : List S29} {s : ByteArray} {W : World} (h : FHeld w0 n endv most pre s W) :
    Boxed (W.setCell ⟨n, 0, none⟩ (.string s)) n 9 (.string s) ∧ Boxed (W.setCell ⟨n, 0, none⟩ (.string s)) (n + 1) 24 (.int .i64 0) ∧
    (∃ v, Boxed (W.setCell ⟨n, 0, none⟩ (.string s)) (n + 2) 36 v ∧ Kd.R k29 29 (W.setCell ⟨n, 0, none⟩ (.string s)) n (fun _ => True) v pre) ∧ Below n w0 (W.setCell ⟨n, 0, none⟩ (.string s)) := by
  obtain ⟨h1, h2, h3, h4, h5, ⟨v, h6, h7⟩, h8⟩ := h
  have hg := grownBy_setCell' W n (.string s)
  exact ⟨h4.set _, h5.kept hg (by simp), ⟨v, h6.kept hg (by simp), Kd.R_set h7 h4 (fun q hq => by rw [frame_row q hq]; decide) 0 _⟩, h8.setCell (p := ⟨n, 0, none⟩) (by simp) _⟩
/-- the end, where the bytes are bad -/
theorem FHeld.bad {w0 : World} {n : Nat} {endv : Value} {most : Int} {pre : List S29} {s : ByteArray} {W : World} (h : FHeld w0 n endv most pre s W) (e : Int) :
    Boxed (W.setCell ⟨n + 1, 0, none⟩ (.int .i64 e)) n 9 (.string ⟨#[]⟩) ∧ Boxed (W.setCell ⟨n + 1, 0, none⟩ (.int .i64 e)) (n + 1) 24 (.int .i64 e) ∧
    (∃ v, Boxed (W.setCell ⟨n + 1, 0, none⟩ (.int .i64 e)) (n + 2) 36 v ∧ Kd.R k29 29 (W.setCell ⟨n + 1, 0, none⟩ (.int .i64 e)) n (fun _ => True) v pre) ∧ Below n w0 (W.setCell ⟨n + 1, 0, none⟩ (.int .i64 e)) := by
  obtain ⟨h1, h2, h3, h4, h5, ⟨v, h6, h7⟩, h8⟩ := h
  have hg := grownBy_setCell' W (n + 1) (.int .i64 e)
  exact ⟨h4.kept hg (by simp), h5.set _, ⟨v, h6.kept hg (by simp), Kd.R_set h7 h5 (fun q hq => by rw [frame_row q hq]; decide) 0 _⟩, h8.setCell (p := ⟨n + 1, 0, none⟩) (by simp) _⟩
theorem keepsFrom_below {B : Nat} {W W' : World} (h : Below W.heap.size W W') : KeepsFrom B W W' :=
  ⟨h.size, fun k o _ hk _ => (h.block k (Array.getElem?_eq_some_iff.1 hk).1).trans hk⟩

/-- as yield is called -/
def FJ (w0 : World) (n : Nat) (endv : Value) (most : Int) (tot : Splitted) (big : Nat) (x : List S29 × ByteArray) (W : World) : Prop :=
  FHeld w0 n endv most x.1 x.2 W ∧ (takeL (mostN most) x.2.data.toList).2.2.2.2 = 0 ∧ tot = (x.1 ++ (splitR (mostN most) x.2).1, (splitR (mostN most) x.2).2) ∧ x.1.length + x.2.size ≤ big
/-- behind the round -/
def FJ2 (w0 : World) (n : Nat) (endv : Value) (most : Int) (tot : Splitted) (big : Nat) (x : List S29 × ByteArray) (W : World) : Prop :=
  FHeld w0 n endv most (x.1 ++ [toF (takeL (mostN most) x.2.data.toList)]) x.2 W ∧ (takeL (mostN most) x.2.data.toList).2.2.2.2 = 0 ∧ tot = (x.1 ++ (splitR (mostN most) x.2).1, (splitR (mostN most) x.2).2) ∧ x.1.length + x.2.size ≤ big
/-- at the iterator's end -/
def FE (w0 : World) (n : Nat) (tot : Splitted) (W : World) : Prop :=
  Boxed W n 9 (.string tot.2.1) ∧ Boxed W (n + 1) 24 (.int .i64 tot.2.2) ∧ (∃ v, Boxed W (n + 2) 36 v ∧ Kd.R k29 29 W n (fun _ => True) v tot.1) ∧ Below n w0 W
def fencs (most : Int) (x : List S29 × ByteArray) : Array Value :=
  #[.agg #[.int .i64 (takeL (mostN most) x.2.data.toList).1, .int .i64 (takeL (mostN most) x.2.data.toList).2.1, .string (takeL (mostN most) x.2.data.toList).2.2.1]]
set_option maxHeartbeats 4000000 in
set_option maxRecDepth 100000 in
theorem frames_iter (m : Nat) (w0 : World) (hL : Laid w0) (n : Nat) (hn : n = w0.heap.size) (most : Int) (tot : Splitted) (big : Nat) (hbig : big ≤ 4611686018427387904) (l D : Nat) (hD : n ≤ D) (B : World → Prop) (X : List S29 × ByteArray → World → Prop) (W1 : World)
    (hB : ∀ W W', KeepsFrom D W W' → B W → B W') (h1 : B W1)
    (hY : ∀ s W, FJ w0 n (.func (.func 28) #[] #[.pointer (some ⟨n, 0, none⟩), .pointer (some ⟨n + 1, 0, none⟩)]) most tot big s W → B W → YieldAt Fence.wide m Tryd.prog l (fencs most s) W fun e W' =>
      (e = .returned (.bool true) ∧ FJ2 w0 n (.func (.func 28) #[] #[.pointer (some ⟨n, 0, none⟩), .pointer (some ⟨n + 1, 0, none⟩)]) most tot big s W' ∧ B W') ∨ (e = .returned (.bool false) ∧ X s W'))
    (s0 : ByteArray) (h0 : FHeld w0 n (.func (.func 28) #[] #[.pointer (some ⟨n, 0, none⟩), .pointer (some ⟨n + 1, 0, none⟩)]) most [] s0 W1) (ht : tot = splitR (mostN most) s0) (hz : s0.size ≤ big) :
    CallsIn Fence.wide (m + 1) Tryd.prog 34 #[.func (.yield l) #[] #[], .pointer (some ⟨n + 3, 0, none⟩), .pointer (some ⟨n + 4, 0, none⟩), .pointer (some ⟨n + 5, 0, none⟩)] W1
      fun e W' => (∃ v, e = .returned v) ∧ ((FE w0 n tot W' ∧ B W') ∨ ∃ s, X s W') := by
  refine callsIn_of_wp Tryd.func34 rfl trivial ?_ rfl
  simp only [Tryd.ntmps34, List.size_toArray, List.length_cons, List.length_nil, Nat.reduceAdd, Nat.reduceSub, Array.replicate_succ, Array.replicate_zero, List.push_toArray, List.append_toArray, List.nil_append, List.cons_append]
  gi_wp2
  gi_loopw [] (fun wr => ∃ (pre : List S29) (s : ByteArray), FHeld w0 n (.func (.func 28) #[] #[.pointer (some ⟨n, 0, none⟩), .pointer (some ⟨n + 1, 0, none⟩)]) most pre s wr ∧ tot = (pre ++ (splitR (mostN most) s).1, (splitR (mostN most) s).2) ∧ pre.length + s.size ≤ big ∧ B wr)
    (fun wr => match wr.cell? ⟨n + 3, 0, none⟩ with | some (.string s) => s.size | _ => 0)
  case atStart =>
    exact ⟨[], s0, h0, by rw [ht]; rfl, by simpa using hz, h1⟩
  case round =>
    obtain ⟨pre, s, hF, htot, hlen, hBw⟩ := hrel
    have hF' := hF
    obtain ⟨b1, b2, b3, b4, b5, ⟨v, b6, b7⟩, b8⟩ := hF
    have c1 := b1.cell
    have c2 := b2.cell
    have c3 := b3.cell
    have f1 := b1.frozen
    have f2 := b2.frozen
    have f3 := b3.frozen
    have hTk : ∀ w', w' = wr → Calls Tryd.prog 14 #[.string s, .int .i64 most] w' fun e w'' => e = .returned (.tuple #[.agg #[.int .i64 (takeL (mostN most) s.data.toList).1, .int .i64 (takeL (mostN most) s.data.toList).2.1, .string (takeL (mostN most) s.data.toList).2.2.1], .string (takeL (mostN most) s.data.toList).2.2.2.1, .int .i64 (takeL (mostN most) s.data.toList).2.2.2.2]) ∧ Below w'.heap.size w' w'' := by
      rintro w' rfl
      exact frame_Take.calls 13 s most _ _ _ _ _ w' (hL.below (hn ▸ b8)) (ftake_k (by decide) s (by omega) most)
    have hYY := fun (W : World) (hw : FHeld w0 n (.func (.func 28) #[] #[.pointer (some ⟨n, 0, none⟩), .pointer (some ⟨n + 1, 0, none⟩)]) most pre s W) (he : (takeL (mostN most) s.data.toList).2.2.2.2 = 0) => hY (pre, s) W ⟨hw, he, htot, hlen⟩
    have hEE := splitR_eq (mostN most) s
    have hless := fun h => take_less (M := mostN most) (s := s) h
    unfold FJ2 fencs at hYY
    simp only [] at hYY
    generalize hT : takeL (mostN most) s.data.toList = t at hTk hYY hEE hless
    obtain ⟨t1, t2, t3, t4, t5⟩ := t
    simp only [] at hTk hYY hEE hless
    replace hn := Aside0.mk hn
    replace htot := Aside0.mk htot
    replace hEE := Aside0.mk hEE
    replace hT := Aside0.mk hT
    clear hY
    have hbo : ∀ {w' : World}, Below wr.heap.size wr w' → Below wr.heap.size wr (w'.alloc (.cells #[.int .i64 t1, .int .i64 t2, .string t3] 29)) := fun hb => hb.alloc hb.size _
    have hBB : ∀ {w' : World}, Below wr.heap.size wr w' → B (w'.alloc (.cells #[.int .i64 t1, .int .i64 t2, .string t3] 29)) := fun hb => hB _ _ (keepsFrom_below (hbo hb)) hBw
    clear ht
    by_cases he : t5 = 0
    · subst he
      gi_wp2_with (refine ⟨trivial, ?_⟩; gi_at_call 14; refine (callsIn_wide.2 (hTk _ rfl)).mono ?_; rintro e w' ⟨rfl, hb⟩; obtain ⟨yf, yt, ya, yb, hy, hR⟩ := hYY _ (hF'.below (hbo hb)) rfl (hBB hb))
      refine hR.mono ?_
      rintro e W2 (⟨rfl, ⟨hF2, _, _, _⟩, hB2⟩ | ⟨rfl, hx⟩)
      · have d1 := hF2.1.cell
        have d2 := hF2.1.frozen
        have hS := hF2.setS t4
        gi_wp2
        refine ⟨⟨pre ++ [toF (t1, t2, t3, t4, 0)], t4, hS, ?_, ?_, hB _ _ ((KeepsOthers.setCell _ _ _).from _) hB2⟩, ?_⟩
        · rw [htot.out, hEE.out]; simp
        · have := hless (by trivial)
          rw [List.length_append, List.length_singleton]; omega
        · have := hless (by trivial)
          have e1 := hS.1.cell
          rw [e1, c1]
          show t4.size < s.size
          omega
      · gi_wp2
        refine bodyPost_ret (results_none rfl _ _ _) rfl ?_
        exact ⟨⟨_, rfl⟩, .inr ⟨_, hx⟩⟩
    · have he' : (t5 != 0) = true := by simpa using he
      gi_wp2_with (first | (refine ⟨trivial, ?_⟩; gi_at_call 14; refine (callsIn_wide.2 (hTk _ rfl)).mono ?_; rintro e w' ⟨rfl, hb⟩; have c1' := (boxed_below b1 (hbo hb)).cell; have f1' := (boxed_below b1 (hbo hb)).frozen; have c3' := (boxed_below b3 (hbo hb)).cell; have f3' := (boxed_below b3 (hbo hb)).frozen) | (refine ⟨trivial, ?_⟩; gi_at_call 28; refine (callsIn_wide.2 (splitEnd_calls s t5 n (n + 1) _ _ _ (boxed_below b4 (hbo hb)) (boxed_below b5 (hbo hb)))).mono ?_; rintro e w2 ⟨⟨v2, rfl⟩, hw2⟩; replace hw2 := Aside0.mk hw2))
      refine bodyPost_ret (results_none rfl _ _ _) rfl ?_
      have hFa := hF'.below (hbo hb)
      have hBa := hBB hb
      refine ⟨⟨_, rfl⟩, .inl ?_⟩
      have hw3 := hw2.out
      by_cases e2 : t5 = 2
      · rw [if_pos e2] at hw3
        subst hw3
        have et : tot = (pre, s, 0) := by rw [htot.out, hEE.out, if_neg he, if_pos e2]; simp
        rw [et]
        exact ⟨hFa.more, hB _ _ ((KeepsOthers.setCell _ _ _).from _) hBa⟩
      · rw [if_neg e2] at hw3
        subst hw3
        have et : tot = (pre, ⟨#[]⟩, t5) := by rw [htot.out, hEE.out, if_neg he, if_neg e2]; simp
        rw [et]
        exact ⟨hFa.bad t5, hB _ _ ((KeepsOthers.setCell _ _ _).from _) hBa⟩
end Go.Proofs.YtdalcbhnnfabhaaDoor.F
