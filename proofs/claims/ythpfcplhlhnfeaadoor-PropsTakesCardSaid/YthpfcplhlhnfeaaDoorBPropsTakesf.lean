/- Texts of this session for the law PropsTakes, one behind the other: interchangeref07values, interchangeref07Right, interchangeref07Bytes, eq42. -/
import Derived.Test.YthpfcplhlhnfeaaDoorBPropsTakesa
import Derived.Test.YthpfcplhlhnfeaaDoorBPropsTakesb
import Derived.Test.YthpfcplhlhnfeaaDoorBPropsTakesc
import Derived.Test.YthpfcplhlhnfeaaDoorBPropsTakesd
import Derived.Test.YthpfcplhlhnfeaaDoorBPropsTakese
namespace Go.Proofs.YthpfcplhlhnfeaaDoor.F
open Go.RowKit Go.Proofs.YthpfcplhlhnfeaaDoorW.PrintWords Go.Proofs.YthpfcplhlhnfeaaDoorW.PrintLast Go.Proofs.YthpfcplhlhnfeaaDoorW.PrintMore
attribute [local go_sem] max2_int min2_int max_two min_two max_three min_three max_four min_four
set_option linter.unusedVariables false
set_option linter.unusedSimpArgs false
set_option maxRecDepth 4000
set_option linter.unnecessarySimpa false

/-! ### interchangeref07_values: function 39 -/
def interchangeref07_values.l0 : Nat → List Int → Int → Int → Int → Int → List (S42) → Option (Int)
  | 0, _, _, _, _, _, _ => none
  | k + 1, x3, x4, x204000, x204001, x204002, x204003 => if x4 < (x3.length : Int) then (if 0 ≤ x4 then (if 0 ≤ (rd x3 x4) then (if (rd x3 x4) < 14 then (if x4 < (x204003.length : Int) then ((interchangeref07_val.f k (bt (⟨#[83, 83, 84, 111, 111, 83, 83, 83, 83, 113, 83, 83, 83, 83]⟩ : ByteArray) (rd x3 x4)) ((rd_T42 x204003 x4).f0) ((rd_T42 x204003 x4).f1)).bind fun t209 => (if t209 = 0 then (interchangeref07_values.l0 k x3 (wrap64 (x4 + 1)) x204000 x204001 x204002 x204003) else (some t209))) else (none)) else (none)) else (none)) else (none)) else (some 0)
def interchangeref07_values.f (k : Nat) (a0_0 : Int) (a0_1 : Int) (a0_2 : Int) (l0_3 : List (S42)) : Option (Int) := (interchangeref07_Which.f k a0_2).bind fun t204 => (interchangeref07_values.l0 k t204 0 a0_0 a0_1 a0_2 l0_3)
theorem interchangeref07_values.mono_l : ∀ k, (∀ y0 y1 y2 y3 y4 y5, LeO (interchangeref07_values.l0 k y0 y1 y2 y3 y4 y5) (interchangeref07_values.l0 (k + 1) y0 y1 y2 y3 y4 y5))
  | 0 => fun _ _ _ _ _ _ r h => by simp [interchangeref07_values.l0] at h
  | k + 1 => by
    have ih0 := interchangeref07_values.mono_l k
    · intro y0 y1 y2 y3 y4 y5
      unfold interchangeref07_values.l0
      repeat' first
      | (with_reducible exact ih0 _ _ _ _ _ _)
      | (with_reducible exact interchangeref07_Which.mono _ _)
      | (with_reducible exact interchangeref07_val.mono _ _ _ _)
      | (with_reducible exact LeO.refl _)
      | (with_reducible exact LeO.none _)
      | (with_reducible refine LeO.ite ?_ ?_)
      | (with_reducible refine LeO.bind ?_ (fun _ => ?_))
      | exact ih0 _ _ _ _ _ _
      | exact interchangeref07_Which.mono _ _
      | exact interchangeref07_val.mono _ _ _ _
      | exact LeO.none _
      | refine LeO.ite ?_ ?_
      | refine LeO.bind ?_ (fun _ => ?_)
theorem interchangeref07_values.mono : ∀ a0 a1 a2 a3 k, LeO (interchangeref07_values.f k a0 a1 a2 a3) (interchangeref07_values.f (k + 1) a0 a1 a2 a3) := by
  intro a0 a1 a2 a3 k
  have ih0 := interchangeref07_values.mono_l k
  unfold interchangeref07_values.f
  repeat' first
      | (with_reducible exact ih0 _ _ _ _ _ _)
      | (with_reducible exact interchangeref07_Which.mono _ _)
      | (with_reducible exact interchangeref07_val.mono _ _ _ _)
      | (with_reducible exact LeO.refl _)
      | (with_reducible exact LeO.none _)
      | (with_reducible refine LeO.ite ?_ ?_)
      | (with_reducible refine LeO.bind ?_ (fun _ => ?_))
      | exact ih0 _ _ _ _ _ _
      | exact interchangeref07_Which.mono _ _
      | exact interchangeref07_val.mono _ _ _ _
      | exact LeO.none _
      | refine LeO.ite ?_ ?_
      | refine LeO.bind ?_ (fun _ => ?_)
def interchangeref07_values.T5 : Bool × List (List Nat × List Nat) := (true, [([], []), ([], []), ([0, 1], [0, 1]), ([2], [2]), ([3], [3]), ([], []), ([5], [5]), ([], []), ([6, 7], [6, 7]), ([8], [8]), ([4, 9], [4, 9]), ([10, 10, 0, 1, 2, 3, 4, 5, 6, 7, 8, 9, 10], [10])])
def interchangeref07_values.B5 : List Nat := [0, 0, 3, 7, 15, 0, 32, 0, 224, 480, 1023, 2047]
theorem interchangeref07_values.tab5 : rtab .any (opsOf Tryd.f39 5) = interchangeref07_values.T5 := by kernel_rfl
theorem interchangeref07_values.bits5 : waitsOk interchangeref07_values.T5.2 interchangeref07_values.B5 = true := by kernel_rfl
set_option maxHeartbeats 8000000 in
set_option maxRecDepth 100000 in
theorem interchangeref07_values.calls (k : Nat) (a0_0 : Int) (a0_1 : Int) (a0_2 : Int) (A0_3 : Option Addr) (c0_3 : Nat) (l0_3 : List (S42)) (r : Int) (w : World) (hr0_3 : Kd.C k42 w A0_3 l0_3.length l0_3) (hc0_3 : l0_3.length ≤ c0_3) (h : interchangeref07_values.f k a0_0 a0_1 a0_2 l0_3 = some r) :
    Calls Tryd.prog 39 #[.agg #[.int .i64 a0_0, .int .u64 a0_1, .int .u64 a0_2, .slice A0_3 l0_3.length c0_3]] w fun e w' => e = .returned (.int .i64 r) ∧ Below w.heap.size w w' := by
  have hu25 := Tryd.underlying25
  have hu42 := Tryd.underlying42
  have HR0_3 := Aside0.mk hr0_3
  have HC0_3 := Aside0.mk hc0_3
  clear hr0_3 hc0_3
  have HB := Aside0.mk (Below.refl w.heap.size w)
  have H : ((interchangeref07_Which.f k a0_2).bind fun t204 => (interchangeref07_values.l0 k t204 0 a0_0 a0_1 a0_2 l0_3)) = some r := h
  clear h
  replace H := Option.bind_eq_some_iff.mp H
  obtain ⟨t204, A20, H⟩ := H
  replace H : (interchangeref07_values.l0 k t204 0 a0_0 a0_1 a0_2 l0_3) = some r := H
  have A2 := Aside0.mk A20
  clear A20
  have H' := Aside0.mk H
  clear H
  go_enter Tryd.func39, Tryd.ntmps39
  go_wp2_with (first | ((with_reducible refine gate_dst (N := 1) rfl ?_); refine box_event ?hg (N := 1) ?hd (cs := #[.int .i64 a0_0, .int .u64 a0_1, .int .u64 a0_2, .slice A0_3 l0_3.length c0_3]) (t := 25) ?hr ?_; (case hd => rfl); (case hg => rfl); (case hr => first | (go_simp; done) | (go_simp; rfl)); intro gb203 hg w3 hbox hb; have n0_ := Aside0.mk (below_step (by repeat (first | (with_reducible first | exact HB.out | apply below_alloc | apply pw_below_drewN | apply below_drew1) | exact HB.out)) hb); have n1_ := Aside0.mk (hbox); have n2_ := Aside0.mk ((by rw [hg]; exact (below_size (by repeat (first | (with_reducible first | exact HB.out | apply below_alloc | apply pw_below_drewN | apply below_drew1) | exact HB.out))) : w.heap.size ≤ gb203)); have n3_ := Aside0.mk ((by rw [hg]; exact (below_size (by repeat (first | (with_reducible first | exact HB.out | apply below_alloc | apply pw_below_drewN | apply below_drew1) | exact HB.out))) : w.heap.size ≤ gb203)); clear HB; have HB := n0_; have BK203 := n1_; have GW203 := n2_; have GE203 := n3_; clear n0_ n1_ n2_ n3_; clear hb hbox hg; have hcz4_0 : w3.cell? ⟨gb203, 0, none⟩ = some (.int .i64 a0_0) := (blk_cell BK203.out 0).trans rfl; have hcz4_1 : w3.cell? ⟨gb203, 1, none⟩ = some (.int .u64 a0_1) := (blk_cell BK203.out 1).trans rfl; have hcz4_2 : w3.cell? ⟨gb203, 2, none⟩ = some (.int .u64 a0_2) := (blk_cell BK203.out 2).trans rfl; have hcz4_3 : w3.cell? ⟨gb203, 3, none⟩ = some (.slice A0_3 l0_3.length c0_3) := (blk_cell BK203.out 3).trans rfl; have hfz4_0 := blk_frozen BK203.out 0; have hfz4_1 := blk_frozen BK203.out 1; have hfz4_2 := blk_frozen BK203.out 2; have hfz4_3 := blk_frozen BK203.out 3) | ((with_reducible refine gate_callee (f := 34) rfl ?_); refine goesL_ (some 8) rfl rfl Tryd.func34 (by kernel_rfl) rfl #[.int .u64 a0_2] rfl (by (try simp only [List.map_toArray, List.map_cons, List.map_nil]); first | done | rfl | (simp only [List.length_drop, List.length_take]; rfl)) ?_; (with_reducible refine (interchangeref07_Which.calls k a0_2 t204 _ A2.out).mono ?_); rintro e w5 ⟨v205, rfl, ho0, hb⟩; refine ⟨_, rfl, ?_⟩; have n0_ := Aside0.mk (Kd.R_lower ho0 (below_size (by repeat (first | (with_reducible first | exact HB.out | apply below_alloc | apply pw_below_drewN | apply below_drew1 | refine below_set ?_ GE203.out) | exact HB.out)))); have n1_ := Aside0.mk (blk_below (g := gb203) (o := .cells #[.int .i64 a0_0, .int .u64 a0_1, .int .u64 a0_2, .slice A0_3 l0_3.length c0_3] 25 (0, 0)) (by (with_reducible repeat (first | refine blk_drewN ?_ _ | refine blk_drew ?_ | refine blk_alloc ?_ _)); exact BK203.out) hb); have n2_ := Aside0.mk (below_step (by repeat (first | (with_reducible first | exact HB.out | apply below_alloc | apply pw_below_drewN | apply below_drew1 | refine below_set ?_ GE203.out) | exact HB.out)) hb); clear BK203; clear HB; have HO206 := n0_; have BK203 := n1_; have HB := n2_; clear n0_ n1_ n2_; (try clear hb); (try clear hb2); (try clear hk); (try clear hi); (try clear ho0)))
  go_loopg [4] k (fun kq v4 w' => ∃ (x4_1 : Int), v4 = .int .i64 x4_1 ∧ Aside0 (interchangeref07_values.l0 kq t204 x4_1 a0_0 a0_1 a0_2 l0_3 = some r) ∧ Aside0 (kq ≤ k) ∧ Aside0 (Kd.R (Kd.int .i64) 3 w' w.heap.size (fun _ => True) v205 t204) ∧ Aside0 (w'.heap[gb203]? = some (.cells #[.int .i64 a0_0, .int .u64 a0_1, .int .u64 a0_2, (.slice A0_3 l0_3.length c0_3)] 25 (0, 0))) ∧ Aside0 (Below w.heap.size w w'))
  case atStart => exact ⟨(0), (by first | rfl | (simp; done) | (simp [*]; done)), H', ⟨Nat.le_refl _⟩, ⟨by (with_reducible repeat (first | apply Kd.R_alloc | apply Kd.R_drewN | apply Kd.R_drew)); exact HO206.out⟩, ⟨by (with_reducible repeat (first | refine blk_drewN ?_ _ | refine blk_drew ?_ | refine blk_alloc ?_ _)); exact BK203.out⟩, ⟨by repeat (first | (with_reducible first | exact HB.out | apply below_alloc | apply pw_below_drewN | apply below_drew1 | refine below_set ?_ GE203.out) | exact HB.out)⟩⟩
  case round =>
    clear H'
    try clear p2
    try clear c3
    try clear hcz4_0
    try clear hcz4_1
    try clear hcz4_2
    try clear hcz4_3
    try clear hfz4_0
    try clear hfz4_1
    try clear hfz4_2
    try clear hfz4_3
    obtain ⟨x4_1, rfl, HA, HK1, HO_3, BK203, HB⟩ := hrel
    cases gk with
    | zero => exact absurd HA.out (by simp [interchangeref07_values.l0])
    | succ k1 =>
      have H := HA.out
      clear HA
      simp only [interchangeref07_values.l0] at H
      by_cases c6 : x4_1 < (t204.length : Int)
      · rw [if_pos c6] at H
        have c6b0 : decide (x4_1 < (t204.length : Int)) = true := decide_eq_true c6
        clear c6
        by_cases c7 : 0 ≤ x4_1
        · rw [if_pos c7] at H
          have c7b0 : decide (0 ≤ x4_1) = true := decide_eq_true c7
          clear c7
          by_cases c8 : 0 ≤ (rd t204 x4_1)
          · rw [if_pos c8] at H
            have c8b0 : decide (0 ≤ (rd t204 x4_1)) = true := decide_eq_true c8
            clear c8
            by_cases c9 : (rd t204 x4_1) < 14
            · rw [if_pos c9] at H
              have c9b0 : decide ((rd t204 x4_1) < 14) = true := decide_eq_true c9
              clear c9
              by_cases c11 : x4_1 < (l0_3.length : Int)
              · rw [if_pos c11] at H
                have c11b0 : decide (x4_1 < (l0_3.length : Int)) = true := decide_eq_true c11
                clear c11
                replace H := Option.bind_eq_some_iff.mp H
                obtain ⟨t209, A120, H⟩ := H
                replace H : (if t209 = 0 then (interchangeref07_values.l0 k1 t204 (wrap64 (x4_1 + 1)) a0_0 a0_1 a0_2 l0_3) else (some t209)) = some r := H
                have A12 := Aside0.mk A120
                clear A120
                by_cases c13 : t209 = 0
                · rw [if_pos c13] at H
                  have c13b0 : (t209 == 0) = true := beq_iff_eq.mpr c13
                  have c13b1 : (t209 != 0) = false := bne_eq_false_iff_eq.mpr c13
                  clear c13
                  have H' := Aside0.mk H
                  clear H
                  obtain ⟨Ao14, co14, eo14⟩ := Kd.R_slice HO_3.out
                  subst eo14
                  try go_wp2
                  have n0_ := Aside0.mk (Kd.R_drew HO_3.out)
                  have n1_ := Aside0.mk (blk_drew BK203.out)
                  have n2_ := Aside0.mk (below_drew1 HB.out)
                  clear HO_3
                  clear BK203
                  clear HB
                  have HO_3 := n0_
                  have BK203 := n1_
                  have HB := n2_
                  clear n0_ n1_ n2_
                  have p207 : 0 ≤ (x4_1 : Int) := of_decide_eq_true (by first | (with_reducible assumption) | assumption)
                  have q207 : x4_1 < (t204.length : Int) := of_decide_eq_true (by first | (with_reducible assumption) | assumption)
                  obtain ⟨ad207, e207, hx207_0⟩ := Kd.at_int (Kd.R_reads' HO_3.out).2.2 x4_1 p207 q207
                  cases e207
                  replace p207 := eq_true p207
                  replace q207 := eq_true q207
                  have p10 : 0 ≤ ((rd t204 x4_1) : Int) := of_decide_eq_true (by first | (with_reducible assumption) | assumption)
                  have q10 : (rd t204 x4_1) < (14 : Int) := of_decide_eq_true (by first | (with_reducible assumption) | assumption)
                  have hx10 := bt_at (⟨#[83, 83, 84, 111, 111, 83, 83, 83, 83, 113, 83, 83, 83, 83]⟩ : ByteArray) (rd t204 x4_1)
                  replace p10 := eq_true p10
                  replace q10 := eq_true q10
                  have p208 : 0 ≤ (x4_1 : Int) := of_decide_eq_true (by first | (with_reducible assumption) | assumption)
                  have q208 : x4_1 < (l0_3.length : Int) := of_decide_eq_true (by first | (with_reducible assumption) | assumption)
                  obtain ⟨ad208, e208, hx208_0, hx208_1⟩ := at_T42 HR0_3.out x4_1 p208 q208
                  have hw208_1 := hx208_1
                  have hw208_0 := hx208_0
                  cases e208
                  replace hx208_0 := (HB.out.cell (World.block_lt_of_cell? w _ hx208_0)).trans hx208_0
                  replace hx208_1 := (HB.out.cell (World.block_lt_of_cell? w _ hx208_1)).trans hx208_1
                  replace p208 := eq_true p208
                  replace q208 := eq_true q208
                  refine start_ (n := 12) (S := fun w' => w'.cell? ⟨gb203, 0, none⟩ = some (.int .i64 a0_0) ∧ w'.cell? ⟨gb203, 1, none⟩ = some (.int .u64 a0_1) ∧ w'.cell? ⟨gb203, 2, none⟩ = some (.int .u64 a0_2) ∧ w'.cell? ⟨gb203, 3, none⟩ = some (.slice (some ad208) l0_3.length c0_3) ∧ w'.cell? (ad207.add (x4_1).toNat) = some (.int .i64 (rd t204 x4_1)) ∧ w'.cell? (ad208.add ((x4_1).toNat * 2)) = some (.int .u64 ((rd_T42 l0_3 x4_1).f0)) ∧ w'.cell? ⟨(ad208.add ((x4_1).toNat * 2)).block, (ad208.add ((x4_1).toNat * 2)).off + 1, none⟩ = some (.string ((rd_T42 l0_3 x4_1).f1))) (ds := []) #[false, false, false, false, false, false, false, false, false, false, false, false] (by kernel_rfl) rfl rfl ⟨(blk_cell BK203.out 0).trans rfl, (blk_cell BK203.out 1).trans rfl, (blk_cell BK203.out 2).trans rfl, (blk_cell BK203.out 3).trans rfl, hx207_0, ((HB.out.cell (World.block_lt_of_cell? w _ hw208_0)).trans hw208_0), ((HB.out.cell (World.block_lt_of_cell? w _ hw208_1)).trans hw208_1)⟩ (fun hHeld => ?_); refine with_tabW interchangeref07_values.tab5 interchangeref07_values.bits5 (fun HT_ HW_ => ?_)
                  generalize wr.drew = w15 at HO_3 BK203 HB hx207_0 hx208_0 hx208_1 hHeld ⊢
                  refine pure_ (i := 0) (N := some 15) (v := ?_) (a' := ?_) #[true, false, false, false, false, false, false, false, false, false, false, false] rfl rfl (any_of HT_.out (by kernel_rfl)) (fun _ _ _ h => h) (Or.inl ⟨by rfl, ?_⟩) ?_ ?_
                  rotate_left
                  · intro w'
                    go_simp
                    with_reducible rfl
                  rotate_left
                  · simp only [Act.put, List.setIfInBounds_toArray, List.set_cons_zero, List.set_cons_succ, i64_w, i32_w]
                    rfl
                  refine pure_ (i := 1) (N := some 16) (v := ?_) (a' := ?_) #[true, true, false, false, false, false, false, false, false, false, false, false] rfl rfl (any_of HT_.out (by kernel_rfl)) (fun _ _ _ h => h) (Or.inl ⟨by rfl, ?_⟩) ?_ ?_
                  rotate_left
                  · intro w'
                    go_simp
                    with_reducible rfl
                  rotate_left
                  · simp only [Act.put, List.setIfInBounds_toArray, List.set_cons_zero, List.set_cons_succ, i64_w, i32_w]
                    rfl
                  refine pure_ (i := 2) (N := some 17) (v := ?_) (a' := ?_) #[true, true, true, false, false, false, false, false, false, false, false, false] rfl rfl (any_of HT_.out (by kernel_rfl)) (fun _ _ _ h => h) (Or.inl ⟨by rfl, ?_⟩) ?_ ?_
                  rotate_left
                  · intro w'
                    go_simp
                    with_reducible rfl
                  rotate_left
                  · simp only [Act.put, List.setIfInBounds_toArray, List.set_cons_zero, List.set_cons_succ, i64_w, i32_w]
                    rfl
                  refine pure_ (i := 5) (N := some 20) (v := ?_) (a' := ?_) #[true, true, true, false, false, true, false, false, false, false, false, false] rfl rfl (any_of HT_.out (by kernel_rfl)) (fun _ _ _ h => h) (Or.inl ⟨by rfl, ?_⟩) ?_ ?_
                  rotate_left
                  · intro w'
                    go_simp
                    with_reducible rfl
                  rotate_left
                  · simp only [Act.put, List.setIfInBounds_toArray, List.set_cons_zero, List.set_cons_succ, i64_w, i32_w]
                    rfl
                  refine pure_ (i := 7) (N := some 22) (v := ?_) (a' := ?_) #[true, true, true, false, false, true, false, true, false, false, false, false] rfl rfl (any_of HT_.out (by kernel_rfl)) (fun _ _ _ h => h) (Or.inl ⟨by rfl, ?_⟩) ?_ ?_
                  rotate_left
                  · intro w'
                    go_simp
                    with_reducible rfl
                  rotate_left
                  · simp only [Act.put, List.setIfInBounds_toArray, List.set_cons_zero, List.set_cons_succ, i64_w, i32_w]
                    rfl
                  refine take_ (i := 3) (N := some 18) (v := ?_) (a' := ?_) #[true, true, true, true, false, true, false, true, false, false, false, false] rfl rfl (take_ofW HT_.out HW_.out (by kernel_rfl)) (fun _ _ _ h => h) (Or.inl ⟨by rfl, ?_⟩) hHeld ?_ ?_
                  rotate_left
                  · rintro w' ⟨s0, s1, s2, s3, s4, s5, s6⟩
                    go_simp
                    with_reducible rfl
                  rotate_left
                  · simp only [Act.put, List.setIfInBounds_toArray, List.set_cons_zero, List.set_cons_succ, i64_w, i32_w]
                    rfl
                  refine take_ (i := 4) (N := some 19) (v := ?_) (a' := ?_) #[true, true, true, true, true, true, false, true, false, false, false, false] rfl rfl (take_ofW HT_.out HW_.out (by kernel_rfl)) (fun _ _ _ h => h) (Or.inl ⟨by rfl, ?_⟩) hHeld ?_ ?_
                  rotate_left
                  · rintro w' ⟨s0, s1, s2, s3, s4, s5, s6⟩
                    go_simp
                    with_reducible rfl
                  rotate_left
                  · simp only [Act.put, List.setIfInBounds_toArray, List.set_cons_zero, List.set_cons_succ, i64_w, i32_w]
                    rfl
                  refine take_ (i := 6) (N := some 21) (v := ?_) (a' := ?_) #[true, true, true, true, true, true, true, true, false, false, false, false] rfl rfl (take_ofW HT_.out HW_.out (by kernel_rfl)) (fun _ _ _ h => h) (Or.inl ⟨by rfl, ?_⟩) hHeld ?_ ?_
                  rotate_left
                  · rintro w' ⟨s0, s1, s2, s3, s4, s5, s6⟩
                    go_simp
                    with_reducible rfl
                  rotate_left
                  · simp only [Act.put, List.setIfInBounds_toArray, List.set_cons_zero, List.set_cons_succ, i64_w, i32_w]
                    rfl
                  refine pure_ (i := 8) (N := some 23) (v := ?_) (a' := ?_) #[true, true, true, true, true, true, true, true, true, false, false, false] rfl rfl (any_of HT_.out (by kernel_rfl)) (fun _ _ _ h => h) (Or.inl ⟨by rfl, ?_⟩) ?_ ?_
                  rotate_left
                  · intro w'
                    go_simp
                    with_reducible rfl
                  rotate_left
                  · simp only [Act.put, List.setIfInBounds_toArray, List.set_cons_zero, List.set_cons_succ, i64_w, i32_w]
                    rfl
                  refine take_ (i := 9) (N := some 24) (v := ?_) (a' := ?_) #[true, true, true, true, true, true, true, true, true, true, false, false] rfl rfl (take_ofW HT_.out HW_.out (by kernel_rfl)) (fun _ _ _ h => h) (Or.inl ⟨by rfl, ?_⟩) hHeld ?_ ?_
                  rotate_left
                  · rintro w' ⟨s0, s1, s2, s3, s4, s5, s6⟩
                    go_simp
                    with_reducible rfl
                  rotate_left
                  · simp only [Act.put, List.setIfInBounds_toArray, List.set_cons_zero, List.set_cons_succ, i64_w, i32_w]
                    rfl
                  refine one_ (i := 10) (N := some 25) #[true, true, true, true, true, true, true, true, true, true, true, false] rfl rfl (one_of HT_.out (by kernel_rfl)) (by decide) (fun K hK => ?_)
                  refine goes_ Tryd.func42 (by kernel_rfl) rfl #[.int .u8 (bt (⟨#[83, 83, 84, 111, 111, 83, 83, 83, 83, 113, 83, 83, 83, 83]⟩ : ByteArray) (rd t204 x4_1)), .agg #[.int .u64 ((rd_T42 l0_3 x4_1).f0), .string ((rd_T42 l0_3 x4_1).f1)]] (by rfl) rfl rfl (by (try simp only [List.map_toArray, List.map_cons, List.map_nil]); first | done | rfl | (simp only [List.length_drop, List.length_take]; rfl)) ?_
                  with_reducible refine (interchangeref07_val.calls k1 (bt (⟨#[83, 83, 84, 111, 111, 83, 83, 83, 83, 113, 83, 83, 83, 83]⟩ : ByteArray) (rd t204 x4_1)) ((rd_T42 l0_3 x4_1).f0) ((rd_T42 l0_3 x4_1).f1) t209 _ A12.out).mono ?_
                  rintro e w16 ⟨rfl, hb⟩
                  have HS4_ := (hb.cell (World.block_lt_of_cell? _ _ (hHeld.2.2.2.2.1))).trans (hHeld.2.2.2.2.1)
                  refine ⟨_, rfl, ?_⟩
                  have n0_ := Aside0.mk (Kd.R_below (by (with_reducible repeat (first | apply Kd.R_alloc | apply Kd.R_drewN | apply Kd.R_drew)); exact HO_3.out) hb)
                  have n1_ := Aside0.mk (blk_below (g := gb203) (o := .cells #[.int .i64 a0_0, .int .u64 a0_1, .int .u64 a0_2, .slice (some ad208) l0_3.length c0_3] 25 (0, 0)) (by (with_reducible repeat (first | refine blk_drewN ?_ _ | refine blk_drew ?_ | refine blk_alloc ?_ _)); exact BK203.out) hb)
                  have n2_ := Aside0.mk (below_step (by repeat (first | (with_reducible first | exact HB.out | apply below_alloc | apply pw_below_drewN | apply below_drew1 | refine below_set ?_ GE203.out) | exact HB.out)) hb)
                  clear HO_3
                  clear BK203
                  clear HB
                  have HO_3 := n0_
                  have BK203 := n1_
                  have HB := n2_
                  clear n0_ n1_ n2_
                  (try clear hb)
                  (try clear hb2)
                  (try clear hk)
                  (try clear hi)
                  refine hK.out _ _ ⟨(blk_cell BK203.out 0).trans rfl, (blk_cell BK203.out 1).trans rfl, (blk_cell BK203.out 2).trans rfl, (blk_cell BK203.out 3).trans rfl, HS4_, ((HB.out.cell (World.block_lt_of_cell? w _ hw208_0)).trans hw208_0), ((HB.out.cell (World.block_lt_of_cell? w _ hw208_1)).trans hw208_1)⟩ (fun hHeld => ?_)
                  clear hK K
                  refine norm_ (a' := ?_) ?_ ?_
                  rotate_left
                  · show Act.put _ (some 25) _ = _
                    simp only [Act.put, List.setIfInBounds_toArray, List.set_cons_zero, List.set_cons_succ, i64_w, i32_w]
                    rfl
                  refine pure_ (i := 11) (N := some 5) (v := ?_) (a' := ?_) #[true, true, true, true, true, true, true, true, true, true, true, true] rfl rfl (any_of HT_.out (by kernel_rfl)) (fun _ _ _ h => h) (Or.inl ⟨by rfl, ?_⟩) ?_ ?_
                  rotate_left
                  · intro w'
                    go_simp
                    with_reducible rfl
                  rotate_left
                  · simp only [Act.put, List.setIfInBounds_toArray, List.set_cons_zero, List.set_cons_succ, i64_w, i32_w]
                    rfl
                  refine done_ (done_of HT_.out (by kernel_rfl)) ?_
                  try go_wp2
                  go_roundg k1
                  case measure => have := HK1.out; omega
                  case rel => exact ⟨(wrap64 (x4_1 + 1)), (by first | rfl | (simp; done) | (simp [*]; done)), H', ⟨by have := HK1.out; omega⟩, ⟨by (with_reducible repeat (first | apply Kd.R_alloc | apply Kd.R_drewN | apply Kd.R_drew)); exact HO_3.out⟩, ⟨by (with_reducible repeat (first | refine blk_drewN ?_ _ | refine blk_drew ?_ | refine blk_alloc ?_ _)); exact BK203.out⟩, ⟨by repeat (first | (with_reducible first | exact HB.out | apply below_alloc | apply pw_below_drewN | apply below_drew1 | refine below_set ?_ GE203.out) | exact HB.out)⟩⟩
                · rw [if_neg c13] at H
                  have c13b0 : (t209 == 0) = false := beq_eq_false_iff_ne.mpr c13
                  have c13b1 : (t209 != 0) = true := bne_iff_ne.mpr c13
                  obtain rfl := Option.some.inj H
                  obtain ⟨Ao17, co17, eo17⟩ := Kd.R_slice HO_3.out
                  subst eo17
                  try go_wp2
                  have n0_ := Aside0.mk (Kd.R_drew HO_3.out)
                  have n1_ := Aside0.mk (blk_drew BK203.out)
                  have n2_ := Aside0.mk (below_drew1 HB.out)
                  clear HO_3
                  clear BK203
                  clear HB
                  have HO_3 := n0_
                  have BK203 := n1_
                  have HB := n2_
                  clear n0_ n1_ n2_
                  have p207 : 0 ≤ (x4_1 : Int) := of_decide_eq_true (by first | (with_reducible assumption) | assumption)
                  have q207 : x4_1 < (t204.length : Int) := of_decide_eq_true (by first | (with_reducible assumption) | assumption)
                  obtain ⟨ad207, e207, hx207_0⟩ := Kd.at_int (Kd.R_reads' HO_3.out).2.2 x4_1 p207 q207
                  cases e207
                  replace p207 := eq_true p207
                  replace q207 := eq_true q207
                  have p10 : 0 ≤ ((rd t204 x4_1) : Int) := of_decide_eq_true (by first | (with_reducible assumption) | assumption)
                  have q10 : (rd t204 x4_1) < (14 : Int) := of_decide_eq_true (by first | (with_reducible assumption) | assumption)
                  have hx10 := bt_at (⟨#[83, 83, 84, 111, 111, 83, 83, 83, 83, 113, 83, 83, 83, 83]⟩ : ByteArray) (rd t204 x4_1)
                  replace p10 := eq_true p10
                  replace q10 := eq_true q10
                  have p208 : 0 ≤ (x4_1 : Int) := of_decide_eq_true (by first | (with_reducible assumption) | assumption)
                  have q208 : x4_1 < (l0_3.length : Int) := of_decide_eq_true (by first | (with_reducible assumption) | assumption)
                  obtain ⟨ad208, e208, hx208_0, hx208_1⟩ := at_T42 HR0_3.out x4_1 p208 q208
                  have hw208_1 := hx208_1
                  have hw208_0 := hx208_0
                  cases e208
                  replace hx208_0 := (HB.out.cell (World.block_lt_of_cell? w _ hx208_0)).trans hx208_0
                  replace hx208_1 := (HB.out.cell (World.block_lt_of_cell? w _ hx208_1)).trans hx208_1
                  replace p208 := eq_true p208
                  replace q208 := eq_true q208
                  refine start_ (n := 12) (S := fun w' => w'.cell? ⟨gb203, 0, none⟩ = some (.int .i64 a0_0) ∧ w'.cell? ⟨gb203, 1, none⟩ = some (.int .u64 a0_1) ∧ w'.cell? ⟨gb203, 2, none⟩ = some (.int .u64 a0_2) ∧ w'.cell? ⟨gb203, 3, none⟩ = some (.slice (some ad208) l0_3.length c0_3) ∧ w'.cell? (ad207.add (x4_1).toNat) = some (.int .i64 (rd t204 x4_1)) ∧ w'.cell? (ad208.add ((x4_1).toNat * 2)) = some (.int .u64 ((rd_T42 l0_3 x4_1).f0)) ∧ w'.cell? ⟨(ad208.add ((x4_1).toNat * 2)).block, (ad208.add ((x4_1).toNat * 2)).off + 1, none⟩ = some (.string ((rd_T42 l0_3 x4_1).f1))) (ds := []) #[false, false, false, false, false, false, false, false, false, false, false, false] (by kernel_rfl) rfl rfl ⟨(blk_cell BK203.out 0).trans rfl, (blk_cell BK203.out 1).trans rfl, (blk_cell BK203.out 2).trans rfl, (blk_cell BK203.out 3).trans rfl, hx207_0, ((HB.out.cell (World.block_lt_of_cell? w _ hw208_0)).trans hw208_0), ((HB.out.cell (World.block_lt_of_cell? w _ hw208_1)).trans hw208_1)⟩ (fun hHeld => ?_); refine with_tabW interchangeref07_values.tab5 interchangeref07_values.bits5 (fun HT_ HW_ => ?_)
                  generalize wr.drew = w18 at HO_3 BK203 HB hx207_0 hx208_0 hx208_1 hHeld ⊢
                  refine pure_ (i := 0) (N := some 15) (v := ?_) (a' := ?_) #[true, false, false, false, false, false, false, false, false, false, false, false] rfl rfl (any_of HT_.out (by kernel_rfl)) (fun _ _ _ h => h) (Or.inl ⟨by rfl, ?_⟩) ?_ ?_
                  rotate_left
                  · intro w'
                    go_simp
                    with_reducible rfl
                  rotate_left
                  · simp only [Act.put, List.setIfInBounds_toArray, List.set_cons_zero, List.set_cons_succ, i64_w, i32_w]
                    rfl
                  refine pure_ (i := 1) (N := some 16) (v := ?_) (a' := ?_) #[true, true, false, false, false, false, false, false, false, false, false, false] rfl rfl (any_of HT_.out (by kernel_rfl)) (fun _ _ _ h => h) (Or.inl ⟨by rfl, ?_⟩) ?_ ?_
                  rotate_left
                  · intro w'
                    go_simp
                    with_reducible rfl
                  rotate_left
                  · simp only [Act.put, List.setIfInBounds_toArray, List.set_cons_zero, List.set_cons_succ, i64_w, i32_w]
                    rfl
                  refine pure_ (i := 2) (N := some 17) (v := ?_) (a' := ?_) #[true, true, true, false, false, false, false, false, false, false, false, false] rfl rfl (any_of HT_.out (by kernel_rfl)) (fun _ _ _ h => h) (Or.inl ⟨by rfl, ?_⟩) ?_ ?_
                  rotate_left
                  · intro w'
                    go_simp
                    with_reducible rfl
                  rotate_left
                  · simp only [Act.put, List.setIfInBounds_toArray, List.set_cons_zero, List.set_cons_succ, i64_w, i32_w]
                    rfl
                  refine pure_ (i := 5) (N := some 20) (v := ?_) (a' := ?_) #[true, true, true, false, false, true, false, false, false, false, false, false] rfl rfl (any_of HT_.out (by kernel_rfl)) (fun _ _ _ h => h) (Or.inl ⟨by rfl, ?_⟩) ?_ ?_
                  rotate_left
                  · intro w'
                    go_simp
                    with_reducible rfl
                  rotate_left
                  · simp only [Act.put, List.setIfInBounds_toArray, List.set_cons_zero, List.set_cons_succ, i64_w, i32_w]
                    rfl
                  refine pure_ (i := 7) (N := some 22) (v := ?_) (a' := ?_) #[true, true, true, false, false, true, false, true, false, false, false, false] rfl rfl (any_of HT_.out (by kernel_rfl)) (fun _ _ _ h => h) (Or.inl ⟨by rfl, ?_⟩) ?_ ?_
                  rotate_left
                  · intro w'
                    go_simp
                    with_reducible rfl
                  rotate_left
                  · simp only [Act.put, List.setIfInBounds_toArray, List.set_cons_zero, List.set_cons_succ, i64_w, i32_w]
                    rfl
                  refine take_ (i := 3) (N := some 18) (v := ?_) (a' := ?_) #[true, true, true, true, false, true, false, true, false, false, false, false] rfl rfl (take_ofW HT_.out HW_.out (by kernel_rfl)) (fun _ _ _ h => h) (Or.inl ⟨by rfl, ?_⟩) hHeld ?_ ?_
                  rotate_left
                  · rintro w' ⟨s0, s1, s2, s3, s4, s5, s6⟩
                    go_simp
                    with_reducible rfl
                  rotate_left
                  · simp only [Act.put, List.setIfInBounds_toArray, List.set_cons_zero, List.set_cons_succ, i64_w, i32_w]
                    rfl
                  refine take_ (i := 4) (N := some 19) (v := ?_) (a' := ?_) #[true, true, true, true, true, true, false, true, false, false, false, false] rfl rfl (take_ofW HT_.out HW_.out (by kernel_rfl)) (fun _ _ _ h => h) (Or.inl ⟨by rfl, ?_⟩) hHeld ?_ ?_
                  rotate_left
                  · rintro w' ⟨s0, s1, s2, s3, s4, s5, s6⟩
                    go_simp
                    with_reducible rfl
                  rotate_left
                  · simp only [Act.put, List.setIfInBounds_toArray, List.set_cons_zero, List.set_cons_succ, i64_w, i32_w]
                    rfl
                  refine take_ (i := 6) (N := some 21) (v := ?_) (a' := ?_) #[true, true, true, true, true, true, true, true, false, false, false, false] rfl rfl (take_ofW HT_.out HW_.out (by kernel_rfl)) (fun _ _ _ h => h) (Or.inl ⟨by rfl, ?_⟩) hHeld ?_ ?_
                  rotate_left
                  · rintro w' ⟨s0, s1, s2, s3, s4, s5, s6⟩
                    go_simp
                    with_reducible rfl
                  rotate_left
                  · simp only [Act.put, List.setIfInBounds_toArray, List.set_cons_zero, List.set_cons_succ, i64_w, i32_w]
                    rfl
                  refine pure_ (i := 8) (N := some 23) (v := ?_) (a' := ?_) #[true, true, true, true, true, true, true, true, true, false, false, false] rfl rfl (any_of HT_.out (by kernel_rfl)) (fun _ _ _ h => h) (Or.inl ⟨by rfl, ?_⟩) ?_ ?_
                  rotate_left
                  · intro w'
                    go_simp
                    with_reducible rfl
                  rotate_left
                  · simp only [Act.put, List.setIfInBounds_toArray, List.set_cons_zero, List.set_cons_succ, i64_w, i32_w]
                    rfl
                  refine take_ (i := 9) (N := some 24) (v := ?_) (a' := ?_) #[true, true, true, true, true, true, true, true, true, true, false, false] rfl rfl (take_ofW HT_.out HW_.out (by kernel_rfl)) (fun _ _ _ h => h) (Or.inl ⟨by rfl, ?_⟩) hHeld ?_ ?_
                  rotate_left
                  · rintro w' ⟨s0, s1, s2, s3, s4, s5, s6⟩
                    go_simp
                    with_reducible rfl
                  rotate_left
                  · simp only [Act.put, List.setIfInBounds_toArray, List.set_cons_zero, List.set_cons_succ, i64_w, i32_w]
                    rfl
                  refine one_ (i := 10) (N := some 25) #[true, true, true, true, true, true, true, true, true, true, true, false] rfl rfl (one_of HT_.out (by kernel_rfl)) (by decide) (fun K hK => ?_)
                  refine goes_ Tryd.func42 (by kernel_rfl) rfl #[.int .u8 (bt (⟨#[83, 83, 84, 111, 111, 83, 83, 83, 83, 113, 83, 83, 83, 83]⟩ : ByteArray) (rd t204 x4_1)), .agg #[.int .u64 ((rd_T42 l0_3 x4_1).f0), .string ((rd_T42 l0_3 x4_1).f1)]] (by rfl) rfl rfl (by (try simp only [List.map_toArray, List.map_cons, List.map_nil]); first | done | rfl | (simp only [List.length_drop, List.length_take]; rfl)) ?_
                  with_reducible refine (interchangeref07_val.calls k1 (bt (⟨#[83, 83, 84, 111, 111, 83, 83, 83, 83, 113, 83, 83, 83, 83]⟩ : ByteArray) (rd t204 x4_1)) ((rd_T42 l0_3 x4_1).f0) ((rd_T42 l0_3 x4_1).f1) t209 _ A12.out).mono ?_
                  rintro e w19 ⟨rfl, hb⟩
                  have HS4_ := (hb.cell (World.block_lt_of_cell? _ _ (hHeld.2.2.2.2.1))).trans (hHeld.2.2.2.2.1)
                  refine ⟨_, rfl, ?_⟩
                  have n0_ := Aside0.mk (Kd.R_below (by (with_reducible repeat (first | apply Kd.R_alloc | apply Kd.R_drewN | apply Kd.R_drew)); exact HO_3.out) hb)
                  have n1_ := Aside0.mk (blk_below (g := gb203) (o := .cells #[.int .i64 a0_0, .int .u64 a0_1, .int .u64 a0_2, .slice (some ad208) l0_3.length c0_3] 25 (0, 0)) (by (with_reducible repeat (first | refine blk_drewN ?_ _ | refine blk_drew ?_ | refine blk_alloc ?_ _)); exact BK203.out) hb)
                  have n2_ := Aside0.mk (below_step (by repeat (first | (with_reducible first | exact HB.out | apply below_alloc | apply pw_below_drewN | apply below_drew1 | refine below_set ?_ GE203.out) | exact HB.out)) hb)
                  clear HO_3
                  clear BK203
                  clear HB
                  have HO_3 := n0_
                  have BK203 := n1_
                  have HB := n2_
                  clear n0_ n1_ n2_
                  (try clear hb)
                  (try clear hb2)
                  (try clear hk)
                  (try clear hi)
                  refine hK.out _ _ ⟨(blk_cell BK203.out 0).trans rfl, (blk_cell BK203.out 1).trans rfl, (blk_cell BK203.out 2).trans rfl, (blk_cell BK203.out 3).trans rfl, HS4_, ((HB.out.cell (World.block_lt_of_cell? w _ hw208_0)).trans hw208_0), ((HB.out.cell (World.block_lt_of_cell? w _ hw208_1)).trans hw208_1)⟩ (fun hHeld => ?_)
                  clear hK K
                  refine norm_ (a' := ?_) ?_ ?_
                  rotate_left
                  · show Act.put _ (some 25) _ = _
                    simp only [Act.put, List.setIfInBounds_toArray, List.set_cons_zero, List.set_cons_succ, i64_w, i32_w]
                    rfl
                  refine pure_ (i := 11) (N := some 5) (v := ?_) (a' := ?_) #[true, true, true, true, true, true, true, true, true, true, true, true] rfl rfl (any_of HT_.out (by kernel_rfl)) (fun _ _ _ h => h) (Or.inl ⟨by rfl, ?_⟩) ?_ ?_
                  rotate_left
                  · intro w'
                    go_simp
                    with_reducible rfl
                  rotate_left
                  · simp only [Act.put, List.setIfInBounds_toArray, List.set_cons_zero, List.set_cons_succ, i64_w, i32_w]
                    rfl
                  refine done_ (done_of HT_.out (by kernel_rfl)) ?_
                  try go_wp2
                  go_ret
                  exact ⟨by first | rfl | (simp [errW_none, errW_some] <;> rfl) | (simp [*, errW_none, errW_some] <;> rfl), by repeat (first | (with_reducible first | exact HB.out | apply below_alloc | apply pw_below_drewN | apply below_drew1 | refine below_set ?_ GE203.out) | exact HB.out)⟩
              · rw [if_neg c11] at H
                exact absurd H (by simp)
            · rw [if_neg c9] at H
              exact absurd H (by simp)
          · rw [if_neg c8] at H
            exact absurd H (by simp)
        · rw [if_neg c7] at H
          exact absurd H (by simp)
      · rw [if_neg c6] at H
        have c6b0 : decide (x4_1 < (t204.length : Int)) = false := decide_eq_false c6
        clear c6
        obtain rfl := Option.some.inj H
        obtain ⟨Ao20, co20, eo20⟩ := Kd.R_slice HO_3.out
        subst eo20
        go_wp2
        go_ret
        exact ⟨by first | rfl | (simp [errW_none, errW_some] <;> rfl) | (simp [*, errW_none, errW_some] <;> rfl), by repeat (first | (with_reducible first | exact HB.out | apply below_alloc | apply pw_below_drewN | apply below_drew1 | refine below_set ?_ GE203.out) | exact HB.out)⟩


end Go.Proofs.YthpfcplhlhnfeaaDoor.F
namespace Go.Proofs.YthpfcplhlhnfeaaDoor.F
open Go.RowKit Go.Proofs.YthpfcplhlhnfeaaDoorW.PrintWords Go.Proofs.YthpfcplhlhnfeaaDoorW.PrintLast Go.Proofs.YthpfcplhlhnfeaaDoorW.PrintMore
attribute [local go_sem] max2_int min2_int max_two min_two max_three min_three max_four min_four
set_option linter.unusedVariables false
set_option linter.unusedSimpArgs false
set_option maxRecDepth 4000
set_option linter.unnecessarySimpa false

/-! ### interchangeref07_Right: function 32 -/
def interchangeref07_Right.f (k : Nat) (a0_0 : Int) (a0_1 : Int) (a0_2 : Int) (l0_3 : List (S42)) : Option (Int) := (interchangeref07_form.f k a0_0 a0_1 a0_2 l0_3).bind fun t211 => (if t211 = true then (if a0_1 > 65536 then (some 4) else ((interchangeref07_values.f k a0_0 a0_1 a0_2 l0_3).bind fun t212 => (some t212))) else (some 7))
theorem interchangeref07_Right.mono : ∀ a0 a1 a2 a3 k, LeO (interchangeref07_Right.f k a0 a1 a2 a3) (interchangeref07_Right.f (k + 1) a0 a1 a2 a3) := by
  intro a0 a1 a2 a3 k
  unfold interchangeref07_Right.f
  repeat' first
      | (with_reducible exact interchangeref07_form.mono _ _ _ _ _)
      | (with_reducible exact interchangeref07_values.mono _ _ _ _ _)
      | (with_reducible exact LeO.refl _)
      | (with_reducible exact LeO.none _)
      | (with_reducible refine LeO.ite ?_ ?_)
      | (with_reducible refine LeO.bind ?_ (fun _ => ?_))
      | exact interchangeref07_form.mono _ _ _ _ _
      | exact interchangeref07_values.mono _ _ _ _ _
      | exact LeO.none _
      | refine LeO.ite ?_ ?_
      | refine LeO.bind ?_ (fun _ => ?_)
set_option maxHeartbeats 8000000 in
set_option maxRecDepth 100000 in
theorem interchangeref07_Right.calls (k : Nat) (a0_0 : Int) (a0_1 : Int) (a0_2 : Int) (A0_3 : Option Addr) (c0_3 : Nat) (l0_3 : List (S42)) (r : Int) (w : World) (hr0_3 : Kd.C k42 w A0_3 l0_3.length l0_3) (hc0_3 : l0_3.length ≤ c0_3) (h : interchangeref07_Right.f k a0_0 a0_1 a0_2 l0_3 = some r) :
    Calls Tryd.prog 32 #[.agg #[.int .i64 a0_0, .int .u64 a0_1, .int .u64 a0_2, .slice A0_3 l0_3.length c0_3]] w fun e w' => e = .returned (.int .i64 r) ∧ Below w.heap.size w w' := by
  have hu25 := Tryd.underlying25
  have HR0_3 := Aside0.mk hr0_3
  have HC0_3 := Aside0.mk hc0_3
  clear hr0_3 hc0_3
  have HB := Aside0.mk (Below.refl w.heap.size w)
  have H : ((interchangeref07_form.f k a0_0 a0_1 a0_2 l0_3).bind fun t211 => (if t211 = true then (if a0_1 > 65536 then (some 4) else ((interchangeref07_values.f k a0_0 a0_1 a0_2 l0_3).bind fun t212 => (some t212))) else (some 7))) = some r := h
  clear h
  replace H := Option.bind_eq_some_iff.mp H
  obtain ⟨t211, A20, H⟩ := H
  replace H : (if t211 = true then (if a0_1 > 65536 then (some 4) else ((interchangeref07_values.f k a0_0 a0_1 a0_2 l0_3).bind fun t212 => (some t212))) else (some 7)) = some r := H
  have A2 := Aside0.mk A20
  clear A20
  by_cases c3 : t211 = true
  · subst c3
    have H1 : (if a0_1 > 65536 then (some 4) else ((interchangeref07_values.f k a0_0 a0_1 a0_2 l0_3).bind fun t212 => (some t212))) = some r := by rw [if_pos rfl] at H; exact H
    clear H
    have H := H1
    clear H1
    by_cases c4 : a0_1 > 65536
    · rw [if_pos c4] at H
      have c4b0 : decide (65536 < a0_1) = true := decide_eq_true c4
      clear c4
      obtain rfl := Option.some.inj H
      go_enter Tryd.func32, Tryd.ntmps32
      go_wp2_with (first | ((with_reducible refine gate_dst (N := 1) rfl ?_); refine box_event ?hg (N := 1) ?hd (cs := #[.int .i64 a0_0, .int .u64 a0_1, .int .u64 a0_2, .slice A0_3 l0_3.length c0_3]) (t := 25) ?hr ?_; (case hd => rfl); (case hg => rfl); (case hr => first | (go_simp; done) | (go_simp; rfl)); intro gb210 hg w5 hbox hb; have n0_ := Aside0.mk (below_step (by repeat (first | (with_reducible first | exact HB.out | apply below_alloc | apply pw_below_drewN | apply below_drew1) | exact HB.out)) hb); have n1_ := Aside0.mk (hbox); have n2_ := Aside0.mk ((by rw [hg]; exact (below_size (by repeat (first | (with_reducible first | exact HB.out | apply below_alloc | apply pw_below_drewN | apply below_drew1) | exact HB.out))) : w.heap.size ≤ gb210)); have n3_ := Aside0.mk ((by rw [hg]; exact (below_size (by repeat (first | (with_reducible first | exact HB.out | apply below_alloc | apply pw_below_drewN | apply below_drew1) | exact HB.out))) : w.heap.size ≤ gb210)); clear HB; have HB := n0_; have BK210 := n1_; have GW210 := n2_; have GE210 := n3_; clear n0_ n1_ n2_ n3_; clear hb hbox hg; have hcz6_0 : w5.cell? ⟨gb210, 0, none⟩ = some (.int .i64 a0_0) := (blk_cell BK210.out 0).trans rfl; have hcz6_1 : w5.cell? ⟨gb210, 1, none⟩ = some (.int .u64 a0_1) := (blk_cell BK210.out 1).trans rfl; have hcz6_2 : w5.cell? ⟨gb210, 2, none⟩ = some (.int .u64 a0_2) := (blk_cell BK210.out 2).trans rfl; have hcz6_3 : w5.cell? ⟨gb210, 3, none⟩ = some (.slice A0_3 l0_3.length c0_3) := (blk_cell BK210.out 3).trans rfl; have hfz6_0 := blk_frozen BK210.out 0; have hfz6_1 := blk_frozen BK210.out 1; have hfz6_2 := blk_frozen BK210.out 2; have hfz6_3 := blk_frozen BK210.out 3) | ((with_reducible refine gate_callee (f := 38) rfl ?_); refine goesL_ (some 5) rfl rfl Tryd.func38 (by kernel_rfl) rfl #[.agg #[.int .i64 a0_0, .int .u64 a0_1, .int .u64 a0_2, .slice A0_3 l0_3.length c0_3]] rfl (by (try simp only [List.map_toArray, List.map_cons, List.map_nil]); first | done | rfl | (simp only [List.length_drop, List.length_take]; rfl)) ?_; (with_reducible refine (interchangeref07_form.calls k a0_0 a0_1 a0_2 _ _ l0_3 true _ ?side1 ?side2 A2.out).mono ?_); (case side1 => repeat (first | exact (Kd.C_below HR0_3.out HB.out) | (with_reducible refine Kd.C_alloc ?_ _) | (with_reducible refine Kd.C_drewN ?_ _) | (with_reducible refine Kd.C_drew ?_))); (case side2 => exact HC0_3.out); rintro e w7 ⟨rfl, hb⟩; refine ⟨_, rfl, ?_⟩; have n0_ := Aside0.mk (blk_below (g := gb210) (o := .cells #[.int .i64 a0_0, .int .u64 a0_1, .int .u64 a0_2, .slice A0_3 l0_3.length c0_3] 25 (0, 0)) (by (with_reducible repeat (first | refine blk_drewN ?_ _ | refine blk_drew ?_ | refine blk_alloc ?_ _)); exact BK210.out) hb); have n1_ := Aside0.mk (below_step (by repeat (first | (with_reducible first | exact HB.out | apply below_alloc | apply pw_below_drewN | apply below_drew1 | refine below_set ?_ GE210.out) | exact HB.out)) hb); clear BK210; clear HB; have BK210 := n0_; have HB := n1_; clear n0_ n1_; (try clear hb); (try clear hb2); (try clear hk); (try clear hi); have hcz8_0 : w7.cell? ⟨gb210, 0, none⟩ = some (.int .i64 a0_0) := (blk_cell BK210.out 0).trans rfl; have hcz8_1 : w7.cell? ⟨gb210, 1, none⟩ = some (.int .u64 a0_1) := (blk_cell BK210.out 1).trans rfl; have hcz8_2 : w7.cell? ⟨gb210, 2, none⟩ = some (.int .u64 a0_2) := (blk_cell BK210.out 2).trans rfl; have hcz8_3 : w7.cell? ⟨gb210, 3, none⟩ = some (.slice A0_3 l0_3.length c0_3) := (blk_cell BK210.out 3).trans rfl; have hfz8_0 := blk_frozen BK210.out 0; have hfz8_1 := blk_frozen BK210.out 1; have hfz8_2 := blk_frozen BK210.out 2; have hfz8_3 := blk_frozen BK210.out 3))
      go_ret
      exact ⟨by first | rfl | (simp [errW_none, errW_some] <;> rfl) | (simp [*, errW_none, errW_some] <;> rfl), by repeat (first | (with_reducible first | exact HB.out | apply below_alloc | apply pw_below_drewN | apply below_drew1 | refine below_set ?_ GE210.out) | exact HB.out)⟩
    · rw [if_neg c4] at H
      have c4b0 : decide (65536 < a0_1) = false := decide_eq_false c4
      clear c4
      replace H := Option.bind_eq_some_iff.mp H
      obtain ⟨t212, A90, H⟩ := H
      replace H : (some t212) = some r := H
      have A9 := Aside0.mk A90
      clear A90
      obtain rfl := Option.some.inj H
      go_enter Tryd.func32, Tryd.ntmps32
      go_wp2_with (first | ((with_reducible refine gate_dst (N := 1) rfl ?_); refine box_event ?hg (N := 1) ?hd (cs := #[.int .i64 a0_0, .int .u64 a0_1, .int .u64 a0_2, .slice A0_3 l0_3.length c0_3]) (t := 25) ?hr ?_; (case hd => rfl); (case hg => rfl); (case hr => first | (go_simp; done) | (go_simp; rfl)); intro gb210 hg w10 hbox hb; have n0_ := Aside0.mk (below_step (by repeat (first | (with_reducible first | exact HB.out | apply below_alloc | apply pw_below_drewN | apply below_drew1) | exact HB.out)) hb); have n1_ := Aside0.mk (hbox); have n2_ := Aside0.mk ((by rw [hg]; exact (below_size (by repeat (first | (with_reducible first | exact HB.out | apply below_alloc | apply pw_below_drewN | apply below_drew1) | exact HB.out))) : w.heap.size ≤ gb210)); have n3_ := Aside0.mk ((by rw [hg]; exact (below_size (by repeat (first | (with_reducible first | exact HB.out | apply below_alloc | apply pw_below_drewN | apply below_drew1) | exact HB.out))) : w.heap.size ≤ gb210)); clear HB; have HB := n0_; have BK210 := n1_; have GW210 := n2_; have GE210 := n3_; clear n0_ n1_ n2_ n3_; clear hb hbox hg; have hcz11_0 : w10.cell? ⟨gb210, 0, none⟩ = some (.int .i64 a0_0) := (blk_cell BK210.out 0).trans rfl; have hcz11_1 : w10.cell? ⟨gb210, 1, none⟩ = some (.int .u64 a0_1) := (blk_cell BK210.out 1).trans rfl; have hcz11_2 : w10.cell? ⟨gb210, 2, none⟩ = some (.int .u64 a0_2) := (blk_cell BK210.out 2).trans rfl; have hcz11_3 : w10.cell? ⟨gb210, 3, none⟩ = some (.slice A0_3 l0_3.length c0_3) := (blk_cell BK210.out 3).trans rfl; have hfz11_0 := blk_frozen BK210.out 0; have hfz11_1 := blk_frozen BK210.out 1; have hfz11_2 := blk_frozen BK210.out 2; have hfz11_3 := blk_frozen BK210.out 3) | ((with_reducible refine gate_callee (f := 38) rfl ?_); refine goesL_ (some 5) rfl rfl Tryd.func38 (by kernel_rfl) rfl #[.agg #[.int .i64 a0_0, .int .u64 a0_1, .int .u64 a0_2, .slice A0_3 l0_3.length c0_3]] rfl (by (try simp only [List.map_toArray, List.map_cons, List.map_nil]); first | done | rfl | (simp only [List.length_drop, List.length_take]; rfl)) ?_; (with_reducible refine (interchangeref07_form.calls k a0_0 a0_1 a0_2 _ _ l0_3 true _ ?side1 ?side2 A2.out).mono ?_); (case side1 => repeat (first | exact (Kd.C_below HR0_3.out HB.out) | (with_reducible refine Kd.C_alloc ?_ _) | (with_reducible refine Kd.C_drewN ?_ _) | (with_reducible refine Kd.C_drew ?_))); (case side2 => exact HC0_3.out); rintro e w12 ⟨rfl, hb⟩; refine ⟨_, rfl, ?_⟩; have n0_ := Aside0.mk (blk_below (g := gb210) (o := .cells #[.int .i64 a0_0, .int .u64 a0_1, .int .u64 a0_2, .slice A0_3 l0_3.length c0_3] 25 (0, 0)) (by (with_reducible repeat (first | refine blk_drewN ?_ _ | refine blk_drew ?_ | refine blk_alloc ?_ _)); exact BK210.out) hb); have n1_ := Aside0.mk (below_step (by repeat (first | (with_reducible first | exact HB.out | apply below_alloc | apply pw_below_drewN | apply below_drew1 | refine below_set ?_ GE210.out) | exact HB.out)) hb); clear BK210; clear HB; have BK210 := n0_; have HB := n1_; clear n0_ n1_; (try clear hb); (try clear hb2); (try clear hk); (try clear hi); have hcz13_0 : w12.cell? ⟨gb210, 0, none⟩ = some (.int .i64 a0_0) := (blk_cell BK210.out 0).trans rfl; have hcz13_1 : w12.cell? ⟨gb210, 1, none⟩ = some (.int .u64 a0_1) := (blk_cell BK210.out 1).trans rfl; have hcz13_2 : w12.cell? ⟨gb210, 2, none⟩ = some (.int .u64 a0_2) := (blk_cell BK210.out 2).trans rfl; have hcz13_3 : w12.cell? ⟨gb210, 3, none⟩ = some (.slice A0_3 l0_3.length c0_3) := (blk_cell BK210.out 3).trans rfl; have hfz13_0 := blk_frozen BK210.out 0; have hfz13_1 := blk_frozen BK210.out 1; have hfz13_2 := blk_frozen BK210.out 2; have hfz13_3 := blk_frozen BK210.out 3) | ((with_reducible refine gate_callee (f := 39) rfl ?_); refine goesL_ (some 12) rfl rfl Tryd.func39 (by kernel_rfl) rfl #[.agg #[.int .i64 a0_0, .int .u64 a0_1, .int .u64 a0_2, .slice A0_3 l0_3.length c0_3]] rfl (by (try simp only [List.map_toArray, List.map_cons, List.map_nil]); first | done | rfl | (simp only [List.length_drop, List.length_take]; rfl)) ?_; (with_reducible refine (interchangeref07_values.calls k a0_0 a0_1 a0_2 _ _ l0_3 t212 _ ?side1 ?side2 A9.out).mono ?_); (case side1 => repeat (first | exact (Kd.C_below HR0_3.out HB.out) | (with_reducible refine Kd.C_alloc ?_ _) | (with_reducible refine Kd.C_drewN ?_ _) | (with_reducible refine Kd.C_drew ?_))); (case side2 => exact HC0_3.out); rintro e w14 ⟨rfl, hb⟩; refine ⟨_, rfl, ?_⟩; have n0_ := Aside0.mk (blk_below (g := gb210) (o := .cells #[.int .i64 a0_0, .int .u64 a0_1, .int .u64 a0_2, .slice A0_3 l0_3.length c0_3] 25 (0, 0)) (by (with_reducible repeat (first | refine blk_drewN ?_ _ | refine blk_drew ?_ | refine blk_alloc ?_ _)); exact BK210.out) hb); have n1_ := Aside0.mk (below_step (by repeat (first | (with_reducible first | exact HB.out | apply below_alloc | apply pw_below_drewN | apply below_drew1 | refine below_set ?_ GE210.out) | exact HB.out)) hb); clear BK210; clear HB; have BK210 := n0_; have HB := n1_; clear n0_ n1_; (try clear hb); (try clear hb2); (try clear hk); (try clear hi)))
      go_ret
      exact ⟨by first | rfl | (simp [errW_none, errW_some] <;> rfl) | (simp [*, errW_none, errW_some] <;> rfl), by repeat (first | (with_reducible first | exact HB.out | apply below_alloc | apply pw_below_drewN | apply below_drew1 | refine below_set ?_ GE210.out) | exact HB.out)⟩
  · replace c3 := Bool.eq_false_iff.mpr c3
    subst c3
    have H1 : (some 7) = some r := by rw [if_neg (show ¬ (false = true) by decide)] at H; exact H
    clear H
    have H := H1
    clear H1
    obtain rfl := Option.some.inj H
    go_enter Tryd.func32, Tryd.ntmps32
    go_wp2_with (first | ((with_reducible refine gate_dst (N := 1) rfl ?_); refine box_event ?hg (N := 1) ?hd (cs := #[.int .i64 a0_0, .int .u64 a0_1, .int .u64 a0_2, .slice A0_3 l0_3.length c0_3]) (t := 25) ?hr ?_; (case hd => rfl); (case hg => rfl); (case hr => first | (go_simp; done) | (go_simp; rfl)); intro gb210 hg w15 hbox hb; have n0_ := Aside0.mk (below_step (by repeat (first | (with_reducible first | exact HB.out | apply below_alloc | apply pw_below_drewN | apply below_drew1) | exact HB.out)) hb); have n1_ := Aside0.mk (hbox); have n2_ := Aside0.mk ((by rw [hg]; exact (below_size (by repeat (first | (with_reducible first | exact HB.out | apply below_alloc | apply pw_below_drewN | apply below_drew1) | exact HB.out))) : w.heap.size ≤ gb210)); have n3_ := Aside0.mk ((by rw [hg]; exact (below_size (by repeat (first | (with_reducible first | exact HB.out | apply below_alloc | apply pw_below_drewN | apply below_drew1) | exact HB.out))) : w.heap.size ≤ gb210)); clear HB; have HB := n0_; have BK210 := n1_; have GW210 := n2_; have GE210 := n3_; clear n0_ n1_ n2_ n3_; clear hb hbox hg; have hcz16_0 : w15.cell? ⟨gb210, 0, none⟩ = some (.int .i64 a0_0) := (blk_cell BK210.out 0).trans rfl; have hcz16_1 : w15.cell? ⟨gb210, 1, none⟩ = some (.int .u64 a0_1) := (blk_cell BK210.out 1).trans rfl; have hcz16_2 : w15.cell? ⟨gb210, 2, none⟩ = some (.int .u64 a0_2) := (blk_cell BK210.out 2).trans rfl; have hcz16_3 : w15.cell? ⟨gb210, 3, none⟩ = some (.slice A0_3 l0_3.length c0_3) := (blk_cell BK210.out 3).trans rfl; have hfz16_0 := blk_frozen BK210.out 0; have hfz16_1 := blk_frozen BK210.out 1; have hfz16_2 := blk_frozen BK210.out 2; have hfz16_3 := blk_frozen BK210.out 3) | ((with_reducible refine gate_callee (f := 38) rfl ?_); refine goesL_ (some 5) rfl rfl Tryd.func38 (by kernel_rfl) rfl #[.agg #[.int .i64 a0_0, .int .u64 a0_1, .int .u64 a0_2, .slice A0_3 l0_3.length c0_3]] rfl (by (try simp only [List.map_toArray, List.map_cons, List.map_nil]); first | done | rfl | (simp only [List.length_drop, List.length_take]; rfl)) ?_; (with_reducible refine (interchangeref07_form.calls k a0_0 a0_1 a0_2 _ _ l0_3 false _ ?side1 ?side2 A2.out).mono ?_); (case side1 => repeat (first | exact (Kd.C_below HR0_3.out HB.out) | (with_reducible refine Kd.C_alloc ?_ _) | (with_reducible refine Kd.C_drewN ?_ _) | (with_reducible refine Kd.C_drew ?_))); (case side2 => exact HC0_3.out); rintro e w17 ⟨rfl, hb⟩; refine ⟨_, rfl, ?_⟩; have n0_ := Aside0.mk (blk_below (g := gb210) (o := .cells #[.int .i64 a0_0, .int .u64 a0_1, .int .u64 a0_2, .slice A0_3 l0_3.length c0_3] 25 (0, 0)) (by (with_reducible repeat (first | refine blk_drewN ?_ _ | refine blk_drew ?_ | refine blk_alloc ?_ _)); exact BK210.out) hb); have n1_ := Aside0.mk (below_step (by repeat (first | (with_reducible first | exact HB.out | apply below_alloc | apply pw_below_drewN | apply below_drew1 | refine below_set ?_ GE210.out) | exact HB.out)) hb); clear BK210; clear HB; have BK210 := n0_; have HB := n1_; clear n0_ n1_; (try clear hb); (try clear hb2); (try clear hk); (try clear hi)))
    go_ret
    exact ⟨by first | rfl | (simp [errW_none, errW_some] <;> rfl) | (simp [*, errW_none, errW_some] <;> rfl), by repeat (first | (with_reducible first | exact HB.out | apply below_alloc | apply pw_below_drewN | apply below_drew1 | refine below_set ?_ GE210.out) | exact HB.out)⟩


end Go.Proofs.YthpfcplhlhnfeaaDoor.F
namespace Go.Proofs.YthpfcplhlhnfeaaDoor.F
open Go.RowKit Go.Proofs.YthpfcplhlhnfeaaDoorW.PrintWords Go.Proofs.YthpfcplhlhnfeaaDoorW.PrintLast Go.Proofs.YthpfcplhlhnfeaaDoorW.PrintMore
attribute [local go_sem] max2_int min2_int max_two min_two max_three min_three max_four min_four
set_option linter.unusedVariables false
set_option linter.unusedSimpArgs false
set_option maxRecDepth 4000
set_option linter.unnecessarySimpa false

/-! ### interchangeref07_Bytes: function 15 -/
mutual
def interchangeref07_Bytes.l0 : Nat → ByteArray → List Int → Int → Int → Int → Int → List (S42) → Option (ByteArray × Int)
  | 0, _, _, _, _, _, _, _ => none
  | k + 1, x9, x10, x11, x220000, x220001, x220002, x220003 => if x11 < (x10.length : Int) then (if 0 ≤ x11 then (if 0 ≤ (rd x10 x11) then (if (rd x10 x11) < 14 then (if x11 < (x220003.length : Int) then (if (bt (⟨#[83, 83, 84, 111, 111, 83, 83, 83, 83, 113, 83, 83, 83, 83]⟩ : ByteArray) (rd x10 x11)) = 111 then ((interchangeref01_Put.f k 1 ((rd_T42 x220003 x11).f0)).bind fun bt231 => (interchangeref07_Bytes.j1 k x9 x10 x11 (bt (⟨#[83, 83, 84, 111, 111, 83, 83, 83, 83, 113, 83, 83, 83, 83]⟩ : ByteArray) (rd x10 x11)) bt231.1 x220000 x220001 x220002 x220003 ((rd_T42 x220003 x11).f0) ((rd_T42 x220003 x11).f1))) else (interchangeref07_Bytes.j1 k x9 x10 x11 (bt (⟨#[83, 83, 84, 111, 111, 83, 83, 83, 83, 113, 83, 83, 83, 83]⟩ : ByteArray) (rd x10 x11)) ((rd_T42 x220003 x11).f1) x220000 x220001 x220002 x220003 ((rd_T42 x220003 x11).f0) ((rd_T42 x220003 x11).f1))) else (none)) else (none)) else (none)) else (none)) else (some (x9, 0))
def interchangeref07_Bytes.j1 : Nat → ByteArray → List Int → Int → Int → ByteArray → Int → Int → Int → List (S42) → Int → ByteArray → Option (ByteArray × Int)
  | 0, _, _, _, _, _, _, _, _, _, _, _ => none
  | k + 1, x9, x10, x11, x12, x14, x220000, x220001, x220002, x220003, x231000, x231001 => if x12 = 113 then ((interchangeref01_Put.f k 8 x231000).bind fun bt233 => (if x12 = 83 then ((interchangeref02_Short.f x231001).bind fun bt235 => (if x9.size + bt235.1.size ≤ 9223372036854775807 then (interchangeref07_Bytes.l0 k (x9 ++ bt235.1) x10 (wrap64 (x11 + 1)) x220000 x220001 x220002 x220003) else (none))) else (if x9.size + bt233.1.size ≤ 9223372036854775807 then (interchangeref07_Bytes.l0 k (x9 ++ bt233.1) x10 (wrap64 (x11 + 1)) x220000 x220001 x220002 x220003) else (none)))) else (if x12 = 83 then ((interchangeref02_Short.f x231001).bind fun bt237 => (if x9.size + bt237.1.size ≤ 9223372036854775807 then (interchangeref07_Bytes.l0 k (x9 ++ bt237.1) x10 (wrap64 (x11 + 1)) x220000 x220001 x220002 x220003) else (none))) else (if x9.size + x14.size ≤ 9223372036854775807 then (interchangeref07_Bytes.l0 k (x9 ++ x14) x10 (wrap64 (x11 + 1)) x220000 x220001 x220002 x220003) else (none)))
end
def interchangeref07_Bytes.f (k : Nat) (a0_0 : Int) (a0_1 : Int) (a0_2 : Int) (l0_3 : List (S42)) : Option (ByteArray × Int) := (interchangeref07_Right.f k a0_0 a0_1 a0_2 l0_3).bind fun t220 => (if t220 = 0 then ((interchangeref01_Put.f k 8 a0_1).bind fun bt221 => ((interchangeref01_Put.f k 2 a0_2).bind fun bt223 => (if 4 + bt221.1.size ≤ 9223372036854775807 then (if ((⟨#[0, 60, 0, 0]⟩ : ByteArray) ++ bt221.1).size + bt223.1.size ≤ 9223372036854775807 then ((interchangeref07_Which.f k a0_2).bind fun t225 => (interchangeref07_Bytes.l0 k (((⟨#[0, 60, 0, 0]⟩ : ByteArray) ++ bt221.1) ++ bt223.1) t225 0 a0_0 a0_1 a0_2 l0_3)) else (none)) else (none)))) else (some ((⟨#[]⟩ : ByteArray), t220)))
theorem interchangeref07_Bytes.mono_l : ∀ k, (∀ y0 y1 y2 y3 y4 y5 y6, LeO (interchangeref07_Bytes.l0 k y0 y1 y2 y3 y4 y5 y6) (interchangeref07_Bytes.l0 (k + 1) y0 y1 y2 y3 y4 y5 y6)) ∧ (∀ y0 y1 y2 y3 y4 y5 y6 y7 y8 y9 y10, LeO (interchangeref07_Bytes.j1 k y0 y1 y2 y3 y4 y5 y6 y7 y8 y9 y10) (interchangeref07_Bytes.j1 (k + 1) y0 y1 y2 y3 y4 y5 y6 y7 y8 y9 y10))
  | 0 => ⟨fun _ _ _ _ _ _ _ r h => by simp [interchangeref07_Bytes.l0] at h, fun _ _ _ _ _ _ _ _ _ _ _ r h => by simp [interchangeref07_Bytes.j1] at h⟩
  | k + 1 => by
    obtain ⟨ih0, ih1⟩ := interchangeref07_Bytes.mono_l k
    refine ⟨?_, ?_⟩
    · intro y0 y1 y2 y3 y4 y5 y6
      unfold interchangeref07_Bytes.l0
      repeat' first
      | (with_reducible exact ih0 _ _ _ _ _ _ _)
      | (with_reducible exact ih1 _ _ _ _ _ _ _ _ _ _ _)
      | (with_reducible exact interchangeref01_Put.mono _ _ _)
      | (with_reducible exact interchangeref07_Right.mono _ _ _ _ _)
      | (with_reducible exact interchangeref07_Which.mono _ _)
      | (with_reducible exact LeO.refl _)
      | (with_reducible exact LeO.none _)
      | (with_reducible refine LeO.ite ?_ ?_)
      | (with_reducible refine LeO.bind ?_ (fun _ => ?_))
      | exact ih0 _ _ _ _ _ _ _
      | exact ih1 _ _ _ _ _ _ _ _ _ _ _
      | exact interchangeref01_Put.mono _ _ _
      | exact interchangeref07_Right.mono _ _ _ _ _
      | exact interchangeref07_Which.mono _ _
      | exact LeO.none _
      | refine LeO.ite ?_ ?_
      | refine LeO.bind ?_ (fun _ => ?_)
    · intro y0 y1 y2 y3 y4 y5 y6 y7 y8 y9 y10
      unfold interchangeref07_Bytes.j1
      repeat' first
      | (with_reducible exact ih0 _ _ _ _ _ _ _)
      | (with_reducible exact ih1 _ _ _ _ _ _ _ _ _ _ _)
      | (with_reducible exact interchangeref01_Put.mono _ _ _)
      | (with_reducible exact interchangeref07_Right.mono _ _ _ _ _)
      | (with_reducible exact interchangeref07_Which.mono _ _)
      | (with_reducible exact LeO.refl _)
      | (with_reducible exact LeO.none _)
      | (with_reducible refine LeO.ite ?_ ?_)
      | (with_reducible refine LeO.bind ?_ (fun _ => ?_))
      | exact ih0 _ _ _ _ _ _ _
      | exact ih1 _ _ _ _ _ _ _ _ _ _ _
      | exact interchangeref01_Put.mono _ _ _
      | exact interchangeref07_Right.mono _ _ _ _ _
      | exact interchangeref07_Which.mono _ _
      | exact LeO.none _
      | refine LeO.ite ?_ ?_
      | refine LeO.bind ?_ (fun _ => ?_)
theorem interchangeref07_Bytes.mono : ∀ a0 a1 a2 a3 k, LeO (interchangeref07_Bytes.f k a0 a1 a2 a3) (interchangeref07_Bytes.f (k + 1) a0 a1 a2 a3) := by
  intro a0 a1 a2 a3 k
  obtain ⟨ih0, ih1⟩ := interchangeref07_Bytes.mono_l k
  unfold interchangeref07_Bytes.f
  repeat' first
      | (with_reducible exact ih0 _ _ _ _ _ _ _)
      | (with_reducible exact ih1 _ _ _ _ _ _ _ _ _ _ _)
      | (with_reducible exact interchangeref01_Put.mono _ _ _)
      | (with_reducible exact interchangeref07_Right.mono _ _ _ _ _)
      | (with_reducible exact interchangeref07_Which.mono _ _)
      | (with_reducible exact LeO.refl _)
      | (with_reducible exact LeO.none _)
      | (with_reducible refine LeO.ite ?_ ?_)
      | (with_reducible refine LeO.bind ?_ (fun _ => ?_))
      | exact ih0 _ _ _ _ _ _ _
      | exact ih1 _ _ _ _ _ _ _ _ _ _ _
      | exact interchangeref01_Put.mono _ _ _
      | exact interchangeref07_Right.mono _ _ _ _ _
      | exact interchangeref07_Which.mono _ _
      | exact LeO.none _
      | refine LeO.ite ?_ ?_
      | refine LeO.bind ?_ (fun _ => ?_)
set_option maxHeartbeats 8000000 in
set_option maxRecDepth 100000 in
theorem interchangeref07_Bytes.calls (k : Nat) (a0_0 : Int) (a0_1 : Int) (a0_2 : Int) (A0_3 : Option Addr) (c0_3 : Nat) (l0_3 : List (S42)) (r1 : ByteArray) (r2 : Int) (w : World) (hr0_3 : Kd.C k42 w A0_3 l0_3.length l0_3) (hc0_3 : l0_3.length ≤ c0_3) (h : interchangeref07_Bytes.f k a0_0 a0_1 a0_2 l0_3 = some (r1, r2)) :
    Calls Tryd.prog 15 #[.agg #[.int .i64 a0_0, .int .u64 a0_1, .int .u64 a0_2, .slice A0_3 l0_3.length c0_3]] w fun e w' => e = .returned (.tuple #[.string r1, .int .i64 r2]) ∧ Below w.heap.size w w' := by
  have hu25 := Tryd.underlying25
  have hu42 := Tryd.underlying42
  have HR0_3 := Aside0.mk hr0_3
  have HC0_3 := Aside0.mk hc0_3
  clear hr0_3 hc0_3
  have HB := Aside0.mk (Below.refl w.heap.size w)
  have H : ((interchangeref07_Right.f k a0_0 a0_1 a0_2 l0_3).bind fun t220 => (if t220 = 0 then ((interchangeref01_Put.f k 8 a0_1).bind fun bt221 => ((interchangeref01_Put.f k 2 a0_2).bind fun bt223 => (if 4 + bt221.1.size ≤ 9223372036854775807 then (if ((⟨#[0, 60, 0, 0]⟩ : ByteArray) ++ bt221.1).size + bt223.1.size ≤ 9223372036854775807 then ((interchangeref07_Which.f k a0_2).bind fun t225 => (interchangeref07_Bytes.l0 k (((⟨#[0, 60, 0, 0]⟩ : ByteArray) ++ bt221.1) ++ bt223.1) t225 0 a0_0 a0_1 a0_2 l0_3)) else (none)) else (none)))) else (some ((⟨#[]⟩ : ByteArray), t220)))) = some (r1, r2) := h
  clear h
  replace H := Option.bind_eq_some_iff.mp H
  obtain ⟨t220, A20, H⟩ := H
  replace H : (if t220 = 0 then ((interchangeref01_Put.f k 8 a0_1).bind fun bt221 => ((interchangeref01_Put.f k 2 a0_2).bind fun bt223 => (if 4 + bt221.1.size ≤ 9223372036854775807 then (if ((⟨#[0, 60, 0, 0]⟩ : ByteArray) ++ bt221.1).size + bt223.1.size ≤ 9223372036854775807 then ((interchangeref07_Which.f k a0_2).bind fun t225 => (interchangeref07_Bytes.l0 k (((⟨#[0, 60, 0, 0]⟩ : ByteArray) ++ bt221.1) ++ bt223.1) t225 0 a0_0 a0_1 a0_2 l0_3)) else (none)) else (none)))) else (some ((⟨#[]⟩ : ByteArray), t220))) = some (r1, r2) := H
  have A2 := Aside0.mk A20
  clear A20
  by_cases c3 : t220 = 0
  · rw [if_pos c3] at H
    have c3b0 : (t220 == 0) = true := beq_iff_eq.mpr c3
    have c3b1 : (t220 != 0) = false := bne_eq_false_iff_eq.mpr c3
    clear c3
    replace H := Option.bind_eq_some_iff.mp H
    obtain ⟨⟨t221, t222⟩, A40, H⟩ := H
    replace H : ((interchangeref01_Put.f k 2 a0_2).bind fun bt223 => (if 4 + t221.size ≤ 9223372036854775807 then (if ((⟨#[0, 60, 0, 0]⟩ : ByteArray) ++ t221).size + bt223.1.size ≤ 9223372036854775807 then ((interchangeref07_Which.f k a0_2).bind fun t225 => (interchangeref07_Bytes.l0 k (((⟨#[0, 60, 0, 0]⟩ : ByteArray) ++ t221) ++ bt223.1) t225 0 a0_0 a0_1 a0_2 l0_3)) else (none)) else (none))) = some (r1, r2) := H
    have A4 := Aside0.mk A40
    clear A40
    replace H := Option.bind_eq_some_iff.mp H
    obtain ⟨⟨t223, t224⟩, A50, H⟩ := H
    replace H : (if 4 + t221.size ≤ 9223372036854775807 then (if ((⟨#[0, 60, 0, 0]⟩ : ByteArray) ++ t221).size + t223.size ≤ 9223372036854775807 then ((interchangeref07_Which.f k a0_2).bind fun t225 => (interchangeref07_Bytes.l0 k (((⟨#[0, 60, 0, 0]⟩ : ByteArray) ++ t221) ++ t223) t225 0 a0_0 a0_1 a0_2 l0_3)) else (none)) else (none)) = some (r1, r2) := H
    have A5 := Aside0.mk A50
    clear A50
    by_cases c6 : 4 + t221.size ≤ 9223372036854775807
    · rw [if_pos c6] at H
      have c6b0 := eq_true c6
      have c6b1 : decide (4 + t221.size ≤ 9223372036854775807) = true := decide_eq_true c6
      try have c6b2 : (9223372036854775807 < 4 + t221.size) = False := eq_false (Nat.not_lt.2 c6)
      by_cases c7 : ((⟨#[0, 60, 0, 0]⟩ : ByteArray) ++ t221).size + t223.size ≤ 9223372036854775807
      · rw [if_pos c7] at H
        have c7b0 := eq_true c7
        have c7b1 : decide (((⟨#[0, 60, 0, 0]⟩ : ByteArray) ++ t221).size + t223.size ≤ 9223372036854775807) = true := decide_eq_true c7
        try have c7b2 : (9223372036854775807 < ((⟨#[0, 60, 0, 0]⟩ : ByteArray) ++ t221).size + t223.size) = False := eq_false (Nat.not_lt.2 c7)
        try have c7b3 : (9223372036854775807 < 4 + t221.size + t223.size) = False := eq_false (by have h_ := c7; have e0_ : ((⟨#[0, 60, 0, 0]⟩ : ByteArray) : ByteArray).size = 4 := rfl; simp only [ByteArray.size_append, e0_] at h_; omega)
        replace H := Option.bind_eq_some_iff.mp H
        obtain ⟨t225, A80, H⟩ := H
        replace H : (interchangeref07_Bytes.l0 k (((⟨#[0, 60, 0, 0]⟩ : ByteArray) ++ t221) ++ t223) t225 0 a0_0 a0_1 a0_2 l0_3) = some (r1, r2) := H
        have A8 := Aside0.mk A80
        clear A80
        have H' := Aside0.mk H
        clear H
        go_enter Tryd.func15, Tryd.ntmps15
        go_wp2_with (first | ((with_reducible refine gate_dst (N := 1) rfl ?_); refine box_event ?hg (N := 1) ?hd (cs := #[.int .i64 a0_0, .int .u64 a0_1, .int .u64 a0_2, .slice A0_3 l0_3.length c0_3]) (t := 25) ?hr ?_; (case hd => rfl); (case hg => rfl); (case hr => first | (go_simp; done) | (go_simp; rfl)); intro gb219 hg w9 hbox hb; have n0_ := Aside0.mk (below_step (by repeat (first | (with_reducible first | exact HB.out | apply below_alloc | apply pw_below_drewN | apply below_drew1) | exact HB.out)) hb); have n1_ := Aside0.mk (hbox); have n2_ := Aside0.mk ((by rw [hg]; exact (below_size (by repeat (first | (with_reducible first | exact HB.out | apply below_alloc | apply pw_below_drewN | apply below_drew1) | exact HB.out))) : w.heap.size ≤ gb219)); have n3_ := Aside0.mk ((by rw [hg]; exact (below_size (by repeat (first | (with_reducible first | exact HB.out | apply below_alloc | apply pw_below_drewN | apply below_drew1) | exact HB.out))) : w.heap.size ≤ gb219)); clear HB; have HB := n0_; have BK219 := n1_; have GW219 := n2_; have GE219 := n3_; clear n0_ n1_ n2_ n3_; clear hb hbox hg; have hcz10_0 : w9.cell? ⟨gb219, 0, none⟩ = some (.int .i64 a0_0) := (blk_cell BK219.out 0).trans rfl; have hcz10_1 : w9.cell? ⟨gb219, 1, none⟩ = some (.int .u64 a0_1) := (blk_cell BK219.out 1).trans rfl; have hcz10_2 : w9.cell? ⟨gb219, 2, none⟩ = some (.int .u64 a0_2) := (blk_cell BK219.out 2).trans rfl; have hcz10_3 : w9.cell? ⟨gb219, 3, none⟩ = some (.slice A0_3 l0_3.length c0_3) := (blk_cell BK219.out 3).trans rfl; have hfz10_0 := blk_frozen BK219.out 0; have hfz10_1 := blk_frozen BK219.out 1; have hfz10_2 := blk_frozen BK219.out 2; have hfz10_3 := blk_frozen BK219.out 3) | ((with_reducible refine gate_callee (f := 32) rfl ?_); refine goesL_ (some 16) rfl rfl Tryd.func32 (by kernel_rfl) rfl #[.agg #[.int .i64 a0_0, .int .u64 a0_1, .int .u64 a0_2, .slice A0_3 l0_3.length c0_3]] rfl (by (try simp only [List.map_toArray, List.map_cons, List.map_nil]); first | done | rfl | (simp only [List.length_drop, List.length_take]; rfl)) ?_; (with_reducible refine (interchangeref07_Right.calls k a0_0 a0_1 a0_2 _ _ l0_3 t220 _ ?side1 ?side2 A2.out).mono ?_); (case side1 => repeat (first | exact (Kd.C_below HR0_3.out HB.out) | (with_reducible refine Kd.C_alloc ?_ _) | (with_reducible refine Kd.C_drewN ?_ _) | (with_reducible refine Kd.C_drew ?_))); (case side2 => exact HC0_3.out); rintro e w11 ⟨rfl, hb⟩; refine ⟨_, rfl, ?_⟩; have n0_ := Aside0.mk (blk_below (g := gb219) (o := .cells #[.int .i64 a0_0, .int .u64 a0_1, .int .u64 a0_2, .slice A0_3 l0_3.length c0_3] 25 (0, 0)) (by (with_reducible repeat (first | refine blk_drewN ?_ _ | refine blk_drew ?_ | refine blk_alloc ?_ _)); exact BK219.out) hb); have n1_ := Aside0.mk (below_step (by repeat (first | (with_reducible first | exact HB.out | apply below_alloc | apply pw_below_drewN | apply below_drew1 | refine below_set ?_ GE219.out) | exact HB.out)) hb); clear BK219; clear HB; have BK219 := n0_; have HB := n1_; clear n0_ n1_; (try clear hb); (try clear hb2); (try clear hk); (try clear hi); have hcz12_0 : w11.cell? ⟨gb219, 0, none⟩ = some (.int .i64 a0_0) := (blk_cell BK219.out 0).trans rfl; have hcz12_1 : w11.cell? ⟨gb219, 1, none⟩ = some (.int .u64 a0_1) := (blk_cell BK219.out 1).trans rfl; have hcz12_2 : w11.cell? ⟨gb219, 2, none⟩ = some (.int .u64 a0_2) := (blk_cell BK219.out 2).trans rfl; have hcz12_3 : w11.cell? ⟨gb219, 3, none⟩ = some (.slice A0_3 l0_3.length c0_3) := (blk_cell BK219.out 3).trans rfl; have hfz12_0 := blk_frozen BK219.out 0; have hfz12_1 := blk_frozen BK219.out 1; have hfz12_2 := blk_frozen BK219.out 2; have hfz12_3 := blk_frozen BK219.out 3) | ((with_reducible refine gate_callee (f := 33) rfl ?_); refine goesL_ (some 23) rfl rfl Tryd.func33 (by kernel_rfl) rfl #[.int .i64 8, .int .u64 a0_1] rfl (by (try simp only [List.map_toArray, List.map_cons, List.map_nil]); first | done | rfl | (simp only [List.length_drop, List.length_take]; rfl)) ?_; (with_reducible refine (interchangeref01_Put.calls k 8 a0_1 t221 t222 _ A4.out).mono ?_); rintro e w13 ⟨rfl, hb⟩; refine ⟨_, rfl, ?_⟩; have n0_ := Aside0.mk (blk_below (g := gb219) (o := .cells #[.int .i64 a0_0, .int .u64 a0_1, .int .u64 a0_2, .slice A0_3 l0_3.length c0_3] 25 (0, 0)) (by (with_reducible repeat (first | refine blk_drewN ?_ _ | refine blk_drew ?_ | refine blk_alloc ?_ _)); exact BK219.out) hb); have n1_ := Aside0.mk (below_step (by repeat (first | (with_reducible first | exact HB.out | apply below_alloc | apply pw_below_drewN | apply below_drew1 | refine below_set ?_ GE219.out) | exact HB.out)) hb); clear BK219; clear HB; have BK219 := n0_; have HB := n1_; clear n0_ n1_; (try clear hb); (try clear hb2); (try clear hk); (try clear hi); have hcz14_0 : w13.cell? ⟨gb219, 0, none⟩ = some (.int .i64 a0_0) := (blk_cell BK219.out 0).trans rfl; have hcz14_1 : w13.cell? ⟨gb219, 1, none⟩ = some (.int .u64 a0_1) := (blk_cell BK219.out 1).trans rfl; have hcz14_2 : w13.cell? ⟨gb219, 2, none⟩ = some (.int .u64 a0_2) := (blk_cell BK219.out 2).trans rfl; have hcz14_3 : w13.cell? ⟨gb219, 3, none⟩ = some (.slice A0_3 l0_3.length c0_3) := (blk_cell BK219.out 3).trans rfl; have hfz14_0 := blk_frozen BK219.out 0; have hfz14_1 := blk_frozen BK219.out 1; have hfz14_2 := blk_frozen BK219.out 2; have hfz14_3 := blk_frozen BK219.out 3) | ((with_reducible refine gate_callee (f := 33) rfl ?_); refine goesL_ (some 29) rfl rfl Tryd.func33 (by kernel_rfl) rfl #[.int .i64 2, .int .u64 a0_2] rfl (by (try simp only [List.map_toArray, List.map_cons, List.map_nil]); first | done | rfl | (simp only [List.length_drop, List.length_take]; rfl)) ?_; (with_reducible refine (interchangeref01_Put.calls k 2 a0_2 t223 t224 _ A5.out).mono ?_); rintro e w15 ⟨rfl, hb⟩; refine ⟨_, rfl, ?_⟩; have n0_ := Aside0.mk (blk_below (g := gb219) (o := .cells #[.int .i64 a0_0, .int .u64 a0_1, .int .u64 a0_2, .slice A0_3 l0_3.length c0_3] 25 (0, 0)) (by (with_reducible repeat (first | refine blk_drewN ?_ _ | refine blk_drew ?_ | refine blk_alloc ?_ _)); exact BK219.out) hb); have n1_ := Aside0.mk (below_step (by repeat (first | (with_reducible first | exact HB.out | apply below_alloc | apply pw_below_drewN | apply below_drew1 | refine below_set ?_ GE219.out) | exact HB.out)) hb); clear BK219; clear HB; have BK219 := n0_; have HB := n1_; clear n0_ n1_; (try clear hb); (try clear hb2); (try clear hk); (try clear hi); have hcz16_0 : w15.cell? ⟨gb219, 0, none⟩ = some (.int .i64 a0_0) := (blk_cell BK219.out 0).trans rfl; have hcz16_1 : w15.cell? ⟨gb219, 1, none⟩ = some (.int .u64 a0_1) := (blk_cell BK219.out 1).trans rfl; have hcz16_2 : w15.cell? ⟨gb219, 2, none⟩ = some (.int .u64 a0_2) := (blk_cell BK219.out 2).trans rfl; have hcz16_3 : w15.cell? ⟨gb219, 3, none⟩ = some (.slice A0_3 l0_3.length c0_3) := (blk_cell BK219.out 3).trans rfl; have hfz16_0 := blk_frozen BK219.out 0; have hfz16_1 := blk_frozen BK219.out 1; have hfz16_2 := blk_frozen BK219.out 2; have hfz16_3 := blk_frozen BK219.out 3) | ((with_reducible refine gate_callee (f := 34) rfl ?_); refine goesL_ (some 38) rfl rfl Tryd.func34 (by kernel_rfl) rfl #[.int .u64 a0_2] rfl (by (try simp only [List.map_toArray, List.map_cons, List.map_nil]); first | done | rfl | (simp only [List.length_drop, List.length_take]; rfl)) ?_; (with_reducible refine (interchangeref07_Which.calls k a0_2 t225 _ A8.out).mono ?_); rintro e w17 ⟨v226, rfl, ho0, hb⟩; refine ⟨_, rfl, ?_⟩; have n0_ := Aside0.mk (Kd.R_lower ho0 (below_size (by repeat (first | (with_reducible first | exact HB.out | apply below_alloc | apply pw_below_drewN | apply below_drew1 | refine below_set ?_ GE219.out) | exact HB.out)))); have n1_ := Aside0.mk (blk_below (g := gb219) (o := .cells #[.int .i64 a0_0, .int .u64 a0_1, .int .u64 a0_2, .slice A0_3 l0_3.length c0_3] 25 (0, 0)) (by (with_reducible repeat (first | refine blk_drewN ?_ _ | refine blk_drew ?_ | refine blk_alloc ?_ _)); exact BK219.out) hb); have n2_ := Aside0.mk (below_step (by repeat (first | (with_reducible first | exact HB.out | apply below_alloc | apply pw_below_drewN | apply below_drew1 | refine below_set ?_ GE219.out) | exact HB.out)) hb); clear BK219; clear HB; have HO227 := n0_; have BK219 := n1_; have HB := n2_; clear n0_ n1_ n2_; (try clear hb); (try clear hb2); (try clear hk); (try clear hi); (try clear ho0)))
        go_loopg [9, 11] k (fun kq v9 v11 w' => ∃ (x9_1 : ByteArray) (x11_1 : Int), v9 = .string x9_1 ∧ v11 = .int .i64 x11_1 ∧ Aside0 (interchangeref07_Bytes.l0 kq x9_1 t225 x11_1 a0_0 a0_1 a0_2 l0_3 = some (r1, r2)) ∧ Aside0 (kq ≤ k) ∧ Aside0 (Kd.R (Kd.int .i64) 3 w' w.heap.size (fun _ => True) v226 t225) ∧ Aside0 (w'.heap[gb219]? = some (.cells #[.int .i64 a0_0, .int .u64 a0_1, .int .u64 a0_2, (.slice A0_3 l0_3.length c0_3)] 25 (0, 0))) ∧ Aside0 (Below w.heap.size w w'))
        case atStart => exact ⟨(((⟨#[0, 60, 0, 0]⟩ : ByteArray) ++ t221) ++ t223), (0), (by first | rfl | (simp; done) | (simp [*]; done)), (by first | rfl | (simp; done) | (simp [*]; done)), H', ⟨Nat.le_refl _⟩, ⟨by (with_reducible repeat (first | apply Kd.R_alloc | apply Kd.R_drewN | apply Kd.R_drew)); exact HO227.out⟩, ⟨by (with_reducible repeat (first | refine blk_drewN ?_ _ | refine blk_drew ?_ | refine blk_alloc ?_ _)); exact BK219.out⟩, ⟨by repeat (first | (with_reducible first | exact HB.out | apply below_alloc | apply pw_below_drewN | apply below_drew1 | refine below_set ?_ GE219.out) | exact HB.out)⟩⟩
        case round =>
          clear H'
          try clear c1
          try clear p2
          try clear c3
          try clear c3b0
          try clear c3b1
          try clear c6
          try clear c6b0
          try clear c6b1
          try clear c6b2
          try clear c7
          try clear c7b0
          try clear c7b1
          try clear c7b2
          try clear c15
          try clear hcz10_0
          try clear hcz10_1
          try clear hcz10_2
          try clear hcz10_3
          try clear hcz12_0
          try clear hcz12_1
          try clear hcz12_2
          try clear hcz12_3
          try clear hcz14_0
          try clear hcz14_1
          try clear hcz14_2
          try clear hcz14_3
          try clear hcz16_0
          try clear hcz16_1
          try clear hcz16_2
          try clear hcz16_3
          try clear hfz10_0
          try clear hfz10_1
          try clear hfz10_2
          try clear hfz10_3
          try clear hfz12_0
          try clear hfz12_1
          try clear hfz12_2
          try clear hfz12_3
          try clear hfz14_0
          try clear hfz14_1
          try clear hfz14_2
          try clear hfz14_3
          try clear hfz16_0
          try clear hfz16_1
          try clear hfz16_2
          try clear hfz16_3
          obtain ⟨x9_1, x11_1, rfl, rfl, HA, HK1, HO_10, BK219, HB⟩ := hrel
          cases gk with
          | zero => exact absurd HA.out (by simp [interchangeref07_Bytes.l0])
          | succ k1 =>
            have H := HA.out
            clear HA
            simp only [interchangeref07_Bytes.l0] at H
            by_cases c18 : x11_1 < (t225.length : Int)
            · rw [if_pos c18] at H
              have c18b0 : decide (x11_1 < (t225.length : Int)) = true := decide_eq_true c18
              clear c18
              by_cases c19 : 0 ≤ x11_1
              · rw [if_pos c19] at H
                have c19b0 : decide (0 ≤ x11_1) = true := decide_eq_true c19
                clear c19
                by_cases c20 : 0 ≤ (rd t225 x11_1)
                · rw [if_pos c20] at H
                  have c20b0 : decide (0 ≤ (rd t225 x11_1)) = true := decide_eq_true c20
                  clear c20
                  by_cases c21 : (rd t225 x11_1) < 14
                  · rw [if_pos c21] at H
                    have c21b0 : decide ((rd t225 x11_1) < 14) = true := decide_eq_true c21
                    clear c21
                    by_cases c23 : x11_1 < (l0_3.length : Int)
                    · rw [if_pos c23] at H
                      have c23b0 : decide (x11_1 < (l0_3.length : Int)) = true := decide_eq_true c23
                      clear c23
                      have HC24 := Aside0.mk H
                      clear H
                      obtain ⟨Ao25, co25, eo25⟩ := Kd.R_slice HO_10.out
                      subst eo25
                      have p228 : 0 ≤ (x11_1 : Int) := of_decide_eq_true (by first | (with_reducible assumption) | assumption)
                      have q228 : x11_1 < (t225.length : Int) := of_decide_eq_true (by first | (with_reducible assumption) | assumption)
                      obtain ⟨ad228, e228, hx228_0⟩ := Kd.at_int (Kd.R_reads' HO_10.out).2.2 x11_1 p228 q228
                      cases e228
                      replace p228 := eq_true p228
                      replace q228 := eq_true q228
                      have p22 : 0 ≤ ((rd t225 x11_1) : Int) := of_decide_eq_true (by first | (with_reducible assumption) | assumption)
                      have q22 : (rd t225 x11_1) < (14 : Int) := of_decide_eq_true (by first | (with_reducible assumption) | assumption)
                      have hx22 := bt_at (⟨#[83, 83, 84, 111, 111, 83, 83, 83, 83, 113, 83, 83, 83, 83]⟩ : ByteArray) (rd t225 x11_1)
                      replace p22 := eq_true p22
                      replace q22 := eq_true q22
                      have hcz26_0 : wr.cell? ⟨gb219, 0, none⟩ = some (.int .i64 a0_0) := (blk_cell BK219.out 0).trans rfl
                      have hcz26_1 : wr.cell? ⟨gb219, 1, none⟩ = some (.int .u64 a0_1) := (blk_cell BK219.out 1).trans rfl
                      have hcz26_2 : wr.cell? ⟨gb219, 2, none⟩ = some (.int .u64 a0_2) := (blk_cell BK219.out 2).trans rfl
                      have hcz26_3 : wr.cell? ⟨gb219, 3, none⟩ = some (.slice A0_3 l0_3.length c0_3) := (blk_cell BK219.out 3).trans rfl
                      have hfz26_0 := blk_frozen BK219.out 0
                      have hfz26_1 := blk_frozen BK219.out 1
                      have hfz26_2 := blk_frozen BK219.out 2
                      have hfz26_3 := blk_frozen BK219.out 3
                      have p229 : 0 ≤ (x11_1 : Int) := of_decide_eq_true (by first | (with_reducible assumption) | assumption)
                      have q229 : x11_1 < (l0_3.length : Int) := of_decide_eq_true (by first | (with_reducible assumption) | assumption)
                      obtain ⟨ad229, e229, hx229_0, hx229_1⟩ := at_T42 HR0_3.out x11_1 p229 q229
                      cases e229
                      replace hx229_0 := (HB.out.cell (World.block_lt_of_cell? w _ hx229_0)).trans hx229_0
                      replace hx229_1 := (HB.out.cell (World.block_lt_of_cell? w _ hx229_1)).trans hx229_1
                      replace p229 := eq_true p229
                      replace q229 := eq_true q229
                      go_upto_if 58 with (first | ((with_reducible refine gate_dst (N := 13) rfl ?_); refine box_event ?hg (N := 13) ?hd (cs := #[.int .u64 0, .string (⟨#[]⟩ : ByteArray)]) (t := 42) ?hr ?_; (case hd => rfl); (case hg => rfl); (case hr => first | (go_simp; done) | (go_simp; rfl)); intro gb230 hg w27 hbox hb; have n0_ := Aside0.mk (Kd.R_below (by (with_reducible repeat (first | apply Kd.R_alloc | apply Kd.R_drewN | apply Kd.R_drew)); exact HO_10.out) hb); have n1_ := Aside0.mk (blk_below (g := gb219) (o := .cells #[.int .i64 a0_0, .int .u64 a0_1, .int .u64 a0_2, .slice (some ad229) l0_3.length c0_3] 25 (0, 0)) (by (with_reducible repeat (first | refine blk_drewN ?_ _ | refine blk_drew ?_ | refine blk_alloc ?_ _)); exact BK219.out) hb); have n2_ := Aside0.mk (below_step (by repeat (first | (with_reducible first | exact HB.out | apply below_alloc | apply pw_below_drewN | apply below_drew1 | refine below_set ?_ GE219.out) | exact HB.out)) hb); have n3_ := Aside0.mk (hbox); have n4_ := Aside0.mk ((by rw [hg]; exact (below_size (by repeat (first | (with_reducible first | exact HB.out | apply below_alloc | apply pw_below_drewN | apply below_drew1 | refine below_set ?_ GE219.out) | exact HB.out))) : w.heap.size ≤ gb230)); have n5_ := Aside0.mk ((by rw [hg]; exact (below_size (by repeat (first | (with_reducible first | exact HB.out | apply below_alloc | apply pw_below_drewN | apply below_drew1 | refine below_set ?_ GE219.out) | exact HB.out))) : w.heap.size ≤ gb230)); have n6_ := Aside0.mk ((by rw [hg]; exact Nat.ne_of_lt (blk_lt (g := gb219) (o := .cells #[.int .i64 a0_0, .int .u64 a0_1, .int .u64 a0_2, .slice (some ad229) l0_3.length c0_3] 25 (0, 0)) (by (with_reducible repeat (first | refine blk_drewN ?_ _ | refine blk_drew ?_ | refine blk_alloc ?_ _)); exact BK219.out)) : gb219 ≠ gb230)); have n7_ := Aside0.mk ((by rw [hg]; exact Nat.ne_of_gt (blk_lt (g := gb219) (o := .cells #[.int .i64 a0_0, .int .u64 a0_1, .int .u64 a0_2, .slice (some ad229) l0_3.length c0_3] 25 (0, 0)) (by (with_reducible repeat (first | refine blk_drewN ?_ _ | refine blk_drew ?_ | refine blk_alloc ?_ _)); exact BK219.out)) : gb230 ≠ gb219)); clear HO_10; clear BK219; clear HB; have HO_10 := n0_; have BK219 := n1_; have HB := n2_; have BK230 := n3_; have GW230 := n4_; have GE230 := n5_; have NB219_230 := n6_; have NB230_219 := n7_; clear n0_ n1_ n2_ n3_ n4_ n5_ n6_ n7_; clear hb hbox hg; have hnb28 := NB230_219.out; have hnc28 := NB219_230.out; have hcz29_0 : w27.cell? ⟨gb230, 0, none⟩ = some (.int .u64 0) := (blk_cell BK230.out 0).trans rfl; have hcz29_1 : w27.cell? ⟨gb230, 1, none⟩ = some (.string (⟨#[]⟩ : ByteArray)) := (blk_cell BK230.out 1).trans rfl; have hfz29_0 := blk_frozen BK230.out 0; have hfz29_1 := blk_frozen BK230.out 1))
                      (try simp only [Act.put, List.setIfInBounds_toArray, List.set_cons_zero, List.set_cons_succ])
                      go_cut [14] (fun v14 wc => ∃ (kq : Nat) (x14_23 : ByteArray), v14 = .string x14_23 ∧ Aside0 (interchangeref07_Bytes.j1 kq x9_1 t225 x11_1 (bt (⟨#[83, 83, 84, 111, 111, 83, 83, 83, 83, 113, 83, 83, 83, 83]⟩ : ByteArray) (rd t225 x11_1)) x14_23 a0_0 a0_1 a0_2 l0_3 ((rd_T42 l0_3 x11_1).f0) ((rd_T42 l0_3 x11_1).f1) = some (r1, r2)) ∧ Aside0 (kq ≤ k1) ∧ Aside0 (Kd.R (Kd.int .i64) 3 wc w.heap.size (fun _ => True) (.slice (some ad228) t225.length co25) t225) ∧ Aside0 (wc.heap[gb219]? = some (.cells #[.int .i64 a0_0, .int .u64 a0_1, .int .u64 a0_2, (.slice (some ad229) l0_3.length c0_3)] 25 (0, 0))) ∧ Aside0 (wc.heap[gb230]? = some (.cells #[.int .u64 ((rd_T42 l0_3 x11_1).f0), .string ((rd_T42 l0_3 x11_1).f1)] 42 (0, 0))) ∧ Aside0 (Below w.heap.size w wc))
                      case first =>
                        have H := HC24.out
                        clear HC24
                        by_cases c30 : (bt (⟨#[83, 83, 84, 111, 111, 83, 83, 83, 83, 113, 83, 83, 83, 83]⟩ : ByteArray) (rd t225 x11_1)) = 111
                        · rw [if_pos c30] at H
                          have c30b0 : ((bt (⟨#[83, 83, 84, 111, 111, 83, 83, 83, 83, 113, 83, 83, 83, 83]⟩ : ByteArray) (rd t225 x11_1)) == 111) = true := beq_iff_eq.mpr c30
                          have c30b1 : ((bt (⟨#[83, 83, 84, 111, 111, 83, 83, 83, 83, 113, 83, 83, 83, 83]⟩ : ByteArray) (rd t225 x11_1)) != 111) = false := bne_eq_false_iff_eq.mpr c30
                          clear c30
                          (first | rw [c30b0] | (simp only [i64_w, i32_w]; rw [c30b0]) | skip)
                          replace H := Option.bind_eq_some_iff.mp H
                          obtain ⟨⟨t231, t232⟩, A310, H⟩ := H
                          replace H : (interchangeref07_Bytes.j1 k1 x9_1 t225 x11_1 (bt (⟨#[83, 83, 84, 111, 111, 83, 83, 83, 83, 113, 83, 83, 83, 83]⟩ : ByteArray) (rd t225 x11_1)) t231 a0_0 a0_1 a0_2 l0_3 ((rd_T42 l0_3 x11_1).f0) ((rd_T42 l0_3 x11_1).f1)) = some (r1, r2) := H
                          have A31 := Aside0.mk A310
                          clear A310
                          have H' := Aside0.mk H
                          clear H
                          have hnb32 := NB230_219.out
                          have hnc32 := NB219_230.out
                          have hcz33_0 : w27.cell? ⟨gb230, 0, none⟩ = some (.int .u64 0) := (blk_cell BK230.out 0).trans rfl
                          have hcz33_1 : w27.cell? ⟨gb230, 1, none⟩ = some (.string (⟨#[]⟩ : ByteArray)) := (blk_cell BK230.out 1).trans rfl
                          have hfz33_0 := blk_frozen BK230.out 0
                          have hfz33_1 := blk_frozen BK230.out 1
                          go_wp2_with (first | ((with_reducible refine gate_callee (f := 33) rfl ?_); refine goesL_ (some 62) rfl rfl Tryd.func33 (by kernel_rfl) rfl #[.int .i64 1, .int .u64 ((rd_T42 l0_3 x11_1).f0)] rfl (by (try simp only [List.map_toArray, List.map_cons, List.map_nil]); first | done | rfl | (simp only [List.length_drop, List.length_take]; rfl)) ?_; (with_reducible refine (interchangeref01_Put.calls k1 1 ((rd_T42 l0_3 x11_1).f0) t231 t232 _ A31.out).mono ?_); rintro e w34 ⟨rfl, hb⟩; refine ⟨_, rfl, ?_⟩; have n0_ := Aside0.mk (Kd.R_below (by (with_reducible repeat (first | apply Kd.R_alloc | apply Kd.R_drewN | apply Kd.R_drew)); exact (Kd.R_mono (Kd.R_far (p := ⟨gb230, 1, none⟩) (Kd.R_far (p := ⟨gb230, 0, none⟩) (Kd.R_types HO_10.out BK230.out (by decide)) (fun _ hk => hk.2) (.int .u64 ((rd_T42 l0_3 x11_1).f0))) (fun _ hk => hk.2) (.string ((rd_T42 l0_3 x11_1).f1))) (fun _ h_ => h_.1))) hb); have n1_ := Aside0.mk (blk_below (g := gb219) (o := .cells #[.int .i64 a0_0, .int .u64 a0_1, .int .u64 a0_2, .slice (some ad229) l0_3.length c0_3] 25 (0, 0)) (by (with_reducible repeat (first | refine blk_drewN ?_ _ | refine blk_drew ?_ | refine blk_alloc ?_ _)); refine blk_far ?_ NB219_230.out _; (with_reducible repeat (first | refine blk_drewN ?_ _ | refine blk_drew ?_ | refine blk_alloc ?_ _)); refine blk_far ?_ NB219_230.out _; (with_reducible repeat (first | refine blk_drewN ?_ _ | refine blk_drew ?_ | refine blk_alloc ?_ _)); exact BK219.out) hb); have n2_ := Aside0.mk (blk_below (g := gb230) (o := .cells #[.int .u64 ((rd_T42 l0_3 x11_1).f0), .string ((rd_T42 l0_3 x11_1).f1)] 42 (0, 0)) (by (with_reducible repeat (first | refine blk_drewN ?_ _ | refine blk_drew ?_ | refine blk_alloc ?_ _)); refine blk_put (cs := #[.int .u64 ((rd_T42 l0_3 x11_1).f0), .string (⟨#[]⟩ : ByteArray)]) ?_ 1 _ rfl; (with_reducible repeat (first | refine blk_drewN ?_ _ | refine blk_drew ?_ | refine blk_alloc ?_ _)); refine blk_put (cs := #[.int .u64 0, .string (⟨#[]⟩ : ByteArray)]) ?_ 0 _ rfl; (with_reducible repeat (first | refine blk_drewN ?_ _ | refine blk_drew ?_ | refine blk_alloc ?_ _)); exact BK230.out) hb); have n3_ := Aside0.mk (below_step (by repeat (first | (with_reducible first | exact HB.out | apply below_alloc | apply pw_below_drewN | apply below_drew1 | refine below_set ?_ GE219.out | refine below_set ?_ GE230.out) | exact HB.out)) hb); clear HO_10; clear BK219; clear BK230; clear HB; have HO_10 := n0_; have BK219 := n1_; have BK230 := n2_; have HB := n3_; clear n0_ n1_ n2_ n3_; (try clear hb); (try clear hb2); (try clear hk); (try clear hi)))
                          go_meet
                          case rel => exact ⟨_, (t231), (by first | rfl | (simp; done) | (simp [*]; done)), H', ⟨by have := HK1.out; first | omega | exact Nat.le_refl _⟩, ⟨by (with_reducible repeat (first | apply Kd.R_alloc | apply Kd.R_drewN | apply Kd.R_drew)); exact HO_10.out⟩, ⟨by (with_reducible repeat (first | refine blk_drewN ?_ _ | refine blk_drew ?_ | refine blk_alloc ?_ _)); exact BK219.out⟩, ⟨by (with_reducible repeat (first | refine blk_drewN ?_ _ | refine blk_drew ?_ | refine blk_alloc ?_ _)); exact BK230.out⟩, ⟨by repeat (first | (with_reducible first | exact HB.out | apply below_alloc | apply pw_below_drewN | apply below_drew1 | refine below_set ?_ GE219.out | refine below_set ?_ GE230.out) | exact HB.out)⟩⟩
                        · rw [if_neg c30] at H
                          have c30b0 : ((bt (⟨#[83, 83, 84, 111, 111, 83, 83, 83, 83, 113, 83, 83, 83, 83]⟩ : ByteArray) (rd t225 x11_1)) == 111) = false := beq_eq_false_iff_ne.mpr c30
                          have c30b1 : ((bt (⟨#[83, 83, 84, 111, 111, 83, 83, 83, 83, 113, 83, 83, 83, 83]⟩ : ByteArray) (rd t225 x11_1)) != 111) = true := bne_iff_ne.mpr c30
                          (first | rw [c30b0] | (simp only [i64_w, i32_w]; rw [c30b0]) | skip)
                          have H' := Aside0.mk H
                          clear H
                          go_wp2
                          go_meet
                          case rel => exact ⟨_, ((rd_T42 l0_3 x11_1).f1), (by first | rfl | (simp; done) | (simp [*]; done)), H', ⟨by have := HK1.out; first | omega | exact Nat.le_refl _⟩, ⟨by (with_reducible repeat (first | apply Kd.R_alloc | apply Kd.R_drewN | apply Kd.R_drew)); exact Kd.R_mono (Kd.R_far (p := ⟨gb230, 1, none⟩) (Kd.R_far (p := ⟨gb230, 0, none⟩) (Kd.R_types HO_10.out BK230.out (by decide)) (fun _ hk => hk.2) (.int .u64 ((rd_T42 l0_3 x11_1).f0))) (fun _ hk => hk.2) (.string ((rd_T42 l0_3 x11_1).f1))) (fun _ hk => trivial)⟩, ⟨by (with_reducible repeat (first | refine blk_drewN ?_ _ | refine blk_drew ?_ | refine blk_alloc ?_ _)); refine blk_far ?_ NB219_230.out _; (with_reducible repeat (first | refine blk_drewN ?_ _ | refine blk_drew ?_ | refine blk_alloc ?_ _)); refine blk_far ?_ NB219_230.out _; (with_reducible repeat (first | refine blk_drewN ?_ _ | refine blk_drew ?_ | refine blk_alloc ?_ _)); exact BK219.out⟩, ⟨by (with_reducible repeat (first | refine blk_drewN ?_ _ | refine blk_drew ?_ | refine blk_alloc ?_ _)); refine blk_put (cs := #[.int .u64 ((rd_T42 l0_3 x11_1).f0), .string (⟨#[]⟩ : ByteArray)]) ?_ 1 _ rfl; (with_reducible repeat (first | refine blk_drewN ?_ _ | refine blk_drew ?_ | refine blk_alloc ?_ _)); refine blk_put (cs := #[.int .u64 0, .string (⟨#[]⟩ : ByteArray)]) ?_ 0 _ rfl; (with_reducible repeat (first | refine blk_drewN ?_ _ | refine blk_drew ?_ | refine blk_alloc ?_ _)); exact BK230.out⟩, ⟨by repeat (first | (with_reducible first | exact HB.out | apply below_alloc | apply pw_below_drewN | apply below_drew1 | refine below_set ?_ GE219.out | refine below_set ?_ GE230.out) | exact HB.out)⟩⟩
                      case rest =>
                        clear HC24
                        try clear c1
                        try clear c2
                        try clear p2
                        try clear q2
                        try clear hx2
                        try clear c3
                        try clear c3b0
                        try clear c3b1
                        try clear c6
                        try clear c6b0
                        try clear c6b1
                        try clear c6b2
                        try clear c7
                        try clear c7b0
                        try clear c7b1
                        try clear c7b2
                        try clear c15
                        try clear c18
                        try clear c18b0
                        try clear c19
                        try clear c19b0
                        try clear c20
                        try clear c20b0
                        try clear c21
                        try clear c21b0
                        try clear p22
                        try clear q22
                        try clear hx22
                        try clear c23
                        try clear c23b0
                        try clear c28
                        try clear c30
                        try clear c30b0
                        try clear c30b1
                        try clear c32
                        try clear c33
                        try clear c34
                        try clear hcz10_0
                        try clear hcz10_1
                        try clear hcz10_2
                        try clear hcz10_3
                        try clear hcz12_0
                        try clear hcz12_1
                        try clear hcz12_2
                        try clear hcz12_3
                        try clear hcz14_0
                        try clear hcz14_1
                        try clear hcz14_2
                        try clear hcz14_3
                        try clear hcz16_0
                        try clear hcz16_1
                        try clear hcz16_2
                        try clear hcz16_3
                        try clear hcz26_0
                        try clear hcz26_1
                        try clear hcz26_2
                        try clear hcz26_3
                        try clear hcz29_0
                        try clear hcz29_1
                        try clear hcz33_0
                        try clear hcz33_1
                        try clear hfz10_0
                        try clear hfz10_1
                        try clear hfz10_2
                        try clear hfz10_3
                        try clear hfz12_0
                        try clear hfz12_1
                        try clear hfz12_2
                        try clear hfz12_3
                        try clear hfz14_0
                        try clear hfz14_1
                        try clear hfz14_2
                        try clear hfz14_3
                        try clear hfz16_0
                        try clear hfz16_1
                        try clear hfz16_2
                        try clear hfz16_3
                        try clear hfz26_0
                        try clear hfz26_1
                        try clear hfz26_2
                        try clear hfz26_3
                        try clear hfz29_0
                        try clear hfz29_1
                        try clear hfz33_0
                        try clear hfz33_1
                        try clear hx228_0
                        try clear hx229_0
                        try clear hx229_1
                        try clear p2
                        try clear p22
                        try clear p228
                        try clear p229
                        try clear q22
                        try clear q228
                        try clear q229
                        obtain ⟨kq, x14_23, rfl, HA, HJ23, HO_10, BK219, BK230, HB⟩ := hcut
                        cases kq with
                        | zero => exact absurd HA.out (by simp [interchangeref07_Bytes.j1])
                        | succ kj23 =>
                          have H := HA.out
                          clear HA
                          simp only [interchangeref07_Bytes.j1] at H
                          by_cases c35 : (bt (⟨#[83, 83, 84, 111, 111, 83, 83, 83, 83, 113, 83, 83, 83, 83]⟩ : ByteArray) (rd t225 x11_1)) = 113
                          · rw [if_pos c35] at H
                            have c35b0 : ((bt (⟨#[83, 83, 84, 111, 111, 83, 83, 83, 83, 113, 83, 83, 83, 83]⟩ : ByteArray) (rd t225 x11_1)) == 113) = true := beq_iff_eq.mpr c35
                            have c35b1 : ((bt (⟨#[83, 83, 84, 111, 111, 83, 83, 83, 83, 113, 83, 83, 83, 83]⟩ : ByteArray) (rd t225 x11_1)) != 113) = false := bne_eq_false_iff_eq.mpr c35
                            clear c35
                            replace H := Option.bind_eq_some_iff.mp H
                            obtain ⟨⟨t233, t234⟩, A360, H⟩ := H
                            replace H : (if (bt (⟨#[83, 83, 84, 111, 111, 83, 83, 83, 83, 113, 83, 83, 83, 83]⟩ : ByteArray) (rd t225 x11_1)) = 83 then ((interchangeref02_Short.f ((rd_T42 l0_3 x11_1).f1)).bind fun bt235 => (if x9_1.size + bt235.1.size ≤ 9223372036854775807 then (interchangeref07_Bytes.l0 kj23 (x9_1 ++ bt235.1) t225 (wrap64 (x11_1 + 1)) a0_0 a0_1 a0_2 l0_3) else (none))) else (if x9_1.size + t233.size ≤ 9223372036854775807 then (interchangeref07_Bytes.l0 kj23 (x9_1 ++ t233) t225 (wrap64 (x11_1 + 1)) a0_0 a0_1 a0_2 l0_3) else (none))) = some (r1, r2) := H
                            have A36 := Aside0.mk A360
                            clear A360
                            by_cases c37 : (bt (⟨#[83, 83, 84, 111, 111, 83, 83, 83, 83, 113, 83, 83, 83, 83]⟩ : ByteArray) (rd t225 x11_1)) = 83
                            · rw [if_pos c37] at H
                              have c37b0 : ((bt (⟨#[83, 83, 84, 111, 111, 83, 83, 83, 83, 113, 83, 83, 83, 83]⟩ : ByteArray) (rd t225 x11_1)) == 83) = true := beq_iff_eq.mpr c37
                              have c37b1 : ((bt (⟨#[83, 83, 84, 111, 111, 83, 83, 83, 83, 113, 83, 83, 83, 83]⟩ : ByteArray) (rd t225 x11_1)) != 83) = false := bne_eq_false_iff_eq.mpr c37
                              clear c37
                              replace H := Option.bind_eq_some_iff.mp H
                              obtain ⟨⟨t235, t236⟩, A380, H⟩ := H
                              replace H : (if x9_1.size + t235.size ≤ 9223372036854775807 then (interchangeref07_Bytes.l0 kj23 (x9_1 ++ t235) t225 (wrap64 (x11_1 + 1)) a0_0 a0_1 a0_2 l0_3) else (none)) = some (r1, r2) := H
                              have A38 := Aside0.mk A380
                              clear A380
                              by_cases c39 : x9_1.size + t235.size ≤ 9223372036854775807
                              · rw [if_pos c39] at H
                                have c39b0 := eq_true c39
                                have c39b1 : decide (x9_1.size + t235.size ≤ 9223372036854775807) = true := decide_eq_true c39
                                try have c39b2 : (9223372036854775807 < x9_1.size + t235.size) = False := eq_false (Nat.not_lt.2 c39)
                                have H' := Aside0.mk H
                                clear H
                                have hnb40 := NB230_219.out
                                have hnc40 := NB219_230.out
                                have hcz41_0 : wc.cell? ⟨gb230, 0, none⟩ = some (.int .u64 ((rd_T42 l0_3 x11_1).f0)) := (blk_cell BK230.out 0).trans rfl
                                have hcz41_1 : wc.cell? ⟨gb230, 1, none⟩ = some (.string ((rd_T42 l0_3 x11_1).f1)) := (blk_cell BK230.out 1).trans rfl
                                have hfz41_0 := blk_frozen BK230.out 0
                                have hfz41_1 := blk_frozen BK230.out 1
                                go_wp2_with (first | ((with_reducible refine gate_callee (f := 33) rfl ?_); refine goesL_ (some 70) rfl rfl Tryd.func33 (by kernel_rfl) rfl #[.int .i64 8, .int .u64 ((rd_T42 l0_3 x11_1).f0)] rfl (by (try simp only [List.map_toArray, List.map_cons, List.map_nil]); first | done | rfl | (simp only [List.length_drop, List.length_take]; rfl)) ?_; (with_reducible refine (interchangeref01_Put.calls kj23 8 ((rd_T42 l0_3 x11_1).f0) t233 t234 _ A36.out).mono ?_); rintro e w42 ⟨rfl, hb⟩; refine ⟨_, rfl, ?_⟩; have n0_ := Aside0.mk (Kd.R_below (by (with_reducible repeat (first | apply Kd.R_alloc | apply Kd.R_drewN | apply Kd.R_drew)); exact HO_10.out) hb); have n1_ := Aside0.mk (blk_below (g := gb219) (o := .cells #[.int .i64 a0_0, .int .u64 a0_1, .int .u64 a0_2, .slice (some ad229) l0_3.length c0_3] 25 (0, 0)) (by (with_reducible repeat (first | refine blk_drewN ?_ _ | refine blk_drew ?_ | refine blk_alloc ?_ _)); exact BK219.out) hb); have n2_ := Aside0.mk (blk_below (g := gb230) (o := .cells #[.int .u64 ((rd_T42 l0_3 x11_1).f0), .string ((rd_T42 l0_3 x11_1).f1)] 42 (0, 0)) (by (with_reducible repeat (first | refine blk_drewN ?_ _ | refine blk_drew ?_ | refine blk_alloc ?_ _)); exact BK230.out) hb); have n3_ := Aside0.mk (below_step (by repeat (first | (with_reducible first | exact HB.out | apply below_alloc | apply pw_below_drewN | apply below_drew1 | refine below_set ?_ GE219.out | refine below_set ?_ GE230.out) | exact HB.out)) hb); clear HO_10; clear BK219; clear BK230; clear HB; have HO_10 := n0_; have BK219 := n1_; have BK230 := n2_; have HB := n3_; clear n0_ n1_ n2_ n3_; (try clear hb); (try clear hb2); (try clear hk); (try clear hi); have hcz43_0 : w42.cell? ⟨gb230, 0, none⟩ = some (.int .u64 ((rd_T42 l0_3 x11_1).f0)) := (blk_cell BK230.out 0).trans rfl; have hcz43_1 : w42.cell? ⟨gb230, 1, none⟩ = some (.string ((rd_T42 l0_3 x11_1).f1)) := (blk_cell BK230.out 1).trans rfl; have hfz43_0 := blk_frozen BK230.out 0; have hfz43_1 := blk_frozen BK230.out 1) | ((with_reducible refine gate_callee (f := 35) rfl ?_); refine goesL_ (some 78) rfl rfl Tryd.func35 (by kernel_rfl) rfl #[.string ((rd_T42 l0_3 x11_1).f1)] rfl (by (try simp only [List.map_toArray, List.map_cons, List.map_nil]); first | done | rfl | (simp only [List.length_drop, List.length_take]; rfl)) ?_; (with_reducible refine (interchangeref02_Short.calls ((rd_T42 l0_3 x11_1).f1) t235 t236 _ A38.out).mono ?_); rintro e w44 ⟨rfl, hb⟩; refine ⟨_, rfl, ?_⟩; have n0_ := Aside0.mk (Kd.R_below (by (with_reducible repeat (first | apply Kd.R_alloc | apply Kd.R_drewN | apply Kd.R_drew)); exact HO_10.out) hb); have n1_ := Aside0.mk (blk_below (g := gb219) (o := .cells #[.int .i64 a0_0, .int .u64 a0_1, .int .u64 a0_2, .slice (some ad229) l0_3.length c0_3] 25 (0, 0)) (by (with_reducible repeat (first | refine blk_drewN ?_ _ | refine blk_drew ?_ | refine blk_alloc ?_ _)); exact BK219.out) hb); have n2_ := Aside0.mk (blk_below (g := gb230) (o := .cells #[.int .u64 ((rd_T42 l0_3 x11_1).f0), .string ((rd_T42 l0_3 x11_1).f1)] 42 (0, 0)) (by (with_reducible repeat (first | refine blk_drewN ?_ _ | refine blk_drew ?_ | refine blk_alloc ?_ _)); exact BK230.out) hb); have n3_ := Aside0.mk (below_step (by repeat (first | (with_reducible first | exact HB.out | apply below_alloc | apply pw_below_drewN | apply below_drew1 | refine below_set ?_ GE219.out | refine below_set ?_ GE230.out) | exact HB.out)) hb); clear HO_10; clear BK219; clear BK230; clear HB; have HO_10 := n0_; have BK219 := n1_; have BK230 := n2_; have HB := n3_; clear n0_ n1_ n2_ n3_; (try clear hb); (try clear hb2); (try clear hk); (try clear hi)))
                                go_roundg kj23
                                case measure => have := HK1.out; have := HJ23.out; omega
                                case rel => exact ⟨(x9_1 ++ t235), (wrap64 (x11_1 + 1)), (by first | rfl | (simp; done) | (simp [*]; done)), (by first | rfl | (simp; done) | (simp [*]; done)), H', ⟨by have := HK1.out; have := HJ23.out; omega⟩, ⟨by (with_reducible repeat (first | apply Kd.R_alloc | apply Kd.R_drewN | apply Kd.R_drew)); exact HO_10.out⟩, ⟨by (with_reducible repeat (first | refine blk_drewN ?_ _ | refine blk_drew ?_ | refine blk_alloc ?_ _)); exact BK219.out⟩, ⟨by repeat (first | (with_reducible first | exact HB.out | apply below_alloc | apply pw_below_drewN | apply below_drew1 | refine below_set ?_ GE219.out | refine below_set ?_ GE230.out) | exact HB.out)⟩⟩
                              · rw [if_neg c39] at H
                                exact absurd H (by simp)
                            · rw [if_neg c37] at H
                              have c37b0 : ((bt (⟨#[83, 83, 84, 111, 111, 83, 83, 83, 83, 113, 83, 83, 83, 83]⟩ : ByteArray) (rd t225 x11_1)) == 83) = false := beq_eq_false_iff_ne.mpr c37
                              have c37b1 : ((bt (⟨#[83, 83, 84, 111, 111, 83, 83, 83, 83, 113, 83, 83, 83, 83]⟩ : ByteArray) (rd t225 x11_1)) != 83) = true := bne_iff_ne.mpr c37
                              by_cases c45 : x9_1.size + t233.size ≤ 9223372036854775807
                              · rw [if_pos c45] at H
                                have c45b0 := eq_true c45
                                have c45b1 : decide (x9_1.size + t233.size ≤ 9223372036854775807) = true := decide_eq_true c45
                                try have c45b2 : (9223372036854775807 < x9_1.size + t233.size) = False := eq_false (Nat.not_lt.2 c45)
                                have H' := Aside0.mk H
                                clear H
                                have hnb46 := NB230_219.out
                                have hnc46 := NB219_230.out
                                have hcz47_0 : wc.cell? ⟨gb230, 0, none⟩ = some (.int .u64 ((rd_T42 l0_3 x11_1).f0)) := (blk_cell BK230.out 0).trans rfl
                                have hcz47_1 : wc.cell? ⟨gb230, 1, none⟩ = some (.string ((rd_T42 l0_3 x11_1).f1)) := (blk_cell BK230.out 1).trans rfl
                                have hfz47_0 := blk_frozen BK230.out 0
                                have hfz47_1 := blk_frozen BK230.out 1
                                go_wp2_with (first | ((with_reducible refine gate_callee (f := 33) rfl ?_); refine goesL_ (some 70) rfl rfl Tryd.func33 (by kernel_rfl) rfl #[.int .i64 8, .int .u64 ((rd_T42 l0_3 x11_1).f0)] rfl (by (try simp only [List.map_toArray, List.map_cons, List.map_nil]); first | done | rfl | (simp only [List.length_drop, List.length_take]; rfl)) ?_; (with_reducible refine (interchangeref01_Put.calls kj23 8 ((rd_T42 l0_3 x11_1).f0) t233 t234 _ A36.out).mono ?_); rintro e w48 ⟨rfl, hb⟩; refine ⟨_, rfl, ?_⟩; have n0_ := Aside0.mk (Kd.R_below (by (with_reducible repeat (first | apply Kd.R_alloc | apply Kd.R_drewN | apply Kd.R_drew)); exact HO_10.out) hb); have n1_ := Aside0.mk (blk_below (g := gb219) (o := .cells #[.int .i64 a0_0, .int .u64 a0_1, .int .u64 a0_2, .slice (some ad229) l0_3.length c0_3] 25 (0, 0)) (by (with_reducible repeat (first | refine blk_drewN ?_ _ | refine blk_drew ?_ | refine blk_alloc ?_ _)); exact BK219.out) hb); have n2_ := Aside0.mk (blk_below (g := gb230) (o := .cells #[.int .u64 ((rd_T42 l0_3 x11_1).f0), .string ((rd_T42 l0_3 x11_1).f1)] 42 (0, 0)) (by (with_reducible repeat (first | refine blk_drewN ?_ _ | refine blk_drew ?_ | refine blk_alloc ?_ _)); exact BK230.out) hb); have n3_ := Aside0.mk (below_step (by repeat (first | (with_reducible first | exact HB.out | apply below_alloc | apply pw_below_drewN | apply below_drew1 | refine below_set ?_ GE219.out | refine below_set ?_ GE230.out) | exact HB.out)) hb); clear HO_10; clear BK219; clear BK230; clear HB; have HO_10 := n0_; have BK219 := n1_; have BK230 := n2_; have HB := n3_; clear n0_ n1_ n2_ n3_; (try clear hb); (try clear hb2); (try clear hk); (try clear hi)))
                                go_roundg kj23
                                case measure => have := HK1.out; have := HJ23.out; omega
                                case rel => exact ⟨(x9_1 ++ t233), (wrap64 (x11_1 + 1)), (by first | rfl | (simp; done) | (simp [*]; done)), (by first | rfl | (simp; done) | (simp [*]; done)), H', ⟨by have := HK1.out; have := HJ23.out; omega⟩, ⟨by (with_reducible repeat (first | apply Kd.R_alloc | apply Kd.R_drewN | apply Kd.R_drew)); exact HO_10.out⟩, ⟨by (with_reducible repeat (first | refine blk_drewN ?_ _ | refine blk_drew ?_ | refine blk_alloc ?_ _)); exact BK219.out⟩, ⟨by repeat (first | (with_reducible first | exact HB.out | apply below_alloc | apply pw_below_drewN | apply below_drew1 | refine below_set ?_ GE219.out | refine below_set ?_ GE230.out) | exact HB.out)⟩⟩
                              · rw [if_neg c45] at H
                                exact absurd H (by simp)
                          · rw [if_neg c35] at H
                            have c35b0 : ((bt (⟨#[83, 83, 84, 111, 111, 83, 83, 83, 83, 113, 83, 83, 83, 83]⟩ : ByteArray) (rd t225 x11_1)) == 113) = false := beq_eq_false_iff_ne.mpr c35
                            have c35b1 : ((bt (⟨#[83, 83, 84, 111, 111, 83, 83, 83, 83, 113, 83, 83, 83, 83]⟩ : ByteArray) (rd t225 x11_1)) != 113) = true := bne_iff_ne.mpr c35
                            by_cases c49 : (bt (⟨#[83, 83, 84, 111, 111, 83, 83, 83, 83, 113, 83, 83, 83, 83]⟩ : ByteArray) (rd t225 x11_1)) = 83
                            · rw [if_pos c49] at H
                              have c49b0 : ((bt (⟨#[83, 83, 84, 111, 111, 83, 83, 83, 83, 113, 83, 83, 83, 83]⟩ : ByteArray) (rd t225 x11_1)) == 83) = true := beq_iff_eq.mpr c49
                              have c49b1 : ((bt (⟨#[83, 83, 84, 111, 111, 83, 83, 83, 83, 113, 83, 83, 83, 83]⟩ : ByteArray) (rd t225 x11_1)) != 83) = false := bne_eq_false_iff_eq.mpr c49
                              clear c49
                              replace H := Option.bind_eq_some_iff.mp H
                              obtain ⟨⟨t237, t238⟩, A500, H⟩ := H
                              replace H : (if x9_1.size + t237.size ≤ 9223372036854775807 then (interchangeref07_Bytes.l0 kj23 (x9_1 ++ t237) t225 (wrap64 (x11_1 + 1)) a0_0 a0_1 a0_2 l0_3) else (none)) = some (r1, r2) := H
                              have A50 := Aside0.mk A500
                              clear A500
                              by_cases c51 : x9_1.size + t237.size ≤ 9223372036854775807
                              · rw [if_pos c51] at H
                                have c51b0 := eq_true c51
                                have c51b1 : decide (x9_1.size + t237.size ≤ 9223372036854775807) = true := decide_eq_true c51
                                try have c51b2 : (9223372036854775807 < x9_1.size + t237.size) = False := eq_false (Nat.not_lt.2 c51)
                                have H' := Aside0.mk H
                                clear H
                                have hnb52 := NB230_219.out
                                have hnc52 := NB219_230.out
                                have hcz53_0 : wc.cell? ⟨gb230, 0, none⟩ = some (.int .u64 ((rd_T42 l0_3 x11_1).f0)) := (blk_cell BK230.out 0).trans rfl
                                have hcz53_1 : wc.cell? ⟨gb230, 1, none⟩ = some (.string ((rd_T42 l0_3 x11_1).f1)) := (blk_cell BK230.out 1).trans rfl
                                have hfz53_0 := blk_frozen BK230.out 0
                                have hfz53_1 := blk_frozen BK230.out 1
                                go_wp2_with (first | ((with_reducible refine gate_callee (f := 35) rfl ?_); refine goesL_ (some 78) rfl rfl Tryd.func35 (by kernel_rfl) rfl #[.string ((rd_T42 l0_3 x11_1).f1)] rfl (by (try simp only [List.map_toArray, List.map_cons, List.map_nil]); first | done | rfl | (simp only [List.length_drop, List.length_take]; rfl)) ?_; (with_reducible refine (interchangeref02_Short.calls ((rd_T42 l0_3 x11_1).f1) t237 t238 _ A50.out).mono ?_); rintro e w54 ⟨rfl, hb⟩; refine ⟨_, rfl, ?_⟩; have n0_ := Aside0.mk (Kd.R_below (by (with_reducible repeat (first | apply Kd.R_alloc | apply Kd.R_drewN | apply Kd.R_drew)); exact HO_10.out) hb); have n1_ := Aside0.mk (blk_below (g := gb219) (o := .cells #[.int .i64 a0_0, .int .u64 a0_1, .int .u64 a0_2, .slice (some ad229) l0_3.length c0_3] 25 (0, 0)) (by (with_reducible repeat (first | refine blk_drewN ?_ _ | refine blk_drew ?_ | refine blk_alloc ?_ _)); exact BK219.out) hb); have n2_ := Aside0.mk (blk_below (g := gb230) (o := .cells #[.int .u64 ((rd_T42 l0_3 x11_1).f0), .string ((rd_T42 l0_3 x11_1).f1)] 42 (0, 0)) (by (with_reducible repeat (first | refine blk_drewN ?_ _ | refine blk_drew ?_ | refine blk_alloc ?_ _)); exact BK230.out) hb); have n3_ := Aside0.mk (below_step (by repeat (first | (with_reducible first | exact HB.out | apply below_alloc | apply pw_below_drewN | apply below_drew1 | refine below_set ?_ GE219.out | refine below_set ?_ GE230.out) | exact HB.out)) hb); clear HO_10; clear BK219; clear BK230; clear HB; have HO_10 := n0_; have BK219 := n1_; have BK230 := n2_; have HB := n3_; clear n0_ n1_ n2_ n3_; (try clear hb); (try clear hb2); (try clear hk); (try clear hi)))
                                go_roundg kj23
                                case measure => have := HK1.out; have := HJ23.out; omega
                                case rel => exact ⟨(x9_1 ++ t237), (wrap64 (x11_1 + 1)), (by first | rfl | (simp; done) | (simp [*]; done)), (by first | rfl | (simp; done) | (simp [*]; done)), H', ⟨by have := HK1.out; have := HJ23.out; omega⟩, ⟨by (with_reducible repeat (first | apply Kd.R_alloc | apply Kd.R_drewN | apply Kd.R_drew)); exact HO_10.out⟩, ⟨by (with_reducible repeat (first | refine blk_drewN ?_ _ | refine blk_drew ?_ | refine blk_alloc ?_ _)); exact BK219.out⟩, ⟨by repeat (first | (with_reducible first | exact HB.out | apply below_alloc | apply pw_below_drewN | apply below_drew1 | refine below_set ?_ GE219.out | refine below_set ?_ GE230.out) | exact HB.out)⟩⟩
                              · rw [if_neg c51] at H
                                exact absurd H (by simp)
                            · rw [if_neg c49] at H
                              have c49b0 : ((bt (⟨#[83, 83, 84, 111, 111, 83, 83, 83, 83, 113, 83, 83, 83, 83]⟩ : ByteArray) (rd t225 x11_1)) == 83) = false := beq_eq_false_iff_ne.mpr c49
                              have c49b1 : ((bt (⟨#[83, 83, 84, 111, 111, 83, 83, 83, 83, 113, 83, 83, 83, 83]⟩ : ByteArray) (rd t225 x11_1)) != 83) = true := bne_iff_ne.mpr c49
                              by_cases c55 : x9_1.size + x14_23.size ≤ 9223372036854775807
                              · rw [if_pos c55] at H
                                have c55b0 := eq_true c55
                                have c55b1 : decide (x9_1.size + x14_23.size ≤ 9223372036854775807) = true := decide_eq_true c55
                                try have c55b2 : (9223372036854775807 < x9_1.size + x14_23.size) = False := eq_false (Nat.not_lt.2 c55)
                                have H' := Aside0.mk H
                                clear H
                                go_wp2
                                go_roundg kj23
                                case measure => have := HK1.out; have := HJ23.out; omega
                                case rel => exact ⟨(x9_1 ++ x14_23), (wrap64 (x11_1 + 1)), (by first | rfl | (simp; done) | (simp [*]; done)), (by first | rfl | (simp; done) | (simp [*]; done)), H', ⟨by have := HK1.out; have := HJ23.out; omega⟩, ⟨by (with_reducible repeat (first | apply Kd.R_alloc | apply Kd.R_drewN | apply Kd.R_drew)); exact HO_10.out⟩, ⟨by (with_reducible repeat (first | refine blk_drewN ?_ _ | refine blk_drew ?_ | refine blk_alloc ?_ _)); exact BK219.out⟩, ⟨by repeat (first | (with_reducible first | exact HB.out | apply below_alloc | apply pw_below_drewN | apply below_drew1 | refine below_set ?_ GE219.out | refine below_set ?_ GE230.out) | exact HB.out)⟩⟩
                              · rw [if_neg c55] at H
                                exact absurd H (by simp)
                    · rw [if_neg c23] at H
                      exact absurd H (by simp)
                  · rw [if_neg c21] at H
                    exact absurd H (by simp)
                · rw [if_neg c20] at H
                  exact absurd H (by simp)
              · rw [if_neg c19] at H
                exact absurd H (by simp)
            · rw [if_neg c18] at H
              have c18b0 : decide (x11_1 < (t225.length : Int)) = false := decide_eq_false c18
              clear c18
              simp only [Option.some.injEq, Prod.mk.injEq] at H
              obtain ⟨rfl, rfl⟩ := H
              obtain ⟨Ao56, co56, eo56⟩ := Kd.R_slice HO_10.out
              subst eo56
              go_wp2
              go_ret2
              exact ⟨by first | rfl | (simp [errW_none, errW_some] <;> rfl) | (simp [*, errW_none, errW_some] <;> rfl), by repeat (first | (with_reducible first | exact HB.out | apply below_alloc | apply pw_below_drewN | apply below_drew1 | refine below_set ?_ GE219.out) | exact HB.out)⟩
      · rw [if_neg c7] at H
        exact absurd H (by simp)
    · rw [if_neg c6] at H
      exact absurd H (by simp)
  · rw [if_neg c3] at H
    have c3b0 : (t220 == 0) = false := beq_eq_false_iff_ne.mpr c3
    have c3b1 : (t220 != 0) = true := bne_iff_ne.mpr c3
    simp only [Option.some.injEq, Prod.mk.injEq] at H
    obtain ⟨rfl, rfl⟩ := H
    go_enter Tryd.func15, Tryd.ntmps15
    go_wp2_with (first | ((with_reducible refine gate_dst (N := 1) rfl ?_); refine box_event ?hg (N := 1) ?hd (cs := #[.int .i64 a0_0, .int .u64 a0_1, .int .u64 a0_2, .slice A0_3 l0_3.length c0_3]) (t := 25) ?hr ?_; (case hd => rfl); (case hg => rfl); (case hr => first | (go_simp; done) | (go_simp; rfl)); intro gb219 hg w57 hbox hb; have n0_ := Aside0.mk (below_step (by repeat (first | (with_reducible first | exact HB.out | apply below_alloc | apply pw_below_drewN | apply below_drew1) | exact HB.out)) hb); have n1_ := Aside0.mk (hbox); have n2_ := Aside0.mk ((by rw [hg]; exact (below_size (by repeat (first | (with_reducible first | exact HB.out | apply below_alloc | apply pw_below_drewN | apply below_drew1) | exact HB.out))) : w.heap.size ≤ gb219)); have n3_ := Aside0.mk ((by rw [hg]; exact (below_size (by repeat (first | (with_reducible first | exact HB.out | apply below_alloc | apply pw_below_drewN | apply below_drew1) | exact HB.out))) : w.heap.size ≤ gb219)); clear HB; have HB := n0_; have BK219 := n1_; have GW219 := n2_; have GE219 := n3_; clear n0_ n1_ n2_ n3_; clear hb hbox hg; have hcz58_0 : w57.cell? ⟨gb219, 0, none⟩ = some (.int .i64 a0_0) := (blk_cell BK219.out 0).trans rfl; have hcz58_1 : w57.cell? ⟨gb219, 1, none⟩ = some (.int .u64 a0_1) := (blk_cell BK219.out 1).trans rfl; have hcz58_2 : w57.cell? ⟨gb219, 2, none⟩ = some (.int .u64 a0_2) := (blk_cell BK219.out 2).trans rfl; have hcz58_3 : w57.cell? ⟨gb219, 3, none⟩ = some (.slice A0_3 l0_3.length c0_3) := (blk_cell BK219.out 3).trans rfl; have hfz58_0 := blk_frozen BK219.out 0; have hfz58_1 := blk_frozen BK219.out 1; have hfz58_2 := blk_frozen BK219.out 2; have hfz58_3 := blk_frozen BK219.out 3) | ((with_reducible refine gate_callee (f := 32) rfl ?_); refine goesL_ (some 16) rfl rfl Tryd.func32 (by kernel_rfl) rfl #[.agg #[.int .i64 a0_0, .int .u64 a0_1, .int .u64 a0_2, .slice A0_3 l0_3.length c0_3]] rfl (by (try simp only [List.map_toArray, List.map_cons, List.map_nil]); first | done | rfl | (simp only [List.length_drop, List.length_take]; rfl)) ?_; (with_reducible refine (interchangeref07_Right.calls k a0_0 a0_1 a0_2 _ _ l0_3 t220 _ ?side1 ?side2 A2.out).mono ?_); (case side1 => repeat (first | exact (Kd.C_below HR0_3.out HB.out) | (with_reducible refine Kd.C_alloc ?_ _) | (with_reducible refine Kd.C_drewN ?_ _) | (with_reducible refine Kd.C_drew ?_))); (case side2 => exact HC0_3.out); rintro e w59 ⟨rfl, hb⟩; refine ⟨_, rfl, ?_⟩; have n0_ := Aside0.mk (blk_below (g := gb219) (o := .cells #[.int .i64 a0_0, .int .u64 a0_1, .int .u64 a0_2, .slice A0_3 l0_3.length c0_3] 25 (0, 0)) (by (with_reducible repeat (first | refine blk_drewN ?_ _ | refine blk_drew ?_ | refine blk_alloc ?_ _)); exact BK219.out) hb); have n1_ := Aside0.mk (below_step (by repeat (first | (with_reducible first | exact HB.out | apply below_alloc | apply pw_below_drewN | apply below_drew1 | refine below_set ?_ GE219.out) | exact HB.out)) hb); clear BK219; clear HB; have BK219 := n0_; have HB := n1_; clear n0_ n1_; (try clear hb); (try clear hb2); (try clear hk); (try clear hi)))
    go_ret2
    exact ⟨by first | rfl | (simp [errW_none, errW_some] <;> rfl) | (simp [*, errW_none, errW_some] <;> rfl), by repeat (first | (with_reducible first | exact HB.out | apply below_alloc | apply pw_below_drewN | apply below_drew1 | refine below_set ?_ GE219.out) | exact HB.out)⟩


end Go.Proofs.YthpfcplhlhnfeaaDoor.F
namespace Go.Proofs.YthpfcplhlhnfeaaDoor.F
open Go.RowKit Go.Proofs.YthpfcplhlhnfeaaDoorW.PrintWords Go.Proofs.YthpfcplhlhnfeaaDoorW.PrintLast Go.Proofs.YthpfcplhlhnfeaaDoorW.PrintMore
attribute [local go_sem] max2_int min2_int max_two min_two max_three min_three max_four min_four
set_option linter.unusedVariables false
set_option linter.unusedSimpArgs false
set_option maxRecDepth 4000
set_option linter.unnecessarySimpa false

theorem eqA42 (d : Nat) (w : World) (x0 y0 : Int) (x1 y1 : ByteArray) :
    (Op.equalIn (d + 2) 42 (.agg #[.int .u64 x0, .string x1]) (.agg #[.int .u64 y0, .string y1])).run Tryd.prog w = .ok (x0 == y0 && (x1.toList == y1.toList)) w := by
  refine eqA_of Tryd.underlying42 (by kernel_rfl) ?_
  refine eqf_cons (by rfl) (by go_simp; rfl) (by go_simp; rfl) (by go_simp) ?_
  exact eqf_last (by rfl) (by go_simp; rfl) (by go_simp; rfl) (by go_simp)
end Go.Proofs.YthpfcplhlhnfeaaDoor.F
