-- Printed by this session's program pf.py out of the kit's print.
import Derived.Test.YtmpbhbbgnmkpgaaDoorFbase
import Derived.Test.YtmpbhbbgnmkpgaaDoorFnumPut
namespace Go.Proofs.YtmpbhbbgnmkpgaaDoor.F
open Go.RowKit Go.Proofs.YtmpbhbbgnmkpgaaDoorW.PrintWords Go.Proofs.YtmpbhbbgnmkpgaaDoorW.PrintLast Go.Proofs.YtmpbhbbgnmkpgaaDoorW.PrintMore
attribute [local go_sem] max2_int min2_int max_two min_two max_three min_three max_four min_four
set_option linter.unusedVariables false
set_option linter.unusedSimpArgs false

/-! ### text_kind_lay: function 32 -/
def text_kind_lay.f (k : Nat) (a0 : Int) (a1 : ByteArray) : Option (ByteArray × Int) := (num_Put.f k a0 (IntKind.u64.wrap ((a1.size : Int)))).bind fun bt125 => (if bt125.2 = 0 then (if bt125.1.size + a1.size ≤ 9223372036854775807 then (some (bt125.1 ++ a1, 0)) else (none)) else (some ((⟨#[]⟩ : ByteArray), bt125.2)))
theorem text_kind_lay.mono : ∀ a0 a1 k, LeO (text_kind_lay.f k a0 a1) (text_kind_lay.f (k + 1) a0 a1) := by
  intro a0 a1 k
  unfold text_kind_lay.f
  repeat' first
      | (with_reducible exact num_Put.mono _ _ _)
      | (with_reducible exact LeO.refl _)
      | (with_reducible exact LeO.none _)
      | (with_reducible refine LeO.ite ?_ ?_)
      | (with_reducible refine LeO.bind ?_ (fun _ => ?_))
      | exact num_Put.mono _ _ _
      | exact LeO.none _
      | refine LeO.ite ?_ ?_
      | refine LeO.bind ?_ (fun _ => ?_)
set_option maxHeartbeats 8000000 in
set_option maxRecDepth 100000 in
theorem text_kind_lay.calls (k : Nat) (a0 : Int) (a1 : ByteArray) (r1 : ByteArray) (r2 : Int) (w : World) (hg : Laid w) (h : text_kind_lay.f k a0 a1 = some (r1, r2)) :
    Calls Tryd.prog 32 #[.int .i64 a0, .string a1] w fun e w' => e = .returned (.tuple #[.string r1, .int .i64 r2]) ∧ Below w.heap.size w w' := by
  have HG := Aside0.mk hg
  clear hg
  have HB := Aside0.mk (Below.refl w.heap.size w)
  have H : ((num_Put.f k a0 (IntKind.u64.wrap ((a1.size : Int)))).bind fun bt125 => (if bt125.2 = 0 then (if bt125.1.size + a1.size ≤ 9223372036854775807 then (some (bt125.1 ++ a1, 0)) else (none)) else (some ((⟨#[]⟩ : ByteArray), bt125.2)))) = some (r1, r2) := h
  clear h
  replace H := Option.bind_eq_some_iff.mp H
  obtain ⟨⟨t125, t126⟩, A30, H⟩ := H
  replace H : (if t126 = 0 then (if t125.size + a1.size ≤ 9223372036854775807 then (some (t125 ++ a1, 0)) else (none)) else (some ((⟨#[]⟩ : ByteArray), t126))) = some (r1, r2) := H
  have A3 := Aside0.mk A30
  clear A30
  by_cases c4 : t126 = 0
  · rw [if_pos c4] at H
    have c4b0 : (t126 == 0) = true := beq_iff_eq.mpr c4
    have c4b1 : (t126 != 0) = false := bne_eq_false_iff_eq.mpr c4
    clear c4
    by_cases c5 : t125.size + a1.size ≤ 9223372036854775807
    · rw [if_pos c5] at H
      have c5b0 := eq_true c5
      have c5b1 : decide (t125.size + a1.size ≤ 9223372036854775807) = true := decide_eq_true c5
      try have c5b2 : (9223372036854775807 < t125.size + a1.size) = False := eq_false (Nat.not_lt.2 c5)
      simp only [Option.some.injEq, Prod.mk.injEq] at H
      obtain ⟨rfl, rfl⟩ := H
      have hw_ : IntKind.u64.wrap ((a1.size : Int)) = ((a1.size : Int)) := IntWalk.u64_in _ (by omega)
      have A3w := A3.out
      rw [hw_] at A3w
      clear A3
      have A3 := Aside0.mk A3w
      clear A3w
      clear hw_
      go_enter Tryd.func32, Tryd.ntmps32
      go_wp2_with (first | ((with_reducible refine gate_callee (f := 40) rfl ?_); refine goesL_ (some 13) rfl rfl Tryd.func40 (by kernel_rfl) rfl #[.int .i64 a0, .int .u64 ((a1.size : Int))] rfl (by (try simp only [List.map_toArray, List.map_cons, List.map_nil]); first | done | rfl | (simp only [List.length_drop, List.length_take]; rfl)) ?_; (with_reducible refine (num_Put.calls k a0 ((a1.size : Int)) t125 t126 _ ?lg A3.out).mono ?_); (case lg => exact (HG.out.below (by repeat (first | (with_reducible first | exact HB.out | apply below_alloc | apply pw_below_drewN | apply below_drew1) | exact HB.out)))); rintro e w6 ⟨rfl, hb⟩; refine ⟨_, rfl, ?_⟩; have n0_ := Aside0.mk (below_step (by repeat (first | (with_reducible first | exact HB.out | apply below_alloc | apply pw_below_drewN | apply below_drew1) | exact HB.out)) hb); clear HB; have HB := n0_; clear n0_; (try clear hb); (try clear hb2); (try clear hk); (try clear hi)))
      go_ret2
      exact ⟨by first | rfl | (simp [errW_none, errW_some] <;> rfl) | (simp [*, errW_none, errW_some] <;> rfl), by repeat (first | (with_reducible first | exact HB.out | apply below_alloc | apply pw_below_drewN | apply below_drew1) | exact HB.out)⟩
    · rw [if_neg c5] at H
      exact absurd H (by simp)
  · rw [if_neg c4] at H
    have c4b0 : (t126 == 0) = false := beq_eq_false_iff_ne.mpr c4
    have c4b1 : (t126 != 0) = true := bne_iff_ne.mpr c4
    simp only [Option.some.injEq, Prod.mk.injEq] at H
    obtain ⟨rfl, rfl⟩ := H
    go_enter Tryd.func32, Tryd.ntmps32
    go_wp2_with (first | ((with_reducible refine gate_callee (f := 40) rfl ?_); refine goesL_ (some 13) rfl rfl Tryd.func40 (by kernel_rfl) rfl #[.int .i64 a0, .int .u64 (IntKind.u64.wrap ((a1.size : Int)))] rfl (by (try simp only [List.map_toArray, List.map_cons, List.map_nil]); first | done | rfl | (simp only [List.length_drop, List.length_take]; rfl)) ?_; (with_reducible refine (num_Put.calls k a0 (IntKind.u64.wrap ((a1.size : Int))) t125 t126 _ ?lg A3.out).mono ?_); (case lg => exact (HG.out.below (by repeat (first | (with_reducible first | exact HB.out | apply below_alloc | apply pw_below_drewN | apply below_drew1) | exact HB.out)))); rintro e w7 ⟨rfl, hb⟩; refine ⟨_, rfl, ?_⟩; have n0_ := Aside0.mk (below_step (by repeat (first | (with_reducible first | exact HB.out | apply below_alloc | apply pw_below_drewN | apply below_drew1) | exact HB.out)) hb); clear HB; have HB := n0_; clear n0_; (try clear hb); (try clear hb2); (try clear hk); (try clear hi)))
    go_ret2
    exact ⟨by first | rfl | (simp [errW_none, errW_some] <;> rfl) | (simp [*, errW_none, errW_some] <;> rfl), by repeat (first | (with_reducible first | exact HB.out | apply below_alloc | apply pw_below_drewN | apply below_drew1) | exact HB.out)⟩


end Go.Proofs.YtmpbhbbgnmkpgaaDoor.F
