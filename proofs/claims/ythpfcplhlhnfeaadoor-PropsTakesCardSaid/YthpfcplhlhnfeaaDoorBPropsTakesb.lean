/- Texts of this session for the law PropsTakes, one behind the other: textkindlay, Htextlay, numSkip, textkindtake, Htexttake, PtextFn, Hwithin, Htaker, tabletaken, Htabtake, Ppre, interchangeref01Take, PrefTake, interchangeref02TakeShort, interchangeref03inside, interchangeref03size, PrefShort. -/
import Derived.WalkMore
import Derived.Test.YthpfcplhlhnfeaaDoorBPropsTakesa
namespace Go.Proofs.YthpfcplhlhnfeaaDoor.F
open Go.RowKit Go.Proofs.YthpfcplhlhnfeaaDoorW.PrintWords Go.Proofs.YthpfcplhlhnfeaaDoorW.PrintLast Go.Proofs.YthpfcplhlhnfeaaDoorW.PrintMore
attribute [local go_sem] max2_int min2_int max_two min_two max_three min_three max_four min_four
set_option linter.unusedVariables false
set_option linter.unusedSimpArgs false
set_option maxRecDepth 4000
set_option linter.unnecessarySimpa false

/-! ### text_kind_lay: function 45 -/
def text_kind_lay.f (k : Nat) (a0 : Int) (a1 : ByteArray) : Option (ByteArray × Int) := (num_Put.f k a0 (IntKind.u64.wrap ((a1.size : Int)))).bind fun bt125 => (if bt125.2 = 0 then (if bt125.1.size + a1.size ≤ 9223372036854775807 then (some (bt125.1 ++ a1, 0)) else (none)) else (some ((⟨#[]⟩ : ByteArray), bt125.2)))
theorem text_kind_lay.mono : ∀ a0 a1 k, LeO (text_kind_lay.f k a0 a1) (text_kind_lay.f (k + 1) a0 a1) := by
  intro a0 a1 k
  unfold text_kind_lay.f
  repeat' first
      | (with_reducible exact num_Put.mono _ _ _)
      | (with_reducible exact LeO.refl _)
      | (with_reducible exact LeO.none _)
      | (with_reducible refine LeO.ite ?_ ?_)
      | (with_reducible refine LeO.bind ?_ (fun _ => ?_))
      | exact num_Put.mono _ _ _
      | exact LeO.none _
      | refine LeO.ite ?_ ?_
      | refine LeO.bind ?_ (fun _ => ?_)
set_option maxHeartbeats 8000000 in
set_option maxRecDepth 100000 in
theorem text_kind_lay.calls (k : Nat) (a0 : Int) (a1 : ByteArray) (r1 : ByteArray) (r2 : Int) (w : World) (hg : Laid w) (h : text_kind_lay.f k a0 a1 = some (r1, r2)) :
    Calls Tryd.prog 45 #[.int .i64 a0, .string a1] w fun e w' => e = .returned (.tuple #[.string r1, .int .i64 r2]) ∧ Below w.heap.size w w' := by
  have HG := Aside0.mk hg
  clear hg
  have HB := Aside0.mk (Below.refl w.heap.size w)
  have H : ((num_Put.f k a0 (IntKind.u64.wrap ((a1.size : Int)))).bind fun bt125 => (if bt125.2 = 0 then (if bt125.1.size + a1.size ≤ 9223372036854775807 then (some (bt125.1 ++ a1, 0)) else (none)) else (some ((⟨#[]⟩ : ByteArray), bt125.2)))) = some (r1, r2) := h
  clear h
  replace H := Option.bind_eq_some_iff.mp H
  obtain ⟨⟨t125, t126⟩, A30, H⟩ := H
  replace H : (if t126 = 0 then (if t125.size + a1.size ≤ 9223372036854775807 then (some (t125 ++ a1, 0)) else (none)) else (some ((⟨#[]⟩ : ByteArray), t126))) = some (r1, r2) := H
  have A3 := Aside0.mk A30
  clear A30
  by_cases c4 : t126 = 0
  · rw [if_pos c4] at H
    have c4b0 : (t126 == 0) = true := beq_iff_eq.mpr c4
    have c4b1 : (t126 != 0) = false := bne_eq_false_iff_eq.mpr c4
    clear c4
    by_cases c5 : t125.size + a1.size ≤ 9223372036854775807
    · rw [if_pos c5] at H
      have c5b0 := eq_true c5
      have c5b1 : decide (t125.size + a1.size ≤ 9223372036854775807) = true := decide_eq_true c5
      try have c5b2 : (9223372036854775807 < t125.size + a1.size) = False := eq_false (Nat.not_lt.2 c5)
      simp only [Option.some.injEq, Prod.mk.injEq] at H
      obtain ⟨rfl, rfl⟩ := H
      have hw_ : IntKind.u64.wrap ((a1.size : Int)) = ((a1.size : Int)) := IntWalk.u64_in _ (by omega)
      have A3w := A3.out
      rw [hw_] at A3w
      clear A3
      have A3 := Aside0.mk A3w
      clear A3w
      clear hw_
      go_enter Tryd.func45, Tryd.ntmps45
      go_wp2_with (first | ((with_reducible refine gate_callee (f := 24) rfl ?_); refine goesL_ (some 13) rfl rfl Tryd.func24 (by kernel_rfl) rfl #[.int .i64 a0, .int .u64 ((a1.size : Int))] rfl (by (try simp only [List.map_toArray, List.map_cons, List.map_nil]); first | done | rfl | (simp only [List.length_drop, List.length_take]; rfl)) ?_; (with_reducible refine (num_Put.calls k a0 ((a1.size : Int)) t125 t126 _ ?lg A3.out).mono ?_); (case lg => exact (HG.out.below (by repeat (first | (with_reducible first | exact HB.out | apply below_alloc | apply pw_below_drewN | apply below_drew1) | exact HB.out)))); rintro e w6 ⟨rfl, hb⟩; refine ⟨_, rfl, ?_⟩; have n0_ := Aside0.mk (below_step (by repeat (first | (with_reducible first | exact HB.out | apply below_alloc | apply pw_below_drewN | apply below_drew1) | exact HB.out)) hb); clear HB; have HB := n0_; clear n0_; (try clear hb); (try clear hb2); (try clear hk); (try clear hi)))
      go_ret2
      exact ⟨by first | rfl | (simp [errW_none, errW_some] <;> rfl) | (simp [*, errW_none, errW_some] <;> rfl), by repeat (first | (with_reducible first | exact HB.out | apply below_alloc | apply pw_below_drewN | apply below_drew1) | exact HB.out)⟩
    · rw [if_neg c5] at H
      exact absurd H (by simp)
  · rw [if_neg c4] at H
    have c4b0 : (t126 == 0) = false := beq_eq_false_iff_ne.mpr c4
    have c4b1 : (t126 != 0) = true := bne_iff_ne.mpr c4
    simp only [Option.some.injEq, Prod.mk.injEq] at H
    obtain ⟨rfl, rfl⟩ := H
    go_enter Tryd.func45, Tryd.ntmps45
    go_wp2_with (first | ((with_reducible refine gate_callee (f := 24) rfl ?_); refine goesL_ (some 13) rfl rfl Tryd.func24 (by kernel_rfl) rfl #[.int .i64 a0, .int .u64 (IntKind.u64.wrap ((a1.size : Int)))] rfl (by (try simp only [List.map_toArray, List.map_cons, List.map_nil]); first | done | rfl | (simp only [List.length_drop, List.length_take]; rfl)) ?_; (with_reducible refine (num_Put.calls k a0 (IntKind.u64.wrap ((a1.size : Int))) t125 t126 _ ?lg A3.out).mono ?_); (case lg => exact (HG.out.below (by repeat (first | (with_reducible first | exact HB.out | apply below_alloc | apply pw_below_drewN | apply below_drew1) | exact HB.out)))); rintro e w7 ⟨rfl, hb⟩; refine ⟨_, rfl, ?_⟩; have n0_ := Aside0.mk (below_step (by repeat (first | (with_reducible first | exact HB.out | apply below_alloc | apply pw_below_drewN | apply below_drew1) | exact HB.out)) hb); clear HB; have HB := n0_; clear n0_; (try clear hb); (try clear hb2); (try clear hk); (try clear hi)))
    go_ret2
    exact ⟨by first | rfl | (simp [errW_none, errW_some] <;> rfl) | (simp [*, errW_none, errW_some] <;> rfl), by repeat (first | (with_reducible first | exact HB.out | apply below_alloc | apply pw_below_drewN | apply below_drew1) | exact HB.out)⟩


end Go.Proofs.YthpfcplhlhnfeaaDoor.F
namespace Go.Proofs.YthpfcplhlhnfeaaDoor.F
open Go.RowKit Go.Proofs.YthpfcplhlhnfeaaDoorW.PrintWords Go.Proofs.YthpfcplhlhnfeaaDoorW.PrintLast Go.Proofs.YthpfcplhlhnfeaaDoorW.PrintMore
set_option linter.unusedVariables false
set_option linter.unusedSimpArgs false
set_option maxRecDepth 4000

def text_Short.f (k : Nat) (a0 : ByteArray) : Option (ByteArray × Int) := text_kind_lay.f k 1 a0
def text_Long.f (k : Nat) (a0 : ByteArray) : Option (ByteArray × Int) := text_kind_lay.f k 4 a0
theorem text_Short.mono (a0 : ByteArray) (k : Nat) : LeO (text_Short.f k a0) (text_Short.f (k + 1) a0) := text_kind_lay.mono 1 a0 k
theorem text_Long.mono (a0 : ByteArray) (k : Nat) : LeO (text_Long.f k a0) (text_Long.f (k + 1) a0) := text_kind_lay.mono 4 a0 k
theorem text_Short.calls (k : Nat) (a0 : ByteArray) (r1 : ByteArray) (r2 : Int) (w : World) (hg : Laid w) (h : text_Short.f k a0 = some (r1, r2)) :
    Calls Tryd.prog 26 #[.string a0] w fun e w' => e = .returned (.tuple #[.string r1, .int .i64 r2]) ∧ Below w.heap.size w w' := by
  have HG := Aside0.mk hg
  have HH := Aside0.mk h
  clear hg h
  have hmf : ∀ (fn : Fn) (first cap : Array Value) (w : World), (Instr.makeFunc fn first cap).run Tryd.prog w = .ok (.func fn first cap) w := fun _ _ _ _ => rfl
  go_enter Tryd.func26, Tryd.ntmps26
  go_wp2_with (go_at_call 45; refine (text_kind_lay.calls k 1 a0 r1 r2 _ HG.out HH.out).mono ?_; rintro e w' ⟨rfl, hb⟩)
  go_ret2
  exact ⟨rfl, hb⟩
end Go.Proofs.YthpfcplhlhnfeaaDoor.F
namespace Go.Proofs.YthpfcplhlhnfeaaDoor.F
open Go.RowKit Go.Proofs.YthpfcplhlhnfeaaDoorW.PrintWords Go.Proofs.YthpfcplhlhnfeaaDoorW.PrintLast Go.Proofs.YthpfcplhlhnfeaaDoorW.PrintMore
attribute [local go_sem] max2_int min2_int max_two min_two max_three min_three max_four min_four
set_option linter.unusedVariables false
set_option linter.unusedSimpArgs false
set_option maxRecDepth 4000
set_option linter.unnecessarySimpa false

/-! ### num_Skip: function 60 -/
def num_Skip.f (a0 : ByteArray) (a1 : Int) : Option (ByteArray × ByteArray × Int) := if a1 > (IntKind.u64.wrap ((a0.size : Int))) then (some ((⟨#[]⟩ : ByteArray), (⟨#[]⟩ : ByteArray), 2)) else (if 0 ≤ a1 then (if a1 ≤ (a0.size : Int) then (some (a0.extract 0 (a1 : Int).toNat, a0.extract (a1 : Int).toNat a0.size, 0)) else (none)) else (none))
set_option maxHeartbeats 8000000 in
set_option maxRecDepth 100000 in
theorem num_Skip.calls (a0 : ByteArray) (a1 : Int) (r1 : ByteArray) (r2 : ByteArray) (r3 : Int) (w : World) (h : num_Skip.f a0 a1 = some (r1, r2, r3)) :
    Calls Tryd.prog 60 #[.string a0, .int .u64 a1] w fun e w' => e = .returned (.tuple #[.string r1, .string r2, .int .i64 r3]) ∧ Drawn0 w w' := by
  have H : (if a1 > (IntKind.u64.wrap ((a0.size : Int))) then (some ((⟨#[]⟩ : ByteArray), (⟨#[]⟩ : ByteArray), 2)) else (if 0 ≤ a1 then (if a1 ≤ (a0.size : Int) then (some (a0.extract 0 (a1 : Int).toNat, a0.extract (a1 : Int).toNat a0.size, 0)) else (none)) else (none))) = some (r1, r2, r3) := h
  clear h
  by_cases c3 : a1 > (IntKind.u64.wrap ((a0.size : Int)))
  · rw [if_pos c3] at H
    have c3b0 : decide ((IntKind.u64.wrap ((a0.size : Int))) < a1) = true := decide_eq_true c3
    clear c3
    simp only [Option.some.injEq, Prod.mk.injEq] at H
    obtain ⟨rfl, rfl, rfl⟩ := H
    go_enter Tryd.func60, Tryd.ntmps60
    go_wp2
    repeat (go_quiet (fail); try go_wp2)
    go_ret3
    exact ⟨by first | rfl | (simp; done) | (simp [*]; done), by repeat (first | exact Drawn0.refl _ | apply Drawn0.step)⟩
  · rw [if_neg c3] at H
    have c3b0 : decide ((IntKind.u64.wrap ((a0.size : Int))) < a1) = false := decide_eq_false c3
    clear c3
    by_cases c4 : 0 ≤ a1
    · rw [if_pos c4] at H
      have c4b0 := eq_true c4
      have c4b1 : decide (0 ≤ a1) = true := decide_eq_true c4
      clear c4
      by_cases c5 : a1 ≤ (a0.size : Int)
      · rw [if_pos c5] at H
        have c5b0 := eq_true c5
        have c5b1 : decide (a1 ≤ (a0.size : Int)) = true := decide_eq_true c5
        clear c5
        have c6b0 := eq_true (of_decide_eq_true (by first | (with_reducible assumption) | assumption) : 0 ≤ a1)
        have c7b0 := eq_true (of_decide_eq_true (by first | (with_reducible assumption) | assumption) : a1 ≤ (a0.size : Int))
        simp only [Option.some.injEq, Prod.mk.injEq] at H
        obtain ⟨rfl, rfl, rfl⟩ := H
        go_enter Tryd.func60, Tryd.ntmps60
        go_wp2
        repeat (go_quiet (fail); try go_wp2)
        go_ret3
        exact ⟨by first | rfl | (simp; done) | (simp [*]; done), by repeat (first | exact Drawn0.refl _ | apply Drawn0.step)⟩
      · rw [if_neg c5] at H
        exact absurd H (by simp)
    · rw [if_neg c4] at H
      exact absurd H (by simp)


end Go.Proofs.YthpfcplhlhnfeaaDoor.F
namespace Go.Proofs.YthpfcplhlhnfeaaDoor.F
open Go.RowKit Go.Proofs.YthpfcplhlhnfeaaDoorW.PrintWords Go.Proofs.YthpfcplhlhnfeaaDoorW.PrintLast Go.Proofs.YthpfcplhlhnfeaaDoorW.PrintMore
attribute [local go_sem] max2_int min2_int max_two min_two max_three min_three max_four min_four
set_option linter.unusedVariables false
set_option linter.unusedSimpArgs false
set_option maxRecDepth 4000
set_option linter.unnecessarySimpa false

/-! ### text_kind_take: function 53 -/
def text_kind_take.f (k : Nat) (a0 : Int) (a1 : ByteArray) : Option (ByteArray × ByteArray × Int) := (num_Take.f k a1 a0).bind fun bt108 => (if bt108.2.2 = 0 then ((num_Skip.f bt108.2.1 bt108.1).bind fun bt111 => (some (bt111.1, bt111.2.1, bt111.2.2))) else (some ((⟨#[]⟩ : ByteArray), (⟨#[]⟩ : ByteArray), bt108.2.2)))
theorem text_kind_take.mono : ∀ a0 a1 k, LeO (text_kind_take.f k a0 a1) (text_kind_take.f (k + 1) a0 a1) := by
  intro a0 a1 k
  unfold text_kind_take.f
  repeat' first
      | (with_reducible exact num_Take.mono _ _ _)
      | (with_reducible exact LeO.refl _)
      | (with_reducible exact LeO.none _)
      | (with_reducible refine LeO.ite ?_ ?_)
      | (with_reducible refine LeO.bind ?_ (fun _ => ?_))
      | exact num_Take.mono _ _ _
      | exact LeO.none _
      | refine LeO.ite ?_ ?_
      | refine LeO.bind ?_ (fun _ => ?_)
set_option maxHeartbeats 8000000 in
set_option maxRecDepth 100000 in
theorem text_kind_take.calls (k : Nat) (a0 : Int) (a1 : ByteArray) (r1 : ByteArray) (r2 : ByteArray) (r3 : Int) (w : World) (hg : Laid w) (h : text_kind_take.f k a0 a1 = some (r1, r2, r3)) :
    Calls Tryd.prog 53 #[.int .i64 a0, .string a1] w fun e w' => e = .returned (.tuple #[.string r1, .string r2, .int .i64 r3]) ∧ Drawn0 w w' := by
  have HG := Aside0.mk hg
  clear hg
  have H : ((num_Take.f k a1 a0).bind fun bt108 => (if bt108.2.2 = 0 then ((num_Skip.f bt108.2.1 bt108.1).bind fun bt111 => (some (bt111.1, bt111.2.1, bt111.2.2))) else (some ((⟨#[]⟩ : ByteArray), (⟨#[]⟩ : ByteArray), bt108.2.2)))) = some (r1, r2, r3) := h
  clear h
  replace H := Option.bind_eq_some_iff.mp H
  obtain ⟨⟨t108, t109, t110⟩, A30, H⟩ := H
  replace H : (if t110 = 0 then ((num_Skip.f t109 t108).bind fun bt111 => (some (bt111.1, bt111.2.1, bt111.2.2))) else (some ((⟨#[]⟩ : ByteArray), (⟨#[]⟩ : ByteArray), t110))) = some (r1, r2, r3) := H
  have A3 := Aside0.mk A30
  clear A30
  by_cases c4 : t110 = 0
  · rw [if_pos c4] at H
    have c4b0 : (t110 == 0) = true := beq_iff_eq.mpr c4
    have c4b1 : (t110 != 0) = false := bne_eq_false_iff_eq.mpr c4
    clear c4
    replace H := Option.bind_eq_some_iff.mp H
    obtain ⟨⟨t111, t112, t113⟩, A50, H⟩ := H
    replace H : (some (t111, t112, t113)) = some (r1, r2, r3) := H
    have A5 := Aside0.mk A50
    clear A50
    simp only [Option.some.injEq, Prod.mk.injEq] at H
    obtain ⟨rfl, rfl, rfl⟩ := H
    go_enter Tryd.func53, Tryd.ntmps53
    go_wp2_with (first | ((with_reducible refine gate_callee (f := 27) rfl ?_); refine goesL_ (some 13) rfl rfl Tryd.func27 (by kernel_rfl) rfl #[.string a1, .int .i64 a0] rfl (by (try simp only [List.map_toArray, List.map_cons, List.map_nil]); first | done | rfl | (simp only [List.length_drop, List.length_take]; rfl)) ?_; (with_reducible refine (num_Take.calls k a1 a0 t108 t109 t110 _ ?lg A3.out).mono ?_); (case lg => exact (HG.out.drawn (by repeat (first | exact Drawn0.refl _ | apply Drawn0.step)))); rintro e w' ⟨rfl, ⟨nd, rfl⟩⟩; refine ⟨_, rfl, ?_⟩) | ((with_reducible refine gate_callee (f := 60) rfl ?_); refine goesL_ (some 22) rfl rfl Tryd.func60 (by kernel_rfl) rfl #[.string t109, .int .u64 t108] rfl (by (try simp only [List.map_toArray, List.map_cons, List.map_nil]); first | done | rfl | (simp only [List.length_drop, List.length_take]; rfl)) ?_; (with_reducible refine (num_Skip.calls t109 t108 t111 t112 t113 _ A5.out).mono ?_); rintro e w' ⟨rfl, ⟨nd, rfl⟩⟩; refine ⟨_, rfl, ?_⟩))
    go_ret3
    exact ⟨by first | rfl | (simp; done) | (simp [*]; done), by repeat (first | exact Drawn0.refl _ | apply Drawn0.step)⟩
  · rw [if_neg c4] at H
    have c4b0 : (t110 == 0) = false := beq_eq_false_iff_ne.mpr c4
    have c4b1 : (t110 != 0) = true := bne_iff_ne.mpr c4
    simp only [Option.some.injEq, Prod.mk.injEq] at H
    obtain ⟨rfl, rfl, rfl⟩ := H
    go_enter Tryd.func53, Tryd.ntmps53
    go_wp2_with (first | ((with_reducible refine gate_callee (f := 27) rfl ?_); refine goesL_ (some 13) rfl rfl Tryd.func27 (by kernel_rfl) rfl #[.string a1, .int .i64 a0] rfl (by (try simp only [List.map_toArray, List.map_cons, List.map_nil]); first | done | rfl | (simp only [List.length_drop, List.length_take]; rfl)) ?_; (with_reducible refine (num_Take.calls k a1 a0 t108 t109 t110 _ ?lg A3.out).mono ?_); (case lg => exact (HG.out.drawn (by repeat (first | exact Drawn0.refl _ | apply Drawn0.step)))); rintro e w' ⟨rfl, ⟨nd, rfl⟩⟩; refine ⟨_, rfl, ?_⟩))
    go_ret3
    exact ⟨by first | rfl | (simp; done) | (simp [*]; done), by repeat (first | exact Drawn0.refl _ | apply Drawn0.step)⟩


end Go.Proofs.YthpfcplhlhnfeaaDoor.F
namespace Go.Proofs.YthpfcplhlhnfeaaDoor.F
open Go.RowKit Go.Proofs.YthpfcplhlhnfeaaDoorW.PrintWords Go.Proofs.YthpfcplhlhnfeaaDoorW.PrintLast Go.Proofs.YthpfcplhlhnfeaaDoorW.PrintMore
set_option linter.unusedVariables false
set_option linter.unusedSimpArgs false
set_option maxRecDepth 4000

def text_TakeShort.f (k : Nat) (a0 : ByteArray) : Option (ByteArray × ByteArray × Int) := text_kind_take.f k 1 a0
def text_TakeLong.f (k : Nat) (a0 : ByteArray) : Option (ByteArray × ByteArray × Int) := text_kind_take.f k 4 a0
theorem text_TakeShort.mono (a0 : ByteArray) (k : Nat) : LeO (text_TakeShort.f k a0) (text_TakeShort.f (k + 1) a0) := text_kind_take.mono 1 a0 k
theorem text_TakeLong.mono (a0 : ByteArray) (k : Nat) : LeO (text_TakeLong.f k a0) (text_TakeLong.f (k + 1) a0) := text_kind_take.mono 4 a0 k
theorem text_TakeShort.calls (k : Nat) (a0 : ByteArray) (r1 r2 : ByteArray) (r3 : Int) (w : World) (hg : Laid w) (h : text_TakeShort.f k a0 = some (r1, r2, r3)) :
    Calls Tryd.prog 46 #[.string a0] w fun e w' => e = .returned (.tuple #[.string r1, .string r2, .int .i64 r3]) ∧ Drawn0 w w' := by
  have HG := Aside0.mk hg
  have HH := Aside0.mk h
  clear hg h
  have hmf : ∀ (fn : Fn) (first cap : Array Value) (w : World), (Instr.makeFunc fn first cap).run Tryd.prog w = .ok (.func fn first cap) w := fun _ _ _ _ => rfl
  go_enter Tryd.func46, Tryd.ntmps46
  go_wp2_with (go_at_call 53; refine (text_kind_take.calls k 1 a0 r1 r2 r3 _ HG.out HH.out).mono ?_; rintro e w' ⟨rfl, ⟨nd, rfl⟩⟩)
  go_ret3
  exact ⟨rfl, ⟨nd, rfl⟩⟩
theorem text_TakeLong.calls (k : Nat) (a0 : ByteArray) (r1 r2 : ByteArray) (r3 : Int) (w : World) (hg : Laid w) (h : text_TakeLong.f k a0 = some (r1, r2, r3)) :
    Calls Tryd.prog 64 #[.string a0] w fun e w' => e = .returned (.tuple #[.string r1, .string r2, .int .i64 r3]) ∧ Drawn0 w w' := by
  have HG := Aside0.mk hg
  have HH := Aside0.mk h
  clear hg h
  have hmf : ∀ (fn : Fn) (first cap : Array Value) (w : World), (Instr.makeFunc fn first cap).run Tryd.prog w = .ok (.func fn first cap) w := fun _ _ _ _ => rfl
  go_enter Tryd.func64, Tryd.ntmps64
  go_wp2_with (go_at_call 53; refine (text_kind_take.calls k 4 a0 r1 r2 r3 _ HG.out HH.out).mono ?_; rintro e w' ⟨rfl, ⟨nd, rfl⟩⟩)
  go_ret3
  exact ⟨rfl, ⟨nd, rfl⟩⟩
end Go.Proofs.YthpfcplhlhnfeaaDoor.F
namespace Go.Proofs.YthpfcplhlhnfeaaDoor.F
open Go.RowKit Go.Proofs.YthpfcplhlhnfeaaDoorW.PrintWords Go.Proofs.YthpfcplhlhnfeaaDoorW.PrintLast Go.Proofs.YthpfcplhlhnfeaaDoorW.PrintMore
set_option linter.unusedVariables false
set_option linter.unusedSimpArgs false
set_option maxRecDepth 4000

theorem tlay_k {k : Nat} (hk : 12 ≤ k) (n : Int) (s : ByteArray) (hz : s.size ≤ 4611686018427387904) : text_kind_lay.f k n s = some (layR n s) := by
  unfold text_kind_lay.f layR
  rw [wrapU (by omega) (by omega), put_k hk n _ (by omega) (by omega), Option.bind_some]
  by_cases e : (putR n s.size).2 = 0
  · have := put_size n s.size
    rw [if_pos e, if_pos e, if_pos (by omega)]
  · rw [if_neg e, if_neg e]
theorem ttake_k {k : Nat} (hk : 12 ≤ k) (n : Int) (s : ByteArray) (hz : s.size ≤ 4611686018427387904) : text_kind_take.f k n s = some (ltakeR n s) := by
  unfold text_kind_take.f ltakeR
  rw [take_k hk, Option.bind_some]
  by_cases e : (takeR s n).2.2 = 0
  · have hr := take_rest s n
    have hb := (take_bound s n).1
    rw [if_pos e, if_pos e]
    unfold num_Skip.f
    rw [wrapU (by omega) (by omega)]
    by_cases l : (takeR s n).1 ≤ ((takeR s n).2.1.size : Int)
    · rw [if_neg (by omega), if_pos (by omega), if_pos l, Option.bind_some, if_pos l]
    · rw [if_pos (by omega), if_neg l]; rfl
  · rw [if_neg e, if_neg e]
theorem short_k {k : Nat} (hk : 12 ≤ k) (s : ByteArray) (hz : s.size ≤ 4611686018427387904) : text_Short.f k s = some (layR 1 s) := tlay_k hk 1 s hz
theorem long_k {k : Nat} (hk : 12 ≤ k) (s : ByteArray) (hz : s.size ≤ 4611686018427387904) : text_Long.f k s = some (layR 4 s) := tlay_k hk 4 s hz
theorem tshort_k {k : Nat} (hk : 12 ≤ k) (s : ByteArray) (hz : s.size ≤ 4611686018427387904) : text_TakeShort.f k s = some (ltakeR 1 s) := ttake_k hk 1 s hz
theorem tlong_k {k : Nat} (hk : 12 ≤ k) (s : ByteArray) (hz : s.size ≤ 4611686018427387904) : text_TakeLong.f k s = some (ltakeR 4 s) := ttake_k hk 4 s hz
end Go.Proofs.YthpfcplhlhnfeaaDoor.F
namespace Go.Proofs.YthpfcplhlhnfeaaDoor.F
open Go.RowKit Go.Proofs.YthpfcplhlhnfeaaDoorW.PrintWords Go.Proofs.YthpfcplhlhnfeaaDoorW.PrintLast Go.Proofs.YthpfcplhlhnfeaaDoorW.PrintMore
set_option linter.unusedVariables false
set_option linter.unusedSimpArgs false
set_option maxRecDepth 4000
open Go.Maps
attribute [local go_sem] max_two

theorem skip_f (s : ByteArray) (n : Int) (h0 : 0 ≤ n) (hz : s.size ≤ 4611686018427387904) : num_Skip.f s n = some (skipR s n) := by
  unfold num_Skip.f skipR
  rw [wrapU (by omega) (by omega)]
  by_cases h : n ≤ (s.size : Int)
  · rw [if_neg (by omega), if_pos h0, if_pos h, if_pos h]
  · rw [if_pos (by omega), if_neg h]
/-- A taker in block B, its sizes in block M. -/
def TK (w0 : World) (B M : Nat) (d : Int) (W : World) : Prop :=
  W.heap[B]? = some (.cells #[.map (some M), .int .i64 d] 102 (0, 0)) ∧ SizesAt M W ∧ w0.heap.size ≤ B ∧ M ≠ B ∧ Below w0.heap.size w0 W
theorem TK.cell0 {w0 : World} {B M : Nat} {d : Int} {W : World} (h : TK w0 B M d W) : W.cell? ⟨B, 0, none⟩ = some (.map (some M)) := (blk_cell h.1 0).trans rfl
theorem TK.cell1 {w0 : World} {B M : Nat} {d : Int} {W : World} (h : TK w0 B M d W) : W.cell? ⟨B, 1, none⟩ = some (.int .i64 d) := (blk_cell h.1 1).trans rfl
theorem TK.free1 {w0 : World} {B M : Nat} {d : Int} {W : World} (h : TK w0 B M d W) : W.frozen? ⟨B, 1, none⟩ = false := blk_frozen h.1 1
theorem TK.below {w0 : World} {B M : Nat} {d : Int} {W W' : World} (h : TK w0 B M d W) (hb : Below W.heap.size W W') : TK w0 B M d W' := by
  obtain ⟨h1, h2, h3, h4, h5⟩ := h
  have hM : M < W.heap.size := by
    obtain ⟨_, _, hm, _⟩ := h2
    exact (Array.getElem?_eq_some_iff.1 hm).1
  refine ⟨blk_below h1 hb, ?_, h3, h4, h5.trans (hb.mono (by have := h5.size; omega))⟩
  obtain ⟨es, c, hm, hr⟩ := h2
  exact ⟨es, c, (hb.block M hM).trans hm, hr⟩
theorem TK.drawn {w0 : World} {B M : Nat} {d : Int} {W : World} (h : TK w0 B M d W) (n : Nat) : TK w0 B M d (W.drewN n) := h.below (pw_below_drewN (Below.refl _ _) n)
theorem TK.deep {w0 : World} {B M : Nat} {d : Int} {W : World} (h : TK w0 B M d W) (d' : Int) : TK w0 B M d' (W.setCell ⟨B, 1, none⟩ (.int .i64 d')) := by
  obtain ⟨h1, h2, h3, h4, h5⟩ := h
  exact ⟨blk_put h1 1 _ rfl, h2.setCell h4 _, h3, h4, h5.setCell (p := ⟨B, 1, none⟩) h3 _⟩
theorem TK.laid {w0 : World} {B M : Nat} {d : Int} {W : World} (h : TK w0 B M d W) (hL : Laid w0) : Laid W := hL.below h.2.2.2.2
theorem ba_empty {s : ByteArray} (h : s.size = 0) : s = ⟨#[]⟩ := by
  obtain ⟨d⟩ := s
  have : d = #[] := Array.eq_empty_of_size_eq_zero h
  rw [this]
theorem not_empty {s : ByteArray} (h : ¬ s.size = 0) : (!s.toList.isEmpty) = true := by
  have : s.toList ≠ [] := fun e => h (by rw [toList_data] at e; rw [← size_list, e]; rfl)
  cases hs : s.toList with
  | nil => exact absurd hs this
  | cons a l => rfl
/-- How the taking of one item ends. -/
def VPost (w0 : World) (B M : Nat) (t : Tk) (e : Ending) (W' : World) : Prop := e = .returned (.tuple #[.string t.1, .int .i64 t.2.1]) ∧ TK w0 B M t.2.2 W'
set_option maxHeartbeats 4000000 in
set_option maxRecDepth 100000 in
theorem within_calls (w0 : World) (hL : Laid w0) (B M : Nat) (f : Nat) (one : ByteArray → Int → Int → Tk) (hless : Less one) (s : ByteArray) (hz : s.size ≤ 4611686018427387904) (depth : Int) (hd0 : 0 ≤ depth) (hd1 : depth ≤ 33) (hen : ∀ args w, (callFunc f args).run Tryd.prog w = .ok (.enter f args) w)
    (hone : ∀ (i : ByteArray) (d : Int) (W : World), i.size < s.size → depth ≤ 32 → TK w0 B M d W → Calls Tryd.prog f #[.pointer (some ⟨B, 0, none⟩), .string i, .int .i64 depth] W (VPost w0 B M (one i depth d)))
    (d : Int) (W : World) (hT : TK w0 B M d W) :
    Calls Tryd.prog 55 #[.pointer (some ⟨B, 0, none⟩), .string s, .int .i64 depth, .func (.func f) #[.pointer (some ⟨B, 0, none⟩)] #[]] W (VPost w0 B M (withinR one s depth d)) := by
  have hLW := Aside0.mk (hT.laid hL)
  have htk := Aside0.mk (take_k (k := 12) (by decide) s 4)
  have hr := take_rest s 4
  have hb := (take_bound s 4).1
  have hlt : ltakeR 4 s = if (takeR s 4).2.2 = 0 then skipR (takeR s 4).2.1 (takeR s 4).1 else (⟨#[]⟩, ⟨#[]⟩, (takeR s 4).2.2) := by
    unfold ltakeR skipR; rfl
  have hsm := ltake_less (n := 4) (t := s)
  have hsk := skip_f (takeR s 4).2.1 (takeR s 4).1 hb (by omega)
  generalize hw : withinR one s depth d = res
  unfold withinR at hw
  rw [hlt] at hw hsm
  generalize takeR s 4 = t at htk hr hb hsk hw hsm
  obtain ⟨t1, t2, t3⟩ := t
  simp only at hr hb hsk hw hsm
  clear hlt
  by_cases e : t3 = 0
  · subst e
    rw [if_pos rfl] at hw hsm
    generalize skipR t2 t1 = q at hsk hw hsm
    obtain ⟨q1, q2, q3⟩ := q
    simp only at hw hsm
    have HSK := Aside0.mk hsk
    clear hsk hr hb
    by_cases e : q3 = 0
    · subst e
      replace hsm := hsm rfl (by decide) isW4
      rw [if_pos rfl] at hw
      by_cases hd : depth ≤ 32
      · rw [if_pos hd] at hw
        have hd3 : decide (32 < depth) = false := by simpa using hd
        have hc1 := hT.cell1
        have hf1 := hT.free1
        have hTD := fun n d' => (hT.drawn n).deep d'
        obtain ⟨dm, hdm⟩ : ∃ dm, (if d < depth then depth else d) = dm := ⟨_, rfl⟩
        have hmx : ∀ k k', Builtin.max2 (.int k d) (.int k' depth) = pure (.int k dm) := by intro k k'; rw [max2_int, hdm]
        rw [hdm] at hw
        clear hdm
        have HW := Aside0.mk hw
        clear hw
        have HSM := Aside0.mk hsm
        clear hsm
        go_enter Tryd.func55, Tryd.ntmps55
        go_wp2
        go_step3
        go_wp2_with (first | (go_at_call 27; (with_reducible refine (num_Take.calls 12 s 4 t1 t2 0 _ hLW.out htk.out).mono ?_); rintro e w' ⟨rfl, ⟨nd, rfl⟩⟩) | (go_at_call 60; (with_reducible refine (num_Skip.calls t2 t1 q1 q2 0 _ HSK.out).mono ?_); rintro e w' ⟨rfl, ⟨nd2, rfl⟩⟩))
        rename_i K hK
        replace hK := Aside0.mk hK
        go_step3
        refine hK.out _ _ ?_
        have hTL := Aside0.mk (hTD (nd + nd2) dm)
        clear hTD hc1 hf1 hmx hT
        generalize (((W.drewN (nd + nd2)).setCell ⟨B, 1, none⟩ (.int .i64 dm))) = WL at hTL
        go_wp2
        go_loopw [12, 13] (fun v12 v13 wr => ∃ (i : ByteArray) (d' : Int) (k : Nat), v12 = .int .i64 0 ∧ v13 = .string i ∧ TK w0 B M d' wr ∧ Aside0 (i.size ≤ k) ∧ Aside0 (i.size ≤ q1.size) ∧ Aside0 (itemsR one k i depth d' = itemsR one q1.size q1 depth dm)) (fun _ v13 _ => match v13 with | .string i => i.size | _ => 0)
        case atStart => exact ⟨q1, dm, q1.size, rfl, rfl, hTL.out, ⟨Nat.le_refl _⟩, ⟨Nat.le_refl _⟩, ⟨rfl⟩⟩
        case round =>
          obtain ⟨i, d', k, rfl, rfl, hTR, hk, hq, hit⟩ := hrel
          by_cases h0 : i.size = 0
          · have ei : i = ⟨#[]⟩ := ba_empty h0
            subst ei
            have hri : itemsR one k ⟨#[]⟩ depth d' = (0, d') := by cases k <;> rfl
            have hres : res = (q2, 0, d') := by rw [← HW.out, ← hit.out, hri]
            subst hres
            go_wp2
            rw [Exit.noGoto_ret]
            go_ret2
            exact ⟨rfl, hTR⟩
          · have hne : (!i.toList.isEmpty) = true := not_empty h0
            obtain ⟨k, rfl⟩ : ∃ k', k = k' + 1 := ⟨k - 1, by have := hk.out; omega⟩
            have hit' := hit.out
            rw [itemsR, if_neg h0] at hit'
            have hO := hone i d' wr (by have := HSM.out; have := hq.out; omega) hd hTR
            have hlo := hless i depth d'
            generalize one i depth d' = o at hit' hO hlo
            obtain ⟨o1, o2, o3⟩ := o
            simp only at hit' hlo
            rw [← hit'] at HW
            by_cases e2 : o2 = 2
            · subst e2
              go_wp2_with (first | (refine hO.mono ?_; rintro e w' ⟨rfl, hT2⟩))
              rw [Exit.noGoto_ret]
              go_ret2
              have hres : res = (q2, 3, o3) := by rw [← HW.out]; rfl
              subst hres
              exact ⟨rfl, hT2⟩
            · rw [if_neg e2] at hit' HW
              have e2' : (o2 == 2) = false := by simpa using e2
              by_cases e0 : o2 = 0
              · subst e0
                go_wp2_with (first | (refine hO.mono ?_; rintro e w' ⟨rfl, hT2⟩))
                exact ⟨⟨o1, o3, k, rfl, rfl, hT2, ⟨by have := hlo trivial; have := hk.out; omega⟩, ⟨by have := hlo trivial; have := hq.out; omega⟩, ⟨by rw [← hit', if_pos trivial]⟩⟩, hlo trivial⟩
              · have e0' : (o2 != 0) = true := by simpa using e0
                go_wp2_with (first | (refine hO.mono ?_; rintro e w' ⟨rfl, hT2⟩))
                rw [Exit.noGoto_ret]
                go_ret2
                have hres : res = (q2, o2, o3) := by rw [← HW.out, if_neg e0]
                subst hres
                exact ⟨rfl, hT2⟩
      · rw [if_neg hd] at hw
        have hd3 : decide (32 < depth) = true := by simpa using hd
        subst hw
        clear hsm
        go_enter Tryd.func55, Tryd.ntmps55
        go_wp2
        go_step3
        go_wp2_with (first | (go_at_call 27; (with_reducible refine (num_Take.calls 12 s 4 t1 t2 0 _ hLW.out htk.out).mono ?_); rintro e w' ⟨rfl, ⟨nd, rfl⟩⟩) | (go_at_call 60; (with_reducible refine (num_Skip.calls t2 t1 q1 q2 0 _ HSK.out).mono ?_); rintro e w' ⟨rfl, ⟨nd2, rfl⟩⟩))
        rw [Exit.noGoto_ret]
        go_ret2
        exact ⟨rfl, hT.drawn _⟩
    · rw [if_neg e] at hw
      have e1 : (q3 != 0) = true := by simpa using e
      subst hw
      clear hsm
      go_enter Tryd.func55, Tryd.ntmps55
      go_wp2
      go_step3
      go_wp2_with (first | (go_at_call 27; (with_reducible refine (num_Take.calls 12 s 4 t1 t2 0 _ hLW.out htk.out).mono ?_); rintro e w' ⟨rfl, ⟨nd, rfl⟩⟩) | (go_at_call 60; (with_reducible refine (num_Skip.calls t2 t1 q1 q2 q3 _ HSK.out).mono ?_); rintro e w' ⟨rfl, ⟨nd2, rfl⟩⟩))
      rw [Exit.noGoto_ret]
      go_ret2
      exact ⟨rfl, hT.drawn _⟩
  · have e1 : (t3 != 0) = true := by simpa using e
    have hres : res = (⟨#[]⟩, t3, d) := by
      rw [← hw, if_neg e]
      simp only
      rw [if_neg e]
    subst hres
    clear hsm hsk hw e
    go_enter Tryd.func55, Tryd.ntmps55
    go_wp2
    go_step3
    go_wp2_with (first | (go_at_call 27; (with_reducible refine (num_Take.calls 12 s 4 t1 t2 t3 _ hLW.out htk.out).mono ?_); rintro e w' ⟨rfl, ⟨nd, rfl⟩⟩))
    rw [Exit.noGoto_ret]
    go_ret2
    exact ⟨rfl, hT.drawn nd⟩
end Go.Proofs.YthpfcplhlhnfeaaDoor.F
namespace Go.Proofs.YthpfcplhlhnfeaaDoor.F
open Go.RowKit Go.Proofs.YthpfcplhlhnfeaaDoorW.PrintWords Go.Proofs.YthpfcplhlhnfeaaDoorW.PrintLast Go.Proofs.YthpfcplhlhnfeaaDoorW.PrintMore
set_option linter.unusedVariables false
set_option linter.unusedSimpArgs false
set_option maxRecDepth 4000
open Go.Maps
set_option maxHeartbeats 4000000 in
set_option maxRecDepth 100000 in
theorem field_calls (w0 : World) (hL : Laid w0) (B M : Nat) (val : ByteArray → Int → Int → Tk) (s : ByteArray) (hz : s.size ≤ 4611686018427387904) (depth : Int)
    (hval : ∀ (i : ByteArray) (d : Int) (W : World), i.size ≤ s.size → TK w0 B M d W → Calls Tryd.prog 61 #[.pointer (some ⟨B, 0, none⟩), .string i, .int .i64 depth] W (VPost w0 B M (val i depth d)))
    (d : Int) (W : World) (hT : TK w0 B M d W) :
    Calls Tryd.prog 56 #[.pointer (some ⟨B, 0, none⟩), .string s, .int .i64 depth] W (VPost w0 B M (fieldR val s depth d)) := by
  have hLW := Aside0.mk (hT.laid hL)
  have htk := Aside0.mk (tshort_k (k := 12) (by decide) s hz)
  have hsm := ltake_less (n := 1) (t := s)
  generalize hw : fieldR val s depth d = res
  unfold fieldR at hw
  generalize ltakeR 1 s = t at htk hw hsm
  obtain ⟨t1, t2, t3⟩ := t
  simp only at hw hsm
  by_cases e : t3 = 0
  · subst e
    rw [if_pos rfl] at hw
    have hv := fun nd => hval t2 d (W.drewN nd) (by have := hsm rfl (by decide) isW1; omega) (hT.drawn nd)
    rw [hw] at hv
    clear hw hsm
    go_enter Tryd.func56, Tryd.ntmps56
    go_wp2_with (first | (go_at_call 46; (with_reducible refine (text_TakeShort.calls 12 s t1 t2 0 _ hLW.out htk.out).mono ?_); rintro e w' ⟨rfl, ⟨nd, rfl⟩⟩) | (go_at_call 61; refine (hv nd).mono ?_; rintro e w' ⟨rfl, hT2⟩))
    go_ret2
    exact ⟨rfl, hT2⟩
  · rw [if_neg e] at hw
    have e1 : (t3 != 0) = true := by simpa using e
    subst hw
    clear hsm
    go_enter Tryd.func56, Tryd.ntmps56
    go_wp2_with (first | (go_at_call 46; (with_reducible refine (text_TakeShort.calls 12 s t1 t2 t3 _ hLW.out htk.out).mono ?_); rintro e w' ⟨rfl, ⟨nd, rfl⟩⟩))
    go_ret2
    exact ⟨rfl, hT.drawn nd⟩
theorem kindOf_at {s : ByteArray} (h : 0 < s.size) : (kindOf s : Int) = ((s[0]'h).toNat : Int) := by
  unfold kindOf
  obtain ⟨⟨l⟩⟩ := s
  cases l with
  | nil => exact absurd h (by decide)
  | cons a l => rfl
theorem sizes_wf (b : UInt8) : (Lit.int .u8 (b.toNat : Int)).wf = true := by
  have h : ∀ n : Fin 256, (Lit.int .u8 (n.val : Int)).wf = true := by decide +kernel
  exact h ⟨b.toNat, b.toNat_lt⟩
theorem sizes_zero (w : World) : (zeroValue 22).run Tryd.prog w = .ok (.int .u64 0) w := rfl
set_option maxHeartbeats 4000000 in
set_option maxRecDepth 100000 in
theorem value_calls (w0 : World) (hL : Laid w0) (B M : Nat) : ∀ (k : Nat) (s : ByteArray) (hz : s.size ≤ 4611686018427387904) (hk : s.size < k) (depth : Int) (hd0 : 0 ≤ depth) (hd1 : depth ≤ 32) (d : Int) (W : World) (hT : TK w0 B M d W),
    Calls Tryd.prog 61 #[.pointer (some ⟨B, 0, none⟩), .string s, .int .i64 depth] W (VPost w0 B M (valR k s depth d)) := by
  intro k
  induction k with
  | zero => intro s hz hk; omega
  | succ k ih =>
    intro s hz hk depth hd0 hd1 d W hT
    have hLW := Aside0.mk (hT.laid hL)
    have hc0 := hT.cell0
    have hSz := hT.2.1
    generalize hw : valR (k + 1) s depth d = res
    rw [valR] at hw
    by_cases h0 : s.size = 0
    · rw [if_pos h0] at hw
      have ei : s = ⟨#[]⟩ := ba_empty h0
      subst ei
      subst hw
      clear hSz hc0
      go_enter Tryd.func61, Tryd.ntmps61
      go_wp2
      go_ret2
      exact ⟨rfl, hT⟩
    · rw [if_neg h0] at hw
      have hne : s.toList.isEmpty = false := by have := not_empty h0; rwa [Bool.not_eq_true'] at this
      have hpos : 0 < s.size := by omega
      obtain ⟨b, hb⟩ : ∃ b : UInt8, kindOf s = b.toNat := ⟨_, rfl⟩
      have hx : ∀ h : 0 < s.size, ((s[0]'h).toNat : Int) = (b.toNat : Int) := by intro h; rw [← hb, kindOf_at h]
      have hwf := sizes_wf b
      have hhas := sizes_has b
      have hat := sizes_at b
      have hts := tail_size h0
      have htl : s.extract 1 s.size = tailOf s := rfl
      rw [hb] at hw
      clear hb
      generalize b.toNat = c at hx hwf hhas hat hw
      have hlk : ∃ c2 : Int, (∀ n, (Instr.lookup 99 (.map (some M)) (.int .u8 c) true).run Tryd.prog (W.drewN n) = .ok (.tuple #[.int .u64 c2, .bool (sizeU c).isSome]) (W.drewN n)) ∧ c2 = ((sizeU c).getD 0 : Nat) := by
        obtain ⟨v, ps, hrun, hv⟩ := hSz.look_ok sizes_keyed Tryd.underlying99 (sizes_zero W) (plainElem_int Tryd.underlying22 (by decide)) (keyOf_int_mk Tryd.underlying5 hwf)
        obtain ⟨c2, rfl, hc2, -⟩ := plainElem_int_inv Tryd.underlying22 hv
        refine ⟨c2, fun n => ?_, hat c2 (congrArg Prod.fst hc2)⟩
        obtain ⟨v', ps', hrun', hv'⟩ := (hT.drawn n).2.1.look_ok sizes_keyed Tryd.underlying99 (sizes_zero _) (plainElem_int Tryd.underlying22 (by decide)) (keyOf_int_mk Tryd.underlying5 hwf)
        obtain ⟨c3, rfl, hc3, -⟩ := plainElem_int_inv Tryd.underlying22 hv'
        rw [hrun', hhas, hat c3 (congrArg Prod.fst hc3), ← hat c2 (congrArg Prod.fst hc2)]
      obtain ⟨c2, hlk, hc2⟩ := hlk
      clear hhas hat hSz hwf
      cases hs : sizeU c with
      | some n =>
        rw [hs] at hw hlk hc2
        obtain rfl : c2 = (n : Int) := hc2
        have hsk := skip_f (tailOf s) (n : Int) (by omega) (by omega)
        simp only [Option.isSome_some] at hw hlk
        generalize skipR (tailOf s) n = q at hsk hw
        obtain ⟨q1, q2, q3⟩ := q
        simp only at hw
        subst hw
        have HSK := Aside0.mk hsk
        clear hsk hs
        go_enter Tryd.func61, Tryd.ntmps61
        go_wp2
        go_quiet (fail)
        go_wp2_with (first | (go_at_call 60; (refine (num_Skip.calls (tailOf s) n q1 q2 q3 _ HSK.out).mono ?_); rintro e w' ⟨rfl, ⟨nd, rfl⟩⟩))
        go_ret2
        exact ⟨rfl, hT.drawn _⟩
      | none =>
        rw [hs] at hw hlk hc2
        obtain rfl : c2 = (0 : Int) := hc2
        simp only [Option.isSome_none] at hw hlk
        clear hs
        by_cases e1 : c = 83
        · rw [if_pos (.inl e1)] at hw
          rw [show (c : Int) = 83 from by omega] at hlk hx
          have htk := Aside0.mk (tlong_k (k := 12) (by decide) (tailOf s) (by omega))
          generalize ltakeR 4 (tailOf s) = t at htk hw
          obtain ⟨t1, t2, t3⟩ := t
          simp only at hw
          subst hw
          go_enter Tryd.func61, Tryd.ntmps61
          go_wp2
          go_quiet (fail)
          go_wp2_with (first | (go_at_call 64; (refine (text_TakeLong.calls 12 (tailOf s) t1 t2 t3 _ ((hT.drawn _).laid hL) htk.out).mono ?_); rintro e w' ⟨rfl, ⟨nd, rfl⟩⟩))
          go_ret2
          exact ⟨rfl, hT.drawn _⟩
        by_cases e2 : c = 120
        · rw [if_pos (.inr e2)] at hw
          rw [show (c : Int) = 120 from by omega] at hlk hx
          have htk := Aside0.mk (tlong_k (k := 12) (by decide) (tailOf s) (by omega))
          generalize ltakeR 4 (tailOf s) = t at htk hw
          obtain ⟨t1, t2, t3⟩ := t
          simp only at hw
          subst hw
          go_enter Tryd.func61, Tryd.ntmps61
          go_wp2
          go_quiet (fail)
          go_wp2_with (first | (go_at_call 64; (refine (text_TakeLong.calls 12 (tailOf s) t1 t2 t3 _ ((hT.drawn _).laid hL) htk.out).mono ?_); rintro e w' ⟨rfl, ⟨nd, rfl⟩⟩))
          go_ret2
          exact ⟨rfl, hT.drawn _⟩
        rw [if_neg (by omega)] at hw
        by_cases e3 : c = 65
        · rw [if_pos e3] at hw
          rw [show (c : Int) = 65 from by omega] at hlk hx
          have hwi := fun nd => within_calls w0 hL B M 61 (valR k) (val_less k) (tailOf s) (by omega) (depth + 1) (by omega) (by omega) (fun _ _ => rfl) (fun i d' W' hi hd hT' => ih i (by omega) (by omega) (depth + 1) (by omega) hd d' W' hT') d (W.drewN nd) (hT.drawn nd)
          rw [hw] at hwi
          clear hw
          have hdw : IntKind.i64.wrap (depth + 1) = depth + 1 := by rw [i64_w]; exact wrap64_of (by omega) (by omega)
          go_enter Tryd.func61, Tryd.ntmps61
          go_wp2
          go_quiet (fail)
          go_wp2_with (first | (go_at_call 55; (refine (hwi _).mono ?_); rintro e w' ⟨rfl, hT2⟩))
          go_ret2
          exact ⟨rfl, hT2⟩
        rw [if_neg e3] at hw
        by_cases e4 : c = 70
        · rw [if_pos e4] at hw
          rw [show (c : Int) = 70 from by omega] at hlk hx
          have hwi := fun nd => within_calls w0 hL B M 56 (fieldR (valR k)) (field_less (val_less k)) (tailOf s) (by omega) (depth + 1) (by omega) (by omega) (fun _ _ => rfl) (fun i d' W' hi hd hT' => field_calls w0 hL B M (valR k) i (by omega) (depth + 1) (fun i2 d2 W2 hi2 hT2 => ih i2 (by omega) (by omega) (depth + 1) (by omega) hd d2 W2 hT2) d' W' hT') d (W.drewN nd) (hT.drawn nd)
          rw [hw] at hwi
          clear hw
          have hdw : IntKind.i64.wrap (depth + 1) = depth + 1 := by rw [i64_w]; exact wrap64_of (by omega) (by omega)
          go_enter Tryd.func61, Tryd.ntmps61
          go_wp2
          go_quiet (fail)
          go_wp2_with (first | (go_at_call 55; (refine (hwi _).mono ?_); rintro e w' ⟨rfl, hT2⟩))
          go_ret2
          exact ⟨rfl, hT2⟩
        rw [if_neg e4] at hw
        subst hw
        have c83 : ((c : Int) == 83) = false := beq_eq_false_iff_ne.mpr (by omega)
        have c120 : ((c : Int) == 120) = false := beq_eq_false_iff_ne.mpr (by omega)
        have c65 : ((c : Int) == 65) = false := beq_eq_false_iff_ne.mpr (by omega)
        have c70 : ((c : Int) == 70) = false := beq_eq_false_iff_ne.mpr (by omega)
        go_enter Tryd.func61, Tryd.ntmps61
        go_wp2
        go_quiet (fail)
        go_wp2
        go_ret2
        exact ⟨rfl, hT.drawn _⟩
end Go.Proofs.YthpfcplhlhnfeaaDoor.F
namespace Go.Proofs.YthpfcplhlhnfeaaDoor.F
open Go.RowKit Go.Proofs.YthpfcplhlhnfeaaDoorW.PrintWords Go.Proofs.YthpfcplhlhnfeaaDoorW.PrintLast Go.Proofs.YthpfcplhlhnfeaaDoorW.PrintMore
attribute [local go_sem] max2_int min2_int max_two min_two max_three min_three max_four min_four
set_option linter.unusedVariables false
set_option linter.unusedSimpArgs false
set_option maxRecDepth 4000
set_option linter.unnecessarySimpa false

/-! ### table_taken: function 57 -/
def table_taken.f (a0 : ByteArray) (a1 : ByteArray) (a2 : Int) : Option (ByteArray × ByteArray × Int) := if a2 = 0 then (if 0 ≤ (wrap64 ((a0.size : Int) - (a1.size : Int))) then (if (wrap64 ((a0.size : Int) - (a1.size : Int))) ≤ (a0.size : Int) then (some (a0.extract 0 ((wrap64 ((a0.size : Int) - (a1.size : Int))) : Int).toNat, a1, 0)) else (none)) else (none)) else (some ((⟨#[]⟩ : ByteArray), (⟨#[]⟩ : ByteArray), a2))
set_option maxHeartbeats 8000000 in
set_option maxRecDepth 100000 in
theorem table_taken.calls (a0 : ByteArray) (a1 : ByteArray) (a2 : Int) (r1 : ByteArray) (r2 : ByteArray) (r3 : Int) (w : World) (h : table_taken.f a0 a1 a2 = some (r1, r2, r3)) :
    Calls Tryd.prog 57 #[.string a0, .string a1, .int .i64 a2] w fun e w' => e = .returned (.tuple #[.string r1, .string r2, .int .i64 r3]) ∧ Drawn0 w w' := by
  have H : (if a2 = 0 then (if 0 ≤ (wrap64 ((a0.size : Int) - (a1.size : Int))) then (if (wrap64 ((a0.size : Int) - (a1.size : Int))) ≤ (a0.size : Int) then (some (a0.extract 0 ((wrap64 ((a0.size : Int) - (a1.size : Int))) : Int).toNat, a1, 0)) else (none)) else (none)) else (some ((⟨#[]⟩ : ByteArray), (⟨#[]⟩ : ByteArray), a2))) = some (r1, r2, r3) := h
  clear h
  by_cases c4 : a2 = 0
  · rw [if_pos c4] at H
    have c4b0 : (a2 == 0) = true := beq_iff_eq.mpr c4
    have c4b1 : (a2 != 0) = false := bne_eq_false_iff_eq.mpr c4
    clear c4
    obtain ⟨ji5, hji5⟩ : ∃ j_ : Int, (wrap64 ((a0.size : Int) - (a1.size : Int))) = j_ := ⟨_, rfl⟩
    replace H : (if 0 ≤ (ji5) then (if (ji5) ≤ (a0.size : Int) then (some (a0.extract 0 ((ji5) : Int).toNat, a1, 0)) else (none)) else (none)) = some (r1, r2, r3) := by first | (rw [hji5] at H; exact H) | (simp only [hji5] at H ⊢; exact H)
    have hji5w : (IntKind.i64.wrap ((a0.size : Int) - (a1.size : Int))) = ji5 := (i64_w _).trans hji5
    by_cases c6 : 0 ≤ (ji5)
    · rw [if_pos c6] at H
      have c6b0 := eq_true c6
      have c6b1 : decide (0 ≤ (ji5)) = true := decide_eq_true c6
      clear c6
      by_cases c7 : (ji5) ≤ (a0.size : Int)
      · rw [if_pos c7] at H
        have c7b0 := eq_true c7
        have c7b1 : decide ((ji5) ≤ (a0.size : Int)) = true := decide_eq_true c7
        clear c7
        simp only [Option.some.injEq, Prod.mk.injEq] at H
        obtain ⟨rfl, rfl, rfl⟩ := H
        go_enter Tryd.func57, Tryd.ntmps57
        go_wp2
        go_ret3
        exact ⟨by first | rfl | (simp; done) | (simp only [← hji5] <;> (first | rfl | simp)) | (simp [*]; done), by repeat (first | exact Drawn0.refl _ | apply Drawn0.step)⟩
      · rw [if_neg c7] at H
        exact absurd H (by simp)
    · rw [if_neg c6] at H
      exact absurd H (by simp)
  · rw [if_neg c4] at H
    have c4b0 : (a2 == 0) = false := beq_eq_false_iff_ne.mpr c4
    have c4b1 : (a2 != 0) = true := bne_iff_ne.mpr c4
    simp only [Option.some.injEq, Prod.mk.injEq] at H
    obtain ⟨rfl, rfl, rfl⟩ := H
    go_enter Tryd.func57, Tryd.ntmps57
    go_wp2
    go_ret3
    exact ⟨by first | rfl | (simp; done) | (simp [*]; done), by repeat (first | exact Drawn0.refl _ | apply Drawn0.step)⟩


end Go.Proofs.YthpfcplhlhnfeaaDoor.F
namespace Go.Proofs.YthpfcplhlhnfeaaDoor.F
open Go.RowKit Go.Proofs.YthpfcplhlhnfeaaDoorW.PrintWords Go.Proofs.YthpfcplhlhnfeaaDoorW.PrintLast Go.Proofs.YthpfcplhlhnfeaaDoorW.PrintMore
set_option linter.unusedVariables false
set_option linter.unusedSimpArgs false
set_option maxRecDepth 4000
open Go.Maps
/-- what was taken, and what is left -/
def takenR (s : ByteArray) (t : Tk) : ByteArray × ByteArray × Int := if t.2.1 = 0 then (s.extract 0 (s.size - t.1.size), t.1, 0) else (⟨#[]⟩, ⟨#[]⟩, t.2.1)
def tabR (s : ByteArray) : Tk := withinR (fieldR (valR s.size)) s 1 0
def tvalR (s : ByteArray) : Tk := valR (s.size + 1) s 0 0
def table_Take.f (a0 : ByteArray) : Option (ByteArray × ByteArray × Int) := if a0.size ≤ 4611686018427387904 then some (takenR a0 (tabR a0)) else none
def table_Value.f (a0 : ByteArray) : Option (ByteArray × ByteArray × Int) := if a0.size ≤ 4611686018427387904 then some (takenR a0 (tvalR a0)) else none
theorem taken_f (s : ByteArray) (t : Tk) (hz : s.size ≤ 4611686018427387904) (h : t.2.1 = 0 → t.1.size ≤ s.size) : table_taken.f s t.1 t.2.1 = some (takenR s t) := by
  unfold table_taken.f takenR
  by_cases e : t.2.1 = 0
  · have h := h e
    have e1 : wrap64 ((s.size : Int) - (t.1.size : Int)) = ((s.size - t.1.size : Nat) : Int) := by rw [wrap64_of (by omega) (by omega)]; omega
    rw [if_pos e, if_pos e, e1, if_pos (by omega), if_pos (by omega), Int.toNat_natCast]
  · rw [if_neg e, if_neg e]
theorem tabR_less (s : ByteArray) (h : (tabR s).2.1 = 0) : (tabR s).1.size < s.size := within_less h
theorem tvalR_less (s : ByteArray) (h : (tvalR s).2.1 = 0) : (tvalR s).1.size < s.size := val_less _ _ _ _ h
/-- a new taker -/
theorem TK.make {w w' : World} (hs : SizesAt w.heap.size w') (hb : Below w.heap.size w w') : TK w w'.heap.size w.heap.size 0 (w'.alloc (.cells #[.map (some w.heap.size), .int .i64 0] 102 (0, 0))) := by
  have hM : w.heap.size < w'.heap.size := by
    obtain ⟨_, _, hm, _⟩ := hs
    exact (Array.getElem?_eq_some_iff.1 hm).1
  have hA : Below w'.heap.size w' (w'.alloc (.cells #[.map (some w.heap.size), .int .i64 0] 102 (0, 0))) := (Below.refl _ _).alloc (Nat.le_refl _) _
  refine ⟨?_, ?_, hb.size, by omega, hb.alloc hb.size _⟩
  · exact Array.getElem?_push_size
  · obtain ⟨es, c, hm, hr⟩ := hs
    exact ⟨es, c, (hA.block _ hM).trans hm, hr⟩
/-- a table, taken by a new taker -/
theorem tab_calls {w0 W : World} (hL : Laid w0) {B M : Nat} (s : ByteArray) (hz : s.size ≤ 4611686018427387904) (hT : TK w0 B M 0 W) :
    Calls Tryd.prog 55 #[.pointer (some ⟨B, 0, none⟩), .string s, .int .i64 1, .func (.func 56) #[.pointer (some ⟨B, 0, none⟩)] #[]] W (VPost w0 B M (tabR s)) :=
  within_calls w0 hL B M 56 (fieldR (valR s.size)) (field_less (val_less _)) s hz 1 (by decide) (by decide) (fun _ _ => rfl)
    (fun i d W hi hd hT => field_calls w0 hL B M (valR s.size) i (by omega) 1 (fun i2 d2 W2 hi2 hT2 => value_calls w0 hL B M s.size i2 (by omega) (by omega) 1 (by decide) hd d2 W2 hT2) d W hT) 0 W hT
set_option maxHeartbeats 4000000 in
set_option maxRecDepth 100000 in
theorem table_Take.calls (a0 : ByteArray) (r1 r2 : ByteArray) (r3 : Int) (w : World) (hg : Laid w) (h : table_Take.f a0 = some (r1, r2, r3)) :
    Calls Tryd.prog 47 #[.string a0] w fun e w' => e = .returned (.tuple #[.string r1, .string r2, .int .i64 r3]) ∧ Below w.heap.size w w' := by
  have hz : a0.size ≤ 4611686018427387904 := by
    unfold table_Take.f at h
    by_cases e : a0.size ≤ 4611686018427387904
    · exact e
    · rw [if_neg e] at h; cases h
  have ht := taken_f a0 (tabR a0) hz (fun e => Nat.le_of_lt (tabR_less a0 e))
  unfold table_Take.f at h
  rw [if_pos hz] at h
  rw [h] at ht
  clear h
  have hW := fun w' (hs : SizesAt w.heap.size w') (hb : Below w.heap.size w w') => tab_calls hg a0 hz (TK.make hs hb)
  generalize tabR a0 = t at ht hW
  obtain ⟨t1, t2, t3⟩ := t
  simp only at ht
  go_enter Tryd.func47, Tryd.ntmps47
  go_wp2_with (first | (go_at_call 54; refine (table_sizes.calls _).mono ?_; rintro e w' ⟨rfl, hsz, hb⟩) | (go_at_call 55; refine (hW _ hsz hb).mono ?_; rintro e w2 ⟨rfl, hT⟩) | (go_at_call 57; refine (table_taken.calls _ _ _ _ _ _ _ ht).mono ?_; rintro e w3 ⟨rfl, ⟨nd, rfl⟩⟩))
  refine bodyPost_ret (results_tmp3 rfl _ _ _) rfl ?_
  exact ⟨rfl, hT.2.2.2.2.trans (pw_below_drewN (Below.refl _ _) nd)⟩
end Go.Proofs.YthpfcplhlhnfeaaDoor.F
namespace Go.Proofs.YthpfcplhlhnfeaaDoor.F
open Go.RowKit Go.Proofs.YthpfcplhlhnfeaaDoorW.PrintWords Go.Proofs.YthpfcplhlhnfeaaDoorW.PrintLast Go.Proofs.YthpfcplhlhnfeaaDoorW.PrintMore
set_option linter.unusedVariables false
set_option linter.unusedSimpArgs false
set_option maxRecDepth 4000
theorem items_congr {one one' : ByteArray → Int → Int → Tk} (hl : Less one) (dep : Int) : ∀ (k : Nat) (s : ByteArray) (d : Int), (∀ i d, i.size ≤ s.size → one i dep d = one' i dep d) → itemsR one k s dep d = itemsR one' k s dep d
  | 0, _, _, _ => rfl
  | k + 1, s, d, h => by
    rw [itemsR, itemsR, ← h s d (Nat.le_refl _)]
    by_cases e : s.size = 0
    · rw [if_pos e, if_pos e]
    · rw [if_neg e, if_neg e]
      have hs := hl s dep d
      by_cases e2 : (one s dep d).2.1 = 2
      · rw [if_pos e2]; rfl
      · rw [if_neg e2]
        by_cases e0 : (one s dep d).2.1 = 0
        · rw [if_pos e0, if_pos e0]
          have := hs e0
          exact items_congr hl dep k _ _ fun i d hi => h i d (by omega)
        · rw [if_neg e0, if_neg e0]
theorem within_congr {one one' : ByteArray → Int → Int → Tk} (hl : Less one) (s : ByteArray) (dep d : Int) (h : ∀ i d, i.size < s.size → one i dep d = one' i dep d) : withinR one s dep d = withinR one' s dep d := by
  unfold withinR
  have hs := ltake_less (n := 4) (t := s)
  by_cases e : (ltakeR 4 s).2.2 = 0
  · rw [if_pos e, if_pos e]
    replace hs := hs e (by decide) isW4
    by_cases hd : dep ≤ 32
    · rw [if_pos hd, if_pos hd, items_congr hl dep _ _ _ fun i d hi => h i d (by omega)]
    · rw [if_neg hd, if_neg hd]
  · rw [if_neg e, if_neg e]
theorem field_congr {val val' : ByteArray → Int → Int → Tk} (s : ByteArray) (dep d : Int) (h : ∀ i d, i.size ≤ s.size → val i dep d = val' i dep d) : fieldR val s dep d = fieldR val' s dep d := by
  unfold fieldR
  rw [h _ d (ltake_size 1 s).2]
theorem val_fuel : ∀ (k j : Nat) (s : ByteArray) (dep d : Int), s.size < k → s.size < j → valR k s dep d = valR j s dep d := by
  intro k
  induction k with
  | zero => intro j s dep d h; omega
  | succ k ih =>
    intro j s dep d hk hj
    obtain ⟨j, rfl⟩ : ∃ i, j = i + 1 := ⟨j - 1, by omega⟩
    rw [valR, valR]
    by_cases e : s.size = 0
    · rw [if_pos e, if_pos e]
    · have ht := tail_size e
      rw [if_neg e, if_neg e, within_congr (one' := valR j) (val_less k) _ _ _ fun i d hi => ih j i _ d (by omega) (by omega),
        within_congr (one' := fieldR (valR j)) (field_less (val_less k)) _ _ _ fun i d hi => field_congr i _ d fun i2 d2 hi2 => ih j i2 _ d2 (by omega) (by omega)]
/-- a value, taken with rounds enough -/
def valT (s : ByteArray) (dep d : Int) : Tk := valR (s.size + 1) s dep d
theorem valT_less : Less valT := fun s dep d h => val_less _ s dep d h
theorem valT_eq (s : ByteArray) (dep d : Int) : valT s dep d = if s.size = 0 then (⟨#[]⟩, 2, d) else
      match sizeU (kindOf s) with
      | some n => ((skipR (tailOf s) n).2.1, (skipR (tailOf s) n).2.2, d)
      | none => if kindOf s = 83 ∨ kindOf s = 120 then ((ltakeR 4 (tailOf s)).2.1, (ltakeR 4 (tailOf s)).2.2, d)
        else if kindOf s = 65 then withinR valT (tailOf s) (dep + 1) d
        else if kindOf s = 70 then withinR (fieldR valT) (tailOf s) (dep + 1) d
        else (⟨#[]⟩, 3, d) := by
  unfold valT
  rw [valR]
  by_cases e : s.size = 0
  · rw [if_pos e, if_pos e]
  · have ht := tail_size e
    rw [if_neg e, if_neg e, within_congr (one' := fun s dep d => valR (s.size + 1) s dep d) (val_less _) _ _ _ fun i d hi => val_fuel _ _ i _ d (by omega) (by omega),
      within_congr (one' := fieldR fun s dep d => valR (s.size + 1) s dep d) (field_less (val_less _)) _ _ _ fun i d hi => field_congr i _ d fun i2 d2 hi2 => val_fuel _ _ i2 _ d2 (by omega) (by omega)]
    rfl
/-- a table's taking, with rounds enough -/
theorem tabR_eq (s : ByteArray) : tabR s = withinR (fieldR valT) s 1 0 := by
  unfold tabR
  exact within_congr (field_less (val_less _)) s 1 0 fun i d hi => field_congr i _ d fun i2 d2 hi2 => val_fuel _ _ i2 _ d2 (by omega) (by omega)
/-- within: what stands behind it changes nothing -/
theorem within_pre {one : ByteArray → Int → Int → Tk} {s : ByteArray} {dep d : Int} (h : (withinR one s dep d).2.1 = 0) :
    ∃ a, s = a ++ (withinR one s dep d).1 ∧ ∀ more, withinR one (a ++ more) dep d = (more, 0, (withinR one s dep d).2.2) := by
  unfold withinR at h ⊢
  by_cases e : (ltakeR 4 s).2.2 = 0
  · rw [if_pos e] at h ⊢
    obtain ⟨h1, h2⟩ := take_lay e
    by_cases hd : dep ≤ 32
    · rw [if_pos hd] at h ⊢
      refine ⟨(layR 4 (ltakeR 4 s).1).1, h2.symm, fun more => ?_⟩
      rw [lay_take more h1]
      simp only at h ⊢
      rw [if_pos trivial, if_pos hd, h]
    · rw [if_neg hd] at h
      exact absurd h (show ¬ (5 : Int) = 0 by decide)
  · rw [if_neg e] at h
    exact absurd h e
/-- the kind's byte -/
def headOf (s : ByteArray) : ByteArray := s.extract 0 1
theorem head_tail {s : ByteArray} (h : ¬ s.size = 0) : headOf s ++ tailOf s = s := extract_join s 1 (by omega)
theorem head_size {s : ByteArray} (h : ¬ s.size = 0) : (headOf s).size = 1 := extract_size s 1 (by omega)
theorem head_kind {s : ByteArray} (h : ¬ s.size = 0) (y : ByteArray) : kindOf (headOf s ++ y) = kindOf s := by
  unfold kindOf
  have h1 := head_tail h
  have h2 := head_size h
  generalize headOf s = a at h1 h2
  rw [← h1]
  rw [append_data, append_data]
  cases hl : a.data.toList with
  | nil => rw [← size_list, hl] at h2; simp at h2
  | cons b l => rfl
theorem tail_head {s : ByteArray} (h : ¬ s.size = 0) (y : ByteArray) : tailOf (headOf s ++ y) = y := by
  have h2 := head_size h
  unfold tailOf
  rw [← h2]
  exact extract_app_right _ _
theorem skip_pre {s : ByteArray} {n : Nat} (h : (skipR s n).2.2 = 0) : ∃ a, s = a ++ (skipR s n).2.1 ∧ ∀ more, (skipR (a ++ more) n).2 = (more, 0) := by
  unfold skipR at h ⊢
  by_cases e : (n : Int) ≤ (s.size : Int)
  · rw [if_pos e]
    have ha := extract_size s n (by omega)
    refine ⟨s.extract 0 n, (extract_join s n (by omega)).symm, fun more => ?_⟩
    rw [if_pos (by rw [size_append]; omega)]
    simp only [Int.toNat_natCast]
    have := extract_app_right (s.extract 0 n) more
    rw [ha] at this
    rw [this]
  · rw [if_neg e] at h
    exact absurd h (show ¬ (2 : Int) = 0 by decide)
theorem ltake_pre {s : ByteArray} (h : (ltakeR 4 s).2.2 = 0) : ∃ a, s = a ++ (ltakeR 4 s).2.1 ∧ ∀ more, (ltakeR 4 (a ++ more)).2 = (more, 0) := by
  obtain ⟨h1, h2⟩ := take_lay h
  exact ⟨_, h2.symm, fun more => by rw [lay_take more h1]⟩
/-- A value: what stands behind it changes nothing. -/
theorem val_pre {s : ByteArray} {dep d : Int} (h : (valT s dep d).2.1 = 0) :
    ∃ a, s = a ++ (valT s dep d).1 ∧ ∀ more, valT (a ++ more) dep d = (more, 0, (valT s dep d).2.2) := by
  rw [valT_eq] at h ⊢
  by_cases e : s.size = 0
  · rw [if_pos e] at h; exact absurd h (show ¬ (2 : Int) = 0 by decide)
  rw [if_neg e] at h ⊢
  have hs := head_size e
  have step : ∀ (x : ByteArray) (more : ByteArray), valT ((headOf s ++ x) ++ more) dep d = match sizeU (kindOf s) with
      | some n => ((skipR (x ++ more) n).2.1, (skipR (x ++ more) n).2.2, d)
      | none => if kindOf s = 83 ∨ kindOf s = 120 then ((ltakeR 4 (x ++ more)).2.1, (ltakeR 4 (x ++ more)).2.2, d)
        else if kindOf s = 65 then withinR valT (x ++ more) (dep + 1) d
        else if kindOf s = 70 then withinR (fieldR valT) (x ++ more) (dep + 1) d
        else (⟨#[]⟩, 3, d) := by
    intro x more
    rw [valT_eq, app_assoc, if_neg (by rw [size_append]; omega), head_kind e, tail_head e]
  have hj := head_tail e
  have close : ∀ x r, tailOf s = x ++ r → s = (headOf s ++ x) ++ r := by
    intro x r hx
    rw [app_assoc, ← hx, hj]
  cases hk : sizeU (kindOf s) with
  | some n =>
    rw [hk] at h step
    simp only at h step ⊢
    obtain ⟨a, h1, h2⟩ := skip_pre h
    refine ⟨headOf s ++ a, close _ _ h1, fun more => ?_⟩
    rw [step, h2 more]
  | none =>
    rw [hk] at h step
    simp only at h step ⊢
    by_cases c1 : kindOf s = 83 ∨ kindOf s = 120
    · simp only [if_pos c1] at h step ⊢
      obtain ⟨a, h1, h2⟩ := ltake_pre h
      refine ⟨headOf s ++ a, close _ _ h1, fun more => ?_⟩
      rw [step, h2 more]
    · simp only [if_neg c1] at h step ⊢
      by_cases c2 : kindOf s = 65
      · simp only [if_pos c2] at h step ⊢
        obtain ⟨a, h1, h2⟩ := within_pre h
        exact ⟨headOf s ++ a, close _ _ h1, fun more => by rw [step, h2 more]⟩
      · simp only [if_neg c2] at h step ⊢
        by_cases c3 : kindOf s = 70
        · simp only [if_pos c3] at h step ⊢
          obtain ⟨a, h1, h2⟩ := within_pre h
          exact ⟨headOf s ++ a, close _ _ h1, fun more => by rw [step, h2 more]⟩
        · simp only [if_neg c3] at h
          exact absurd h (show ¬ (3 : Int) = 0 by decide)
end Go.Proofs.YthpfcplhlhnfeaaDoor.F
namespace Go.Proofs.YthpfcplhlhnfeaaDoor.F
open Go.RowKit Go.Proofs.YthpfcplhlhnfeaaDoorW.PrintWords Go.Proofs.YthpfcplhlhnfeaaDoorW.PrintLast Go.Proofs.YthpfcplhlhnfeaaDoorW.PrintMore
attribute [local go_sem] max2_int min2_int max_two min_two max_three min_three max_four min_four
set_option linter.unusedVariables false
set_option linter.unusedSimpArgs false
set_option maxRecDepth 4000
set_option linter.unnecessarySimpa false

/-! ### interchangeref01_Take: function 36 -/
mutual
def interchangeref01_Take.j0 : Nat → ByteArray → Int → Bool → Option (Int × ByteArray × Int)
  | 0, _, _, _ => none
  | k + 1, x0, x1, x22 => if x22 = true then (some (0, (⟨#[]⟩ : ByteArray), 1)) else (if (x0.size : Int) < x1 then (some (0, (⟨#[]⟩ : ByteArray), 2)) else (interchangeref01_Take.l0 k x0 x1 0 0))
def interchangeref01_Take.l0 : Nat → ByteArray → Int → Int → Int → Option (Int × ByteArray × Int)
  | 0, _, _, _, _ => none
  | k + 1, x0, x1, x7, x8 => if x8 < x1 then (if 0 ≤ x8 then (if x8 < (x0.size : Int) then (interchangeref01_Take.l0 k x0 x1 (IntKind.u64.wrap ((IntKind.u64.wrap (256 * x7)) + (IntKind.u64.wrap (bt x0 x8)))) (wrap64 (x8 + 1))) else (none)) else (none)) else (if 0 ≤ x1 then (if x1 ≤ (x0.size : Int) then (some (x7, x0.extract (x1 : Int).toNat x0.size, 0)) else (none)) else (none))
end
def interchangeref01_Take.f (k : Nat) (a0 : ByteArray) (a1 : Int) : Option (Int × ByteArray × Int) := if a1 = 1 then (interchangeref01_Take.j0 k a0 a1 false) else (if a1 = 2 then (interchangeref01_Take.j0 k a0 a1 false) else (if a1 = 4 then (interchangeref01_Take.j0 k a0 a1 false) else (interchangeref01_Take.j0 k a0 a1 (a1 != 8))))
theorem interchangeref01_Take.mono_l : ∀ k, (∀ y0 y1 y2, LeO (interchangeref01_Take.j0 k y0 y1 y2) (interchangeref01_Take.j0 (k + 1) y0 y1 y2)) ∧ (∀ y0 y1 y2 y3, LeO (interchangeref01_Take.l0 k y0 y1 y2 y3) (interchangeref01_Take.l0 (k + 1) y0 y1 y2 y3))
  | 0 => ⟨fun _ _ _ r h => by simp [interchangeref01_Take.j0] at h, fun _ _ _ _ r h => by simp [interchangeref01_Take.l0] at h⟩
  | k + 1 => by
    obtain ⟨ih0, ih1⟩ := interchangeref01_Take.mono_l k
    refine ⟨?_, ?_⟩
    · intro y0 y1 y2
      unfold interchangeref01_Take.j0
      repeat' first
      | (with_reducible exact ih0 _ _ _)
      | (with_reducible exact ih1 _ _ _ _)
      | (with_reducible exact LeO.refl _)
      | (with_reducible exact LeO.none _)
      | (with_reducible refine LeO.ite ?_ ?_)
      | (with_reducible refine LeO.bind ?_ (fun _ => ?_))
      | exact ih0 _ _ _
      | exact ih1 _ _ _ _
      | exact LeO.none _
      | refine LeO.ite ?_ ?_
      | refine LeO.bind ?_ (fun _ => ?_)
    · intro y0 y1 y2 y3
      unfold interchangeref01_Take.l0
      repeat' first
      | (with_reducible exact ih0 _ _ _)
      | (with_reducible exact ih1 _ _ _ _)
      | (with_reducible exact LeO.refl _)
      | (with_reducible exact LeO.none _)
      | (with_reducible refine LeO.ite ?_ ?_)
      | (with_reducible refine LeO.bind ?_ (fun _ => ?_))
      | exact ih0 _ _ _
      | exact ih1 _ _ _ _
      | exact LeO.none _
      | refine LeO.ite ?_ ?_
      | refine LeO.bind ?_ (fun _ => ?_)
theorem interchangeref01_Take.mono : ∀ a0 a1 k, LeO (interchangeref01_Take.f k a0 a1) (interchangeref01_Take.f (k + 1) a0 a1) := by
  intro a0 a1 k
  obtain ⟨ih0, ih1⟩ := interchangeref01_Take.mono_l k
  unfold interchangeref01_Take.f
  repeat' first
      | (with_reducible exact ih0 _ _ _)
      | (with_reducible exact ih1 _ _ _ _)
      | (with_reducible exact LeO.refl _)
      | (with_reducible exact LeO.none _)
      | (with_reducible refine LeO.ite ?_ ?_)
      | (with_reducible refine LeO.bind ?_ (fun _ => ?_))
      | exact ih0 _ _ _
      | exact ih1 _ _ _ _
      | exact LeO.none _
      | refine LeO.ite ?_ ?_
      | refine LeO.bind ?_ (fun _ => ?_)
set_option maxHeartbeats 8000000 in
set_option maxRecDepth 100000 in
theorem interchangeref01_Take.calls (k : Nat) (a0 : ByteArray) (a1 : Int) (r1 : Int) (r2 : ByteArray) (r3 : Int) (w : World) (h : interchangeref01_Take.f k a0 a1 = some (r1, r2, r3)) :
    Calls Tryd.prog 36 #[.string a0, .int .i64 a1] w fun e w' => e = .returned (.tuple #[.int .u64 r1, .string r2, .int .i64 r3]) ∧ Drawn0 w w' := by
  have H : (if a1 = 1 then (interchangeref01_Take.j0 k a0 a1 false) else (if a1 = 2 then (interchangeref01_Take.j0 k a0 a1 false) else (if a1 = 4 then (interchangeref01_Take.j0 k a0 a1 false) else (interchangeref01_Take.j0 k a0 a1 (a1 != 8))))) = some (r1, r2, r3) := h
  clear h
  have HC3 := Aside0.mk H
  clear H
  go_enter Tryd.func36, Tryd.ntmps36
  go_upto_region 1 with (fail)
  repeat (go_quiet (fail); go_upto_region 1 with (fail))
  go_cut [22] (fun v22 wc => ∃ (kq : Nat) (x22_2 : Bool), v22 = .bool x22_2 ∧ Aside0 (interchangeref01_Take.j0 kq a0 a1 x22_2 = some (r1, r2, r3)) ∧ Aside0 (kq ≤ k) ∧ Drawn0 w wc)
  case first =>
    have H := HC3.out
    clear HC3
    by_cases c4 : a1 = 1
    · rw [if_pos c4] at H
      have c4b0 : (a1 == 1) = true := beq_iff_eq.mpr c4
      have c4b1 : (a1 != 1) = false := bne_eq_false_iff_eq.mpr c4
      clear c4
      (first | rw [c4b0] | (simp only [i64_w, i32_w]; rw [c4b0]) | skip)
      have H' := Aside0.mk H
      clear H
      go_wp2
      repeat (go_quiet (fail); try go_wp2)
      go_meet
      case rel => exact ⟨_, (false), (by first | rfl | (simp; done) | (simp [*]; done)), H', ⟨by first | omega | exact Nat.le_refl _⟩, by repeat (first | exact Drawn0.refl _ | apply Drawn0.step)⟩
    · rw [if_neg c4] at H
      have c4b0 : (a1 == 1) = false := beq_eq_false_iff_ne.mpr c4
      have c4b1 : (a1 != 1) = true := bne_iff_ne.mpr c4
      (first | rw [c4b0] | (simp only [i64_w, i32_w]; rw [c4b0]) | skip)
      by_cases c5 : a1 = 2
      · rw [if_pos c5] at H
        have c5b0 : (a1 == 2) = true := beq_iff_eq.mpr c5
        have c5b1 : (a1 != 2) = false := bne_eq_false_iff_eq.mpr c5
        clear c5
        have H' := Aside0.mk H
        clear H
        go_wp2
        repeat (go_quiet (fail); try go_wp2)
        go_meet
        case rel => exact ⟨_, (false), (by first | rfl | (simp; done) | (simp [*]; done)), H', ⟨by first | omega | exact Nat.le_refl _⟩, by repeat (first | exact Drawn0.refl _ | apply Drawn0.step)⟩
      · rw [if_neg c5] at H
        have c5b0 : (a1 == 2) = false := beq_eq_false_iff_ne.mpr c5
        have c5b1 : (a1 != 2) = true := bne_iff_ne.mpr c5
        by_cases c6 : a1 = 4
        · rw [if_pos c6] at H
          have c6b0 : (a1 == 4) = true := beq_iff_eq.mpr c6
          have c6b1 : (a1 != 4) = false := bne_eq_false_iff_eq.mpr c6
          clear c6
          have H' := Aside0.mk H
          clear H
          go_wp2
          repeat (go_quiet (fail); try go_wp2)
          go_meet
          case rel => exact ⟨_, (false), (by first | rfl | (simp; done) | (simp [*]; done)), H', ⟨by first | omega | exact Nat.le_refl _⟩, by repeat (first | exact Drawn0.refl _ | apply Drawn0.step)⟩
        · rw [if_neg c6] at H
          have c6b0 : (a1 == 4) = false := beq_eq_false_iff_ne.mpr c6
          have c6b1 : (a1 != 4) = true := bne_iff_ne.mpr c6
          have H' := Aside0.mk H
          clear H
          go_wp2
          repeat (go_quiet (fail); try go_wp2)
          go_meet
          case rel => exact ⟨_, ((a1 != 8)), (by first | rfl | (simp; done) | (simp [*]; done)), H', ⟨by first | omega | exact Nat.le_refl _⟩, by repeat (first | exact Drawn0.refl _ | apply Drawn0.step)⟩
  case rest =>
    clear HC3
    try clear p2
    try clear c3
    try clear c4
    try clear c4b0
    try clear c4b1
    try clear c5
    try clear c5b0
    try clear c5b1
    try clear c6
    try clear c6b0
    try clear c6b1
    obtain ⟨kq, x22_2, rfl, HA, HJ2, ⟨mc2, rfl⟩⟩ := hcut
    cases kq with
    | zero => exact absurd HA.out (by simp [interchangeref01_Take.j0])
    | succ kj2 =>
      have H := HA.out
      clear HA
      simp only [interchangeref01_Take.j0] at H
      by_cases c7 : x22_2 = true
      · subst c7
        have H1 : (some (0, (⟨#[]⟩ : ByteArray), 1)) = some (r1, r2, r3) := by rw [if_pos rfl] at H; exact H
        clear H
        have H := H1
        clear H1
        simp only [Option.some.injEq, Prod.mk.injEq] at H
        obtain ⟨rfl, rfl, rfl⟩ := H
        go_wp2
        repeat (go_quiet (fail); try go_wp2)
        go_ret3
        exact ⟨by first | rfl | (simp; done) | (simp [*]; done), by repeat (first | exact Drawn0.refl _ | apply Drawn0.step)⟩
      · replace c7 := Bool.eq_false_iff.mpr c7
        subst c7
        have H1 : (if (a0.size : Int) < a1 then (some (0, (⟨#[]⟩ : ByteArray), 2)) else (interchangeref01_Take.l0 kj2 a0 a1 0 0)) = some (r1, r2, r3) := by rw [if_neg (show ¬ (false = true) by decide)] at H; exact H
        clear H
        have H := H1
        clear H1
        by_cases c8 : (a0.size : Int) < a1
        · rw [if_pos c8] at H
          have c8b0 : decide ((a0.size : Int) < a1) = true := decide_eq_true c8
          clear c8
          simp only [Option.some.injEq, Prod.mk.injEq] at H
          obtain ⟨rfl, rfl, rfl⟩ := H
          go_wp2
          repeat (go_quiet (fail); try go_wp2)
          go_ret3
          exact ⟨by first | rfl | (simp; done) | (simp [*]; done), by repeat (first | exact Drawn0.refl _ | apply Drawn0.step)⟩
        · rw [if_neg c8] at H
          have c8b0 : decide ((a0.size : Int) < a1) = false := decide_eq_false c8
          clear c8
          have H' := Aside0.mk H
          clear H
          go_wp2
          repeat (go_quiet (fail); try go_wp2)
          go_loopg [7, 8] kj2 (fun kq v7 v8 w' => ∃ (x7_2 : Int) (x8_2 : Int), v7 = .int .u64 x7_2 ∧ v8 = .int .i64 x8_2 ∧ Aside0 (interchangeref01_Take.l0 kq a0 a1 x7_2 x8_2 = some (r1, r2, r3)) ∧ Aside0 (kq ≤ kj2) ∧ Drawn0 w w')
          case atStart => exact ⟨(0), (0), (by first | rfl | (simp; done) | (simp [*]; done)), (by first | rfl | (simp; done) | (simp [*]; done)), H', ⟨Nat.le_refl _⟩, by repeat (first | exact Drawn0.refl _ | apply Drawn0.step)⟩
          case round =>
            clear H'
            try clear c2
            try clear p2
            try clear c3
            try clear c4
            try clear c4b0
            try clear c4b1
            try clear c5
            try clear c5b0
            try clear c5b1
            try clear c6
            try clear c6b0
            try clear c6b1
            try clear c7
            try clear c8
            try clear c8b0
            try clear p2
            obtain ⟨x7_2, x8_2, rfl, rfl, HA, HK2, ⟨m2, rfl⟩⟩ := hrel
            cases gk with
            | zero => exact absurd HA.out (by simp [interchangeref01_Take.l0])
            | succ k2 =>
              have H := HA.out
              clear HA
              simp only [interchangeref01_Take.l0] at H
              by_cases c9 : x8_2 < a1
              · rw [if_pos c9] at H
                have c9b0 : decide (x8_2 < a1) = true := decide_eq_true c9
                clear c9
                by_cases c10 : 0 ≤ x8_2
                · rw [if_pos c10] at H
                  have c10b0 : decide (0 ≤ x8_2) = true := decide_eq_true c10
                  clear c10
                  by_cases c11 : x8_2 < (a0.size : Int)
                  · rw [if_pos c11] at H
                    have c11b0 : decide (x8_2 < (a0.size : Int)) = true := decide_eq_true c11
                    clear c11
                    have H' := Aside0.mk H
                    clear H
                    have p12 : 0 ≤ (x8_2 : Int) := of_decide_eq_true (by first | (with_reducible assumption) | assumption)
                    have q12 : x8_2 < (a0.size : Int) := of_decide_eq_true (by first | (with_reducible assumption) | assumption)
                    have hx12 := bt_at a0 x8_2
                    replace p12 := eq_true p12
                    replace q12 := eq_true q12
                    go_wp2
                    repeat (go_quiet (fail); try go_wp2)
                    go_roundg k2
                    case measure => have := HJ2.out; have := HK2.out; omega
                    case rel => exact ⟨(IntKind.u64.wrap ((IntKind.u64.wrap (256 * x7_2)) + (IntKind.u64.wrap (bt a0 x8_2)))), (wrap64 (x8_2 + 1)), (by first | rfl | (simp; done) | (simp [*]; done)), (by first | rfl | (simp; done) | (simp [*]; done)), H', ⟨by have := HJ2.out; have := HK2.out; omega⟩, by repeat (first | exact Drawn0.refl _ | apply Drawn0.step)⟩
                  · rw [if_neg c11] at H
                    exact absurd H (by simp)
                · rw [if_neg c10] at H
                  exact absurd H (by simp)
              · rw [if_neg c9] at H
                have c9b0 : decide (x8_2 < a1) = false := decide_eq_false c9
                clear c9
                by_cases c13 : 0 ≤ a1
                · rw [if_pos c13] at H
                  have c13b0 := eq_true c13
                  have c13b1 : decide (0 ≤ a1) = true := decide_eq_true c13
                  clear c13
                  by_cases c14 : a1 ≤ (a0.size : Int)
                  · rw [if_pos c14] at H
                    have c14b0 := eq_true c14
                    have c14b1 : decide (a1 ≤ (a0.size : Int)) = true := decide_eq_true c14
                    clear c14
                    simp only [Option.some.injEq, Prod.mk.injEq] at H
                    obtain ⟨rfl, rfl, rfl⟩ := H
                    go_wp2
                    repeat (go_quiet (fail); try go_wp2)
                    go_ret3
                    exact ⟨by first | rfl | (simp; done) | (simp [*]; done), by repeat (first | exact Drawn0.refl _ | apply Drawn0.step)⟩
                  · rw [if_neg c14] at H
                    exact absurd H (by simp)
                · rw [if_neg c13] at H
                  exact absurd H (by simp)


end Go.Proofs.YthpfcplhlhnfeaaDoor.F
namespace Go.Proofs.YthpfcplhlhnfeaaDoor.F
open Go.RowKit Go.Proofs.YthpfcplhlhnfeaaDoorW.PrintWords Go.Proofs.YthpfcplhlhnfeaaDoorW.PrintLast Go.Proofs.YthpfcplhlhnfeaaDoorW.PrintMore
set_option linter.unusedVariables false
set_option linter.unusedSimpArgs false
set_option maxRecDepth 4000

theorem rtake_loop (s : ByteArray) (n : Nat) (hn : n ≤ 8) (hs : n ≤ s.size) (d : Nat) : ∀ (k i : Nat), n = i + d → d < k →
    interchangeref01_Take.l0 k s n ((beNum (s.data.toList.take i) : Nat) : Int) i = some (((beNum (s.data.toList.take n) : Nat) : Int), s.extract n s.size, 0) := by
  induction d with
  | zero =>
    intro k i hi hk
    obtain ⟨k, rfl⟩ : ∃ m, k = m + 1 := ⟨k - 1, by omega⟩
    obtain rfl : n = i := by omega
    simp only [interchangeref01_Take.l0]
    rw [if_neg (by omega), if_pos (by omega), if_pos (by omega)]
    simp
  | succ d ih =>
    intro k i hi hk
    obtain ⟨k, rfl⟩ : ∃ m, k = m + 1 := ⟨k - 1, by omega⟩
    simp only [interchangeref01_Take.l0]
    rw [if_pos (by omega), if_pos (by omega), if_pos (by omega), bt_get s i (by omega)]
    have hx : beNum (s.data.toList.take i) < 72057594037927936 := by
      have h1 := beNum_lt (s.data.toList.take i)
      have h2 : (s.data.toList.take i).length ≤ 7 := by rw [List.length_take]; omega
      have h3 : 256 ^ (s.data.toList.take i).length ≤ 256 ^ 7 := Nat.pow_le_pow_right (by decide) h2
      omega
    have hb := (s.data.toList[i]'(by simp only [Array.length_toList]; show i < s.size; omega)).toNat_lt
    rw [wrapU (x := 256 * _) (by omega) (by omega), wrapU (x := ((s.data.toList[i]'(by simp only [Array.length_toList]; show i < s.size; omega)).toNat : Int)) (by omega) (by omega), wrapU (by omega) (by omega)]
    have e3 : wrap64 ((i : Int) + 1) = ((i + 1 : Nat) : Int) := by rw [wrap64_of (by omega) (by omega)]; omega
    have e4 : (256 * ((beNum (s.data.toList.take i) : Nat) : Int) + ((s.data.toList[i]'(by simp only [Array.length_toList]; show i < s.size; omega)).toNat : Int)) = ((beNum (s.data.toList.take (i + 1)) : Nat) : Int) := by
      rw [take_succ_num s i (by omega)]; omega
    rw [e3, e4]
    exact ih k (i + 1) (by omega) (by omega)
theorem rtake_flag (k : Nat) (s : ByteArray) (a0 : Int) : interchangeref01_Take.f k s a0 = interchangeref01_Take.j0 k s a0 (decide (¬ isW a0)) := by
  unfold interchangeref01_Take.f isW
  by_cases h1 : a0 = 1
  · rw [if_pos h1]; simp [h1]
  by_cases h2 : a0 = 2
  · rw [if_neg h1, if_pos h2]; simp [h2]
  by_cases h4 : a0 = 4
  · rw [if_neg h1, if_neg h2, if_pos h4]; simp [h4]
  rw [if_neg h1, if_neg h2, if_neg h4]
  by_cases h8 : a0 = 8
  · simp [h8]
  · have : (a0 != 8) = true := by simp [h8]
    rw [this]
    simp [h1, h2, h4, h8]
theorem rtake_at (s : ByteArray) (n : Int) : interchangeref01_Take.f 11 s n = some (takeR s n) := by
  rw [rtake_flag]
  unfold takeR
  simp only [interchangeref01_Take.j0]
  by_cases hw : isW n
  · rw [if_pos hw, if_neg (by simp [hw])]
    by_cases hl : (s.size : Int) < n
    · rw [if_pos hl, if_pos hl]
    · rw [if_neg hl, if_neg hl]
      obtain ⟨m, rfl⟩ : ∃ m : Nat, n = m := ⟨n.toNat, by rcases hw with h | h | h | h <;> omega⟩
      have hm : m ≤ 8 := by rcases hw with h | h | h | h <;> omega
      have := rtake_loop s m hm (by omega) m 10 0 (by omega) (by omega)
      simpa [beNum] using this
  · rw [if_neg hw, if_pos (by simp [hw])]
theorem rtake_ev (s : ByteArray) (n : Int) : Ev (fun k => interchangeref01_Take.f k s n) (takeR s n) := Ev.of (interchangeref01_Take.mono s n) (rtake_at s n)
theorem rtake_k {k : Nat} (hk : 12 ≤ k) (s : ByteArray) (n : Int) : interchangeref01_Take.f k s n = some (takeR s n) := at_rounds (interchangeref01_Take.mono s n) (Nat.le_trans (by decide) hk) (rtake_at s n)
end Go.Proofs.YthpfcplhlhnfeaaDoor.F
namespace Go.Proofs.YthpfcplhlhnfeaaDoor.F
open Go.RowKit Go.Proofs.YthpfcplhlhnfeaaDoorW.PrintWords Go.Proofs.YthpfcplhlhnfeaaDoorW.PrintLast Go.Proofs.YthpfcplhlhnfeaaDoorW.PrintMore
attribute [local go_sem] max2_int min2_int max_two min_two max_three min_three max_four min_four
set_option linter.unusedVariables false
set_option linter.unusedSimpArgs false
set_option maxRecDepth 4000
set_option linter.unnecessarySimpa false

/-! ### interchangeref02_TakeShort: function 49 -/
def interchangeref02_TakeShort.f (a0 : ByteArray) : Option (ByteArray × ByteArray × Int) := if (a0.size : Int) < 1 then (some ((⟨#[]⟩ : ByteArray), (⟨#[]⟩ : ByteArray), 2)) else (if 0 < (a0.size : Int) then (if (a0.size : Int) < (wrap64 (1 + (wrap64 (bt a0 0)))) then (some ((⟨#[]⟩ : ByteArray), (⟨#[]⟩ : ByteArray), 2)) else (if 1 ≤ (wrap64 (1 + (wrap64 (bt a0 0)))) then (if (wrap64 (1 + (wrap64 (bt a0 0)))) ≤ (a0.size : Int) then (if 0 ≤ (wrap64 (1 + (wrap64 (bt a0 0)))) then (some (a0.extract 1 ((wrap64 (1 + (wrap64 (bt a0 0)))) : Int).toNat, a0.extract ((wrap64 (1 + (wrap64 (bt a0 0)))) : Int).toNat a0.size, 0)) else (none)) else (none)) else (none))) else (none))
set_option maxHeartbeats 8000000 in
set_option maxRecDepth 100000 in
theorem interchangeref02_TakeShort.calls (a0 : ByteArray) (r1 : ByteArray) (r2 : ByteArray) (r3 : Int) (w : World) (h : interchangeref02_TakeShort.f a0 = some (r1, r2, r3)) :
    Calls Tryd.prog 49 #[.string a0] w fun e w' => e = .returned (.tuple #[.string r1, .string r2, .int .i64 r3]) ∧ Drawn0 w w' := by
  have H : (if (a0.size : Int) < 1 then (some ((⟨#[]⟩ : ByteArray), (⟨#[]⟩ : ByteArray), 2)) else (if 0 < (a0.size : Int) then (if (a0.size : Int) < (wrap64 (1 + (wrap64 (bt a0 0)))) then (some ((⟨#[]⟩ : ByteArray), (⟨#[]⟩ : ByteArray), 2)) else (if 1 ≤ (wrap64 (1 + (wrap64 (bt a0 0)))) then (if (wrap64 (1 + (wrap64 (bt a0 0)))) ≤ (a0.size : Int) then (if 0 ≤ (wrap64 (1 + (wrap64 (bt a0 0)))) then (some (a0.extract 1 ((wrap64 (1 + (wrap64 (bt a0 0)))) : Int).toNat, a0.extract ((wrap64 (1 + (wrap64 (bt a0 0)))) : Int).toNat a0.size, 0)) else (none)) else (none)) else (none))) else (none))) = some (r1, r2, r3) := h
  clear h
  by_cases c2 : (a0.size : Int) < 1
  · rw [if_pos c2] at H
    have c2b0 : decide ((a0.size : Int) < 1) = true := decide_eq_true c2
    have c2b1 : decide (a0.size < 1) = true := decide_eq_true (by omega)
    clear c2
    simp only [Option.some.injEq, Prod.mk.injEq] at H
    obtain ⟨rfl, rfl, rfl⟩ := H
    go_enter Tryd.func49, Tryd.ntmps49
    go_wp2
    repeat (go_quiet (fail); try go_wp2)
    go_ret3
    exact ⟨by first | rfl | (simp; done) | (simp [*]; done), by repeat (first | exact Drawn0.refl _ | apply Drawn0.step)⟩
  · rw [if_neg c2] at H
    have c2b0 : decide ((a0.size : Int) < 1) = false := decide_eq_false c2
    have c2b1 : decide (a0.size < 1) = false := decide_eq_false (by omega)
    clear c2
    by_cases c3 : 0 < (a0.size : Int)
    · rw [if_pos c3] at H
      have c3b0 : decide (0 < (a0.size : Int)) = true := decide_eq_true c3
      have c3b1 : decide (0 < a0.size) = true := decide_eq_true (by omega)
      clear c3
      by_cases c5 : (a0.size : Int) < (wrap64 (1 + (wrap64 (bt a0 0))))
      · rw [if_pos c5] at H
        have c5b0 : decide ((a0.size : Int) < (wrap64 (1 + (wrap64 (bt a0 0))))) = true := decide_eq_true c5
        clear c5
        simp only [Option.some.injEq, Prod.mk.injEq] at H
        obtain ⟨rfl, rfl, rfl⟩ := H
        have p4 : 0 ≤ (0 : Int) := (by omega)
        have q4 : 0 < a0.size := (by have : (0 : Int) < (a0.size : Int) := of_decide_eq_true (by first | (with_reducible assumption) | assumption); omega)
        have hx4 : ∀ h : 0 < a0.size, ((a0[0]'h).toNat : Int) = bt a0 0 := bt_at a0 0
        clear p4
        have qi4 : (0 < (a0.size : Int)) = True := eq_true (of_decide_eq_true (by first | (with_reducible assumption) | assumption))
        replace q4 := eq_true q4
        go_enter Tryd.func49, Tryd.ntmps49
        go_wp2
        repeat (go_quiet (fail); try go_wp2)
        go_ret3
        exact ⟨by first | rfl | (simp; done) | (simp [*]; done), by repeat (first | exact Drawn0.refl _ | apply Drawn0.step)⟩
      · rw [if_neg c5] at H
        have c5b0 : decide ((a0.size : Int) < (wrap64 (1 + (wrap64 (bt a0 0))))) = false := decide_eq_false c5
        clear c5
        by_cases c7 : 1 ≤ (wrap64 (1 + (wrap64 (bt a0 0))))
        · rw [if_pos c7] at H
          have c7b0 := eq_true c7
          have c7b1 : decide (1 ≤ (wrap64 (1 + (wrap64 (bt a0 0))))) = true := decide_eq_true c7
          by_cases c8 : (wrap64 (1 + (wrap64 (bt a0 0)))) ≤ (a0.size : Int)
          · rw [if_pos c8] at H
            have c8b0 := eq_true c8
            have c8b1 : decide ((wrap64 (1 + (wrap64 (bt a0 0)))) ≤ (a0.size : Int)) = true := decide_eq_true c8
            obtain ⟨ji9, hji9⟩ : ∃ j_ : Int, (wrap64 (1 + (wrap64 (bt a0 0)))) = j_ := ⟨_, rfl⟩
            replace H : (if 0 ≤ (ji9) then (some (a0.extract 1 ((ji9) : Int).toNat, a0.extract ((ji9) : Int).toNat a0.size, 0)) else (none)) = some (r1, r2, r3) := by first | (rw [hji9] at H; exact H) | (simp only [hji9] at H ⊢; exact H)
            (try rw [hji9] at c5b0)
            (try rw [hji9] at c7b0)
            (try rw [hji9] at c7b1)
            (try rw [hji9] at c7)
            (try rw [hji9] at c8b0)
            (try rw [hji9] at c8b1)
            (try rw [hji9] at c8)
            have hji9w : (IntKind.i64.wrap (1 + (wrap64 (bt a0 0)))) = ji9 := (i64_w _).trans hji9
            by_cases c10 : 0 ≤ (ji9)
            · rw [if_pos c10] at H
              have c10b0 := eq_true c10
              have c10b1 : decide (0 ≤ (ji9)) = true := decide_eq_true c10
              clear c10
              have c11b0 := eq_true (of_decide_eq_true (by first | (with_reducible assumption) | assumption) : (ji9) ≤ (a0.size : Int))
              simp only [Option.some.injEq, Prod.mk.injEq] at H
              obtain ⟨rfl, rfl, rfl⟩ := H
              have p4 : 0 ≤ (0 : Int) := (by omega)
              have q4 : 0 < a0.size := (by have : (0 : Int) < (a0.size : Int) := of_decide_eq_true (by first | (with_reducible assumption) | assumption); omega)
              have hx4 : ∀ h : 0 < a0.size, ((a0[0]'h).toNat : Int) = bt a0 0 := bt_at a0 0
              clear p4
              have qi4 : (0 < (a0.size : Int)) = True := eq_true (of_decide_eq_true (by first | (with_reducible assumption) | assumption))
              replace q4 := eq_true q4
              have p6 : 0 ≤ (0 : Int) := (by omega)
              have q6 : 0 < a0.size := (by have : (0 : Int) < (a0.size : Int) := of_decide_eq_true (by first | (with_reducible assumption) | assumption); omega)
              have hx6 : ∀ h : 0 < a0.size, ((a0[0]'h).toNat : Int) = bt a0 0 := bt_at a0 0
              clear p6
              have qi6 : (0 < (a0.size : Int)) = True := eq_true (of_decide_eq_true (by first | (with_reducible assumption) | assumption))
              replace q6 := eq_true q6
              go_enter Tryd.func49, Tryd.ntmps49
              go_wp2
              repeat (go_quiet (fail); try go_wp2)
              go_ret3
              exact ⟨by first | rfl | (simp; done) | (simp only [← hji9] <;> (first | rfl | simp)) | (simp [*]; done), by repeat (first | exact Drawn0.refl _ | apply Drawn0.step)⟩
            · rw [if_neg c10] at H
              exact absurd H (by simp)
          · rw [if_neg c8] at H
            exact absurd H (by simp)
        · rw [if_neg c7] at H
          exact absurd H (by simp)
    · rw [if_neg c3] at H
      exact absurd H (by simp)


end Go.Proofs.YthpfcplhlhnfeaaDoor.F
namespace Go.Proofs.YthpfcplhlhnfeaaDoor.F
open Go.RowKit Go.Proofs.YthpfcplhlhnfeaaDoorW.PrintWords Go.Proofs.YthpfcplhlhnfeaaDoorW.PrintLast Go.Proofs.YthpfcplhlhnfeaaDoorW.PrintMore
attribute [local go_sem] max2_int min2_int max_two min_two max_three min_three max_four min_four
set_option linter.unusedVariables false
set_option linter.unusedSimpArgs false
set_option maxRecDepth 4000
set_option linter.unnecessarySimpa false

/-! ### interchangeref03_inside: function 62 -/
def interchangeref03_inside.f (k : Nat) (a0 : ByteArray) : Option (ByteArray × ByteArray × Int) := (interchangeref01_Take.f k a0 4).bind fun bt189 => (if bt189.2.2 = 0 then (if bt189.1 > (IntKind.u64.wrap ((bt189.2.1.size : Int))) then (some ((⟨#[]⟩ : ByteArray), (⟨#[]⟩ : ByteArray), 2)) else (if 0 ≤ bt189.1 then (if bt189.1 ≤ (bt189.2.1.size : Int) then (some (bt189.2.1.extract 0 (bt189.1 : Int).toNat, bt189.2.1.extract (bt189.1 : Int).toNat bt189.2.1.size, 0)) else (none)) else (none))) else (some ((⟨#[]⟩ : ByteArray), (⟨#[]⟩ : ByteArray), 2)))
theorem interchangeref03_inside.mono : ∀ a0 k, LeO (interchangeref03_inside.f k a0) (interchangeref03_inside.f (k + 1) a0) := by
  intro a0 k
  unfold interchangeref03_inside.f
  repeat' first
      | (with_reducible exact interchangeref01_Take.mono _ _ _)
      | (with_reducible exact LeO.refl _)
      | (with_reducible exact LeO.none _)
      | (with_reducible refine LeO.ite ?_ ?_)
      | (with_reducible refine LeO.bind ?_ (fun _ => ?_))
      | exact interchangeref01_Take.mono _ _ _
      | exact LeO.none _
      | refine LeO.ite ?_ ?_
      | refine LeO.bind ?_ (fun _ => ?_)
set_option maxHeartbeats 8000000 in
set_option maxRecDepth 100000 in
theorem interchangeref03_inside.calls (k : Nat) (a0 : ByteArray) (r1 : ByteArray) (r2 : ByteArray) (r3 : Int) (w : World) (h : interchangeref03_inside.f k a0 = some (r1, r2, r3)) :
    Calls Tryd.prog 62 #[.string a0] w fun e w' => e = .returned (.tuple #[.string r1, .string r2, .int .i64 r3]) ∧ Drawn0 w w' := by
  have H : ((interchangeref01_Take.f k a0 4).bind fun bt189 => (if bt189.2.2 = 0 then (if bt189.1 > (IntKind.u64.wrap ((bt189.2.1.size : Int))) then (some ((⟨#[]⟩ : ByteArray), (⟨#[]⟩ : ByteArray), 2)) else (if 0 ≤ bt189.1 then (if bt189.1 ≤ (bt189.2.1.size : Int) then (some (bt189.2.1.extract 0 (bt189.1 : Int).toNat, bt189.2.1.extract (bt189.1 : Int).toNat bt189.2.1.size, 0)) else (none)) else (none))) else (some ((⟨#[]⟩ : ByteArray), (⟨#[]⟩ : ByteArray), 2)))) = some (r1, r2, r3) := h
  clear h
  replace H := Option.bind_eq_some_iff.mp H
  obtain ⟨⟨t189, t190, t191⟩, A20, H⟩ := H
  replace H : (if t191 = 0 then (if t189 > (IntKind.u64.wrap ((t190.size : Int))) then (some ((⟨#[]⟩ : ByteArray), (⟨#[]⟩ : ByteArray), 2)) else (if 0 ≤ t189 then (if t189 ≤ (t190.size : Int) then (some (t190.extract 0 (t189 : Int).toNat, t190.extract (t189 : Int).toNat t190.size, 0)) else (none)) else (none))) else (some ((⟨#[]⟩ : ByteArray), (⟨#[]⟩ : ByteArray), 2))) = some (r1, r2, r3) := H
  have A2 := Aside0.mk A20
  clear A20
  by_cases c3 : t191 = 0
  · rw [if_pos c3] at H
    have c3b0 : (t191 == 0) = true := beq_iff_eq.mpr c3
    have c3b1 : (t191 != 0) = false := bne_eq_false_iff_eq.mpr c3
    clear c3
    by_cases c4 : t189 > (IntKind.u64.wrap ((t190.size : Int)))
    · rw [if_pos c4] at H
      have c4b0 : decide ((IntKind.u64.wrap ((t190.size : Int))) < t189) = true := decide_eq_true c4
      clear c4
      simp only [Option.some.injEq, Prod.mk.injEq] at H
      obtain ⟨rfl, rfl, rfl⟩ := H
      go_enter Tryd.func62, Tryd.ntmps62
      go_wp2_with (first | (go_at_call 36; (with_reducible refine (interchangeref01_Take.calls k a0 4 t189 t190 t191 _ A2.out).mono ?_); rintro e w' ⟨rfl, ⟨nd, rfl⟩⟩; (try first | exact ⟨rfl, _, World.drewN_drewN _ _ _⟩ | exact ⟨rfl, _, Eq.trans (World.drewN_drewN _ _ _) (congrArg (World.drewN _) (Nat.add_assoc _ _ _))⟩)))
      repeat (go_quiet (first | (go_at_call 36; (with_reducible refine (interchangeref01_Take.calls k a0 4 t189 t190 t191 _ A2.out).mono ?_); rintro e w' ⟨rfl, ⟨nd, rfl⟩⟩; (try first | exact ⟨rfl, _, World.drewN_drewN _ _ _⟩ | exact ⟨rfl, _, Eq.trans (World.drewN_drewN _ _ _) (congrArg (World.drewN _) (Nat.add_assoc _ _ _))⟩))); try go_wp2_with (first | (go_at_call 36; (with_reducible refine (interchangeref01_Take.calls k a0 4 t189 t190 t191 _ A2.out).mono ?_); rintro e w' ⟨rfl, ⟨nd, rfl⟩⟩; (try first | exact ⟨rfl, _, World.drewN_drewN _ _ _⟩ | exact ⟨rfl, _, Eq.trans (World.drewN_drewN _ _ _) (congrArg (World.drewN _) (Nat.add_assoc _ _ _))⟩))))
      go_ret3
      exact ⟨by first | rfl | (simp; done) | (simp [*]; done), by repeat (first | exact Drawn0.refl _ | apply Drawn0.step)⟩
    · rw [if_neg c4] at H
      have c4b0 : decide ((IntKind.u64.wrap ((t190.size : Int))) < t189) = false := decide_eq_false c4
      clear c4
      by_cases c5 : 0 ≤ t189
      · rw [if_pos c5] at H
        have c5b0 := eq_true c5
        have c5b1 : decide (0 ≤ t189) = true := decide_eq_true c5
        clear c5
        by_cases c6 : t189 ≤ (t190.size : Int)
        · rw [if_pos c6] at H
          have c6b0 := eq_true c6
          have c6b1 : decide (t189 ≤ (t190.size : Int)) = true := decide_eq_true c6
          clear c6
          have c7b0 := eq_true (of_decide_eq_true (by first | (with_reducible assumption) | assumption) : 0 ≤ t189)
          have c8b0 := eq_true (of_decide_eq_true (by first | (with_reducible assumption) | assumption) : t189 ≤ (t190.size : Int))
          simp only [Option.some.injEq, Prod.mk.injEq] at H
          obtain ⟨rfl, rfl, rfl⟩ := H
          go_enter Tryd.func62, Tryd.ntmps62
          go_wp2_with (first | (go_at_call 36; (with_reducible refine (interchangeref01_Take.calls k a0 4 t189 t190 t191 _ A2.out).mono ?_); rintro e w' ⟨rfl, ⟨nd, rfl⟩⟩; (try first | exact ⟨rfl, _, World.drewN_drewN _ _ _⟩ | exact ⟨rfl, _, Eq.trans (World.drewN_drewN _ _ _) (congrArg (World.drewN _) (Nat.add_assoc _ _ _))⟩)))
          repeat (go_quiet (first | (go_at_call 36; (with_reducible refine (interchangeref01_Take.calls k a0 4 t189 t190 t191 _ A2.out).mono ?_); rintro e w' ⟨rfl, ⟨nd, rfl⟩⟩; (try first | exact ⟨rfl, _, World.drewN_drewN _ _ _⟩ | exact ⟨rfl, _, Eq.trans (World.drewN_drewN _ _ _) (congrArg (World.drewN _) (Nat.add_assoc _ _ _))⟩))); try go_wp2_with (first | (go_at_call 36; (with_reducible refine (interchangeref01_Take.calls k a0 4 t189 t190 t191 _ A2.out).mono ?_); rintro e w' ⟨rfl, ⟨nd, rfl⟩⟩; (try first | exact ⟨rfl, _, World.drewN_drewN _ _ _⟩ | exact ⟨rfl, _, Eq.trans (World.drewN_drewN _ _ _) (congrArg (World.drewN _) (Nat.add_assoc _ _ _))⟩))))
          go_ret3
          exact ⟨by first | rfl | (simp; done) | (simp [*]; done), by repeat (first | exact Drawn0.refl _ | apply Drawn0.step)⟩
        · rw [if_neg c6] at H
          exact absurd H (by simp)
      · rw [if_neg c5] at H
        exact absurd H (by simp)
  · rw [if_neg c3] at H
    have c3b0 : (t191 == 0) = false := beq_eq_false_iff_ne.mpr c3
    have c3b1 : (t191 != 0) = true := bne_iff_ne.mpr c3
    simp only [Option.some.injEq, Prod.mk.injEq] at H
    obtain ⟨rfl, rfl, rfl⟩ := H
    go_enter Tryd.func62, Tryd.ntmps62
    go_wp2_with (first | (go_at_call 36; (with_reducible refine (interchangeref01_Take.calls k a0 4 t189 t190 t191 _ A2.out).mono ?_); rintro e w' ⟨rfl, ⟨nd, rfl⟩⟩; (try first | exact ⟨rfl, _, World.drewN_drewN _ _ _⟩ | exact ⟨rfl, _, Eq.trans (World.drewN_drewN _ _ _) (congrArg (World.drewN _) (Nat.add_assoc _ _ _))⟩)))
    repeat (go_quiet (first | (go_at_call 36; (with_reducible refine (interchangeref01_Take.calls k a0 4 t189 t190 t191 _ A2.out).mono ?_); rintro e w' ⟨rfl, ⟨nd, rfl⟩⟩; (try first | exact ⟨rfl, _, World.drewN_drewN _ _ _⟩ | exact ⟨rfl, _, Eq.trans (World.drewN_drewN _ _ _) (congrArg (World.drewN _) (Nat.add_assoc _ _ _))⟩))); try go_wp2_with (first | (go_at_call 36; (with_reducible refine (interchangeref01_Take.calls k a0 4 t189 t190 t191 _ A2.out).mono ?_); rintro e w' ⟨rfl, ⟨nd, rfl⟩⟩; (try first | exact ⟨rfl, _, World.drewN_drewN _ _ _⟩ | exact ⟨rfl, _, Eq.trans (World.drewN_drewN _ _ _) (congrArg (World.drewN _) (Nat.add_assoc _ _ _))⟩))))
    go_ret3
    exact ⟨by first | rfl | (simp; done) | (simp [*]; done), by repeat (first | exact Drawn0.refl _ | apply Drawn0.step)⟩


end Go.Proofs.YthpfcplhlhnfeaaDoor.F
namespace Go.Proofs.YthpfcplhlhnfeaaDoor.F
open Go.RowKit Go.Proofs.YthpfcplhlhnfeaaDoorW.PrintWords Go.Proofs.YthpfcplhlhnfeaaDoorW.PrintLast Go.Proofs.YthpfcplhlhnfeaaDoorW.PrintMore
attribute [local go_sem] max2_int min2_int max_two min_two max_three min_three max_four min_four
set_option linter.unusedVariables false
set_option linter.unusedSimpArgs false
set_option maxRecDepth 4000
set_option linter.unnecessarySimpa false

/-! ### interchangeref03_size: function 66 -/
mutual
def interchangeref03_size.j0 : Nat → Int → Bool → Option (Int)
  | 0, _, _ => none
  | k + 1, x0, x14 => if x14 = true then (some 1) else (if x0 = 115 then (interchangeref03_size.j1 k x0 true) else (interchangeref03_size.j1 k x0 (x0 == 117)))
def interchangeref03_size.j1 : Nat → Int → Bool → Option (Int)
  | 0, _, _ => none
  | k + 1, x0, x20 => if x20 = true then (some 2) else (if x0 = 73 then (interchangeref03_size.j2 k x0 true) else (if x0 = 105 then (interchangeref03_size.j2 k x0 true) else (interchangeref03_size.j2 k x0 (x0 == 102))))
def interchangeref03_size.j2 : Nat → Int → Bool → Option (Int)
  | 0, _, _ => none
  | k + 1, x0, x30 => if x30 = true then (some 4) else (if x0 = 68 then (some 5) else (if x0 = 108 then (some 8) else (if x0 = 100 then (some 8) else (if x0 = 84 then (some 8) else (some (-1))))))
end
def interchangeref03_size.f (k : Nat) (a0 : Int) : Option (Int) := if a0 = 86 then (some 0) else (if a0 = 116 then (interchangeref03_size.j0 k a0 true) else (if a0 = 98 then (interchangeref03_size.j0 k a0 true) else (interchangeref03_size.j0 k a0 (a0 == 66))))
theorem interchangeref03_size.mono_l : ∀ k, (∀ y0 y1, LeO (interchangeref03_size.j0 k y0 y1) (interchangeref03_size.j0 (k + 1) y0 y1)) ∧ (∀ y0 y1, LeO (interchangeref03_size.j1 k y0 y1) (interchangeref03_size.j1 (k + 1) y0 y1)) ∧ (∀ y0 y1, LeO (interchangeref03_size.j2 k y0 y1) (interchangeref03_size.j2 (k + 1) y0 y1))
  | 0 => ⟨fun _ _ r h => by simp [interchangeref03_size.j0] at h, fun _ _ r h => by simp [interchangeref03_size.j1] at h, fun _ _ r h => by simp [interchangeref03_size.j2] at h⟩
  | k + 1 => by
    obtain ⟨ih0, ih1, ih2⟩ := interchangeref03_size.mono_l k
    refine ⟨?_, ?_, ?_⟩
    · intro y0 y1
      unfold interchangeref03_size.j0
      repeat' first
      | (with_reducible exact ih0 _ _)
      | (with_reducible exact ih1 _ _)
      | (with_reducible exact ih2 _ _)
      | (with_reducible exact LeO.refl _)
      | (with_reducible exact LeO.none _)
      | (with_reducible refine LeO.ite ?_ ?_)
      | (with_reducible refine LeO.bind ?_ (fun _ => ?_))
      | exact ih0 _ _
      | exact ih1 _ _
      | exact ih2 _ _
      | exact LeO.none _
      | refine LeO.ite ?_ ?_
      | refine LeO.bind ?_ (fun _ => ?_)
    · intro y0 y1
      unfold interchangeref03_size.j1
      repeat' first
      | (with_reducible exact ih0 _ _)
      | (with_reducible exact ih1 _ _)
      | (with_reducible exact ih2 _ _)
      | (with_reducible exact LeO.refl _)
      | (with_reducible exact LeO.none _)
      | (with_reducible refine LeO.ite ?_ ?_)
      | (with_reducible refine LeO.bind ?_ (fun _ => ?_))
      | exact ih0 _ _
      | exact ih1 _ _
      | exact ih2 _ _
      | exact LeO.none _
      | refine LeO.ite ?_ ?_
      | refine LeO.bind ?_ (fun _ => ?_)
    · intro y0 y1
      unfold interchangeref03_size.j2
      repeat' first
      | (with_reducible exact ih0 _ _)
      | (with_reducible exact ih1 _ _)
      | (with_reducible exact ih2 _ _)
      | (with_reducible exact LeO.refl _)
      | (with_reducible exact LeO.none _)
      | (with_reducible refine LeO.ite ?_ ?_)
      | (with_reducible refine LeO.bind ?_ (fun _ => ?_))
      | exact ih0 _ _
      | exact ih1 _ _
      | exact ih2 _ _
      | exact LeO.none _
      | refine LeO.ite ?_ ?_
      | refine LeO.bind ?_ (fun _ => ?_)
theorem interchangeref03_size.mono : ∀ a0 k, LeO (interchangeref03_size.f k a0) (interchangeref03_size.f (k + 1) a0) := by
  intro a0 k
  obtain ⟨ih0, ih1, ih2⟩ := interchangeref03_size.mono_l k
  unfold interchangeref03_size.f
  repeat' first
      | (with_reducible exact ih0 _ _)
      | (with_reducible exact ih1 _ _)
      | (with_reducible exact ih2 _ _)
      | (with_reducible exact LeO.refl _)
      | (with_reducible exact LeO.none _)
      | (with_reducible refine LeO.ite ?_ ?_)
      | (with_reducible refine LeO.bind ?_ (fun _ => ?_))
      | exact ih0 _ _
      | exact ih1 _ _
      | exact ih2 _ _
      | exact LeO.none _
      | refine LeO.ite ?_ ?_
      | refine LeO.bind ?_ (fun _ => ?_)
set_option maxHeartbeats 8000000 in
set_option maxRecDepth 100000 in
theorem interchangeref03_size.calls (k : Nat) (a0 : Int) (r : Int) (w : World) (h : interchangeref03_size.f k a0 = some r) :
    Calls Tryd.prog 66 #[.int .u8 a0] w fun e w' => e = .returned (.int .i64 r) ∧ Drawn0 w w' := by
  have H : (if a0 = 86 then (some 0) else (if a0 = 116 then (interchangeref03_size.j0 k a0 true) else (if a0 = 98 then (interchangeref03_size.j0 k a0 true) else (interchangeref03_size.j0 k a0 (a0 == 66))))) = some r := h
  clear h
  by_cases c2 : a0 = 86
  · rw [if_pos c2] at H
    have c2b0 : (a0 == 86) = true := beq_iff_eq.mpr c2
    have c2b1 : (a0 != 86) = false := bne_eq_false_iff_eq.mpr c2
    clear c2
    obtain rfl := Option.some.inj H
    go_enter Tryd.func66, Tryd.ntmps66
    go_wp2
    go_ret
    exact ⟨by first | rfl | (simp; done) | (simp [*]; done), by repeat (first | exact Drawn0.refl _ | apply Drawn0.step)⟩
  · rw [if_neg c2] at H
    have c2b0 : (a0 == 86) = false := beq_eq_false_iff_ne.mpr c2
    have c2b1 : (a0 != 86) = true := bne_iff_ne.mpr c2
    have HC3 := Aside0.mk H
    clear H
    go_enter Tryd.func66, Tryd.ntmps66
    go_upto_region 3 with (fail)
    go_cut [14] (fun v14 wc => ∃ (kq : Nat) (x14_2 : Bool), v14 = .bool x14_2 ∧ Aside0 (interchangeref03_size.j0 kq a0 x14_2 = some r) ∧ Aside0 (kq ≤ k) ∧ Drawn0 w wc)
    case first =>
      have H := HC3.out
      clear HC3
      by_cases c4 : a0 = 116
      · rw [if_pos c4] at H
        have c4b0 : (a0 == 116) = true := beq_iff_eq.mpr c4
        have c4b1 : (a0 != 116) = false := bne_eq_false_iff_eq.mpr c4
        clear c4
        (first | rw [c4b0] | (simp only [i64_w, i32_w]; rw [c4b0]) | skip)
        have H' := Aside0.mk H
        clear H
        go_wp2
        go_meet
        case rel => exact ⟨_, (true), (by first | rfl | (simp; done) | (simp [*]; done)), H', ⟨by first | omega | exact Nat.le_refl _⟩, by repeat (first | exact Drawn0.refl _ | apply Drawn0.step)⟩
      · rw [if_neg c4] at H
        have c4b0 : (a0 == 116) = false := beq_eq_false_iff_ne.mpr c4
        have c4b1 : (a0 != 116) = true := bne_iff_ne.mpr c4
        (first | rw [c4b0] | (simp only [i64_w, i32_w]; rw [c4b0]) | skip)
        by_cases c5 : a0 = 98
        · rw [if_pos c5] at H
          have c5b0 : (a0 == 98) = true := beq_iff_eq.mpr c5
          have c5b1 : (a0 != 98) = false := bne_eq_false_iff_eq.mpr c5
          clear c5
          have H' := Aside0.mk H
          clear H
          go_wp2
          go_meet
          case rel => exact ⟨_, (true), (by first | rfl | (simp; done) | (simp [*]; done)), H', ⟨by first | omega | exact Nat.le_refl _⟩, by repeat (first | exact Drawn0.refl _ | apply Drawn0.step)⟩
        · rw [if_neg c5] at H
          have c5b0 : (a0 == 98) = false := beq_eq_false_iff_ne.mpr c5
          have c5b1 : (a0 != 98) = true := bne_iff_ne.mpr c5
          have H' := Aside0.mk H
          clear H
          go_wp2
          go_meet
          case rel => exact ⟨_, ((a0 == 66)), (by first | rfl | (simp; done) | (simp [*]; done)), H', ⟨by first | omega | exact Nat.le_refl _⟩, by repeat (first | exact Drawn0.refl _ | apply Drawn0.step)⟩
    case rest =>
      clear HC3
      try clear c2
      try clear c2b0
      try clear c2b1
      try clear p2
      try clear c4
      try clear c4b0
      try clear c4b1
      try clear c5
      try clear c5b0
      try clear c5b1
      obtain ⟨kq, x14_2, rfl, HA, HJ2, ⟨mc2, rfl⟩⟩ := hcut
      cases kq with
      | zero => exact absurd HA.out (by simp [interchangeref03_size.j0])
      | succ kj2 =>
        have H := HA.out
        clear HA
        simp only [interchangeref03_size.j0] at H
        by_cases c6 : x14_2 = true
        · subst c6
          have H1 : (some 1) = some r := by rw [if_pos rfl] at H; exact H
          clear H
          have H := H1
          clear H1
          obtain rfl := Option.some.inj H
          go_wp2
          go_ret
          exact ⟨by first | rfl | (simp; done) | (simp [*]; done), by repeat (first | exact Drawn0.refl _ | apply Drawn0.step)⟩
        · replace c6 := Bool.eq_false_iff.mpr c6
          subst c6
          have H1 : (if a0 = 115 then (interchangeref03_size.j1 kj2 a0 true) else (interchangeref03_size.j1 kj2 a0 (a0 == 117))) = some r := by rw [if_neg (show ¬ (false = true) by decide)] at H; exact H
          clear H
          have H := H1
          clear H1
          have HC7 := Aside0.mk H
          clear H
          go_upto_region 5 with (fail)
          go_cut [20] (fun v20 wc => ∃ (kq : Nat) (x20_6 : Bool), v20 = .bool x20_6 ∧ Aside0 (interchangeref03_size.j1 kq a0 x20_6 = some r) ∧ Aside0 (kq ≤ kj2) ∧ Drawn0 w wc)
          case first =>
            have H := HC7.out
            clear HC7
            by_cases c8 : a0 = 115
            · rw [if_pos c8] at H
              have c8b0 : (a0 == 115) = true := beq_iff_eq.mpr c8
              have c8b1 : (a0 != 115) = false := bne_eq_false_iff_eq.mpr c8
              clear c8
              (first | rw [c8b0] | (simp only [i64_w, i32_w]; rw [c8b0]) | skip)
              have H' := Aside0.mk H
              clear H
              go_wp2
              go_meet
              case rel => exact ⟨_, (true), (by first | rfl | (simp; done) | (simp [*]; done)), H', ⟨by have := HJ2.out; first | omega | exact Nat.le_refl _⟩, by repeat (first | exact Drawn0.refl _ | apply Drawn0.step)⟩
            · rw [if_neg c8] at H
              have c8b0 : (a0 == 115) = false := beq_eq_false_iff_ne.mpr c8
              have c8b1 : (a0 != 115) = true := bne_iff_ne.mpr c8
              (first | rw [c8b0] | (simp only [i64_w, i32_w]; rw [c8b0]) | skip)
              have H' := Aside0.mk H
              clear H
              go_wp2
              go_meet
              case rel => exact ⟨_, ((a0 == 117)), (by first | rfl | (simp; done) | (simp [*]; done)), H', ⟨by have := HJ2.out; first | omega | exact Nat.le_refl _⟩, by repeat (first | exact Drawn0.refl _ | apply Drawn0.step)⟩
          case rest =>
            clear HC7
            try clear c2
            try clear c2b0
            try clear c2b1
            try clear p2
            try clear c4
            try clear c4b0
            try clear c4b1
            try clear c5
            try clear c5b0
            try clear c5b1
            try clear c6
            try clear c8
            try clear c8b0
            try clear c8b1
            try clear p2
            obtain ⟨kq, x20_6, rfl, HA, HJ6, ⟨mc6, rfl⟩⟩ := hcut
            cases kq with
            | zero => exact absurd HA.out (by simp [interchangeref03_size.j1])
            | succ kj6 =>
              have H := HA.out
              clear HA
              simp only [interchangeref03_size.j1] at H
              by_cases c9 : x20_6 = true
              · subst c9
                have H1 : (some 2) = some r := by rw [if_pos rfl] at H; exact H
                clear H
                have H := H1
                clear H1
                obtain rfl := Option.some.inj H
                go_wp2
                go_ret
                exact ⟨by first | rfl | (simp; done) | (simp [*]; done), by repeat (first | exact Drawn0.refl _ | apply Drawn0.step)⟩
              · replace c9 := Bool.eq_false_iff.mpr c9
                subst c9
                have H1 : (if a0 = 73 then (interchangeref03_size.j2 kj6 a0 true) else (if a0 = 105 then (interchangeref03_size.j2 kj6 a0 true) else (interchangeref03_size.j2 kj6 a0 (a0 == 102)))) = some r := by rw [if_neg (show ¬ (false = true) by decide)] at H; exact H
                clear H
                have H := H1
                clear H1
                have HC10 := Aside0.mk H
                clear H
                go_upto_region 7 with (fail)
                go_cut [30] (fun v30 wc => ∃ (kq : Nat) (x30_9 : Bool), v30 = .bool x30_9 ∧ Aside0 (interchangeref03_size.j2 kq a0 x30_9 = some r) ∧ Aside0 (kq ≤ kj6) ∧ Drawn0 w wc)
                case first =>
                  have H := HC10.out
                  clear HC10
                  by_cases c11 : a0 = 73
                  · rw [if_pos c11] at H
                    have c11b0 : (a0 == 73) = true := beq_iff_eq.mpr c11
                    have c11b1 : (a0 != 73) = false := bne_eq_false_iff_eq.mpr c11
                    clear c11
                    (first | rw [c11b0] | (simp only [i64_w, i32_w]; rw [c11b0]) | skip)
                    have H' := Aside0.mk H
                    clear H
                    go_wp2
                    go_meet
                    case rel => exact ⟨_, (true), (by first | rfl | (simp; done) | (simp [*]; done)), H', ⟨by have := HJ2.out; have := HJ6.out; first | omega | exact Nat.le_refl _⟩, by repeat (first | exact Drawn0.refl _ | apply Drawn0.step)⟩
                  · rw [if_neg c11] at H
                    have c11b0 : (a0 == 73) = false := beq_eq_false_iff_ne.mpr c11
                    have c11b1 : (a0 != 73) = true := bne_iff_ne.mpr c11
                    (first | rw [c11b0] | (simp only [i64_w, i32_w]; rw [c11b0]) | skip)
                    by_cases c12 : a0 = 105
                    · rw [if_pos c12] at H
                      have c12b0 : (a0 == 105) = true := beq_iff_eq.mpr c12
                      have c12b1 : (a0 != 105) = false := bne_eq_false_iff_eq.mpr c12
                      clear c12
                      have H' := Aside0.mk H
                      clear H
                      go_wp2
                      go_meet
                      case rel => exact ⟨_, (true), (by first | rfl | (simp; done) | (simp [*]; done)), H', ⟨by have := HJ2.out; have := HJ6.out; first | omega | exact Nat.le_refl _⟩, by repeat (first | exact Drawn0.refl _ | apply Drawn0.step)⟩
                    · rw [if_neg c12] at H
                      have c12b0 : (a0 == 105) = false := beq_eq_false_iff_ne.mpr c12
                      have c12b1 : (a0 != 105) = true := bne_iff_ne.mpr c12
                      have H' := Aside0.mk H
                      clear H
                      go_wp2
                      go_meet
                      case rel => exact ⟨_, ((a0 == 102)), (by first | rfl | (simp; done) | (simp [*]; done)), H', ⟨by have := HJ2.out; have := HJ6.out; first | omega | exact Nat.le_refl _⟩, by repeat (first | exact Drawn0.refl _ | apply Drawn0.step)⟩
                case rest =>
                  clear HC10
                  try clear c1
                  try clear c2
                  try clear c2b0
                  try clear c2b1
                  try clear p2
                  try clear c4
                  try clear c4b0
                  try clear c4b1
                  try clear c5
                  try clear c5b0
                  try clear c5b1
                  try clear c6
                  try clear c8
                  try clear c8b0
                  try clear c8b1
                  try clear c9
                  try clear c11
                  try clear c11b0
                  try clear c11b1
                  try clear c12
                  try clear c12b0
                  try clear c12b1
                  try clear p2
                  obtain ⟨kq, x30_9, rfl, HA, HJ9, ⟨mc9, rfl⟩⟩ := hcut
                  cases kq with
                  | zero => exact absurd HA.out (by simp [interchangeref03_size.j2])
                  | succ kj9 =>
                    have H := HA.out
                    clear HA
                    simp only [interchangeref03_size.j2] at H
                    by_cases c13 : x30_9 = true
                    · subst c13
                      have H1 : (some 4) = some r := by rw [if_pos rfl] at H; exact H
                      clear H
                      have H := H1
                      clear H1
                      obtain rfl := Option.some.inj H
                      go_wp2
                      go_ret
                      exact ⟨by first | rfl | (simp; done) | (simp [*]; done), by repeat (first | exact Drawn0.refl _ | apply Drawn0.step)⟩
                    · replace c13 := Bool.eq_false_iff.mpr c13
                      subst c13
                      have H1 : (if a0 = 68 then (some 5) else (if a0 = 108 then (some 8) else (if a0 = 100 then (some 8) else (if a0 = 84 then (some 8) else (some (-1)))))) = some r := by rw [if_neg (show ¬ (false = true) by decide)] at H; exact H
                      clear H
                      have H := H1
                      clear H1
                      by_cases c14 : a0 = 68
                      · rw [if_pos c14] at H
                        have c14b0 : (a0 == 68) = true := beq_iff_eq.mpr c14
                        have c14b1 : (a0 != 68) = false := bne_eq_false_iff_eq.mpr c14
                        clear c14
                        obtain rfl := Option.some.inj H
                        go_wp2
                        go_ret
                        exact ⟨by first | rfl | (simp; done) | (simp [*]; done), by repeat (first | exact Drawn0.refl _ | apply Drawn0.step)⟩
                      · rw [if_neg c14] at H
                        have c14b0 : (a0 == 68) = false := beq_eq_false_iff_ne.mpr c14
                        have c14b1 : (a0 != 68) = true := bne_iff_ne.mpr c14
                        by_cases c15 : a0 = 108
                        · rw [if_pos c15] at H
                          have c15b0 : (a0 == 108) = true := beq_iff_eq.mpr c15
                          have c15b1 : (a0 != 108) = false := bne_eq_false_iff_eq.mpr c15
                          clear c15
                          obtain rfl := Option.some.inj H
                          go_wp2
                          go_ret
                          exact ⟨by first | rfl | (simp; done) | (simp [*]; done), by repeat (first | exact Drawn0.refl _ | apply Drawn0.step)⟩
                        · rw [if_neg c15] at H
                          have c15b0 : (a0 == 108) = false := beq_eq_false_iff_ne.mpr c15
                          have c15b1 : (a0 != 108) = true := bne_iff_ne.mpr c15
                          by_cases c16 : a0 = 100
                          · rw [if_pos c16] at H
                            have c16b0 : (a0 == 100) = true := beq_iff_eq.mpr c16
                            have c16b1 : (a0 != 100) = false := bne_eq_false_iff_eq.mpr c16
                            clear c16
                            obtain rfl := Option.some.inj H
                            go_wp2
                            go_ret
                            exact ⟨by first | rfl | (simp; done) | (simp [*]; done), by repeat (first | exact Drawn0.refl _ | apply Drawn0.step)⟩
                          · rw [if_neg c16] at H
                            have c16b0 : (a0 == 100) = false := beq_eq_false_iff_ne.mpr c16
                            have c16b1 : (a0 != 100) = true := bne_iff_ne.mpr c16
                            by_cases c17 : a0 = 84
                            · rw [if_pos c17] at H
                              have c17b0 : (a0 == 84) = true := beq_iff_eq.mpr c17
                              have c17b1 : (a0 != 84) = false := bne_eq_false_iff_eq.mpr c17
                              clear c17
                              obtain rfl := Option.some.inj H
                              go_wp2
                              go_ret
                              exact ⟨by first | rfl | (simp; done) | (simp [*]; done), by repeat (first | exact Drawn0.refl _ | apply Drawn0.step)⟩
                            · rw [if_neg c17] at H
                              have c17b0 : (a0 == 84) = false := beq_eq_false_iff_ne.mpr c17
                              have c17b1 : (a0 != 84) = true := bne_iff_ne.mpr c17
                              obtain rfl := Option.some.inj H
                              go_wp2
                              go_ret
                              exact ⟨by first | rfl | (simp; done) | (simp [*]; done), by repeat (first | exact Drawn0.refl _ | apply Drawn0.step)⟩


end Go.Proofs.YthpfcplhlhnfeaaDoor.F
namespace Go.Proofs.YthpfcplhlhnfeaaDoor.F
open Go.RowKit Go.Proofs.YthpfcplhlhnfeaaDoorW.PrintWords Go.Proofs.YthpfcplhlhnfeaaDoorW.PrintLast Go.Proofs.YthpfcplhlhnfeaaDoorW.PrintMore
set_option linter.unusedVariables false
set_option linter.unusedSimpArgs false
set_option maxRecDepth 4000

theorem take_four (s : ByteArray) : (takeR s 4).2.2 = 0 ∨ (takeR s 4).2.2 = 2 := by
  unfold takeR
  rw [if_pos isW4]
  split
  · exact .inr rfl
  · exact .inl rfl
theorem bt_zero (s : ByteArray) (h : 0 < s.size) : bt s 0 = ((s.data.toList.headD 0).toNat : Int) := by
  rw [show (0 : Int) = ((0 : Nat) : Int) from rfl, bt_get s 0 h]
  have : ∀ (l : List UInt8) (hl : 0 < l.length), ((l[0].toNat : Nat) : Int) = ((l.headD 0).toNat : Int) := by
    intro l hl
    cases l with
    | nil => simp at hl
    | cons b r => rfl
  exact this _ _
theorem take_one (s : ByteArray) (h : 0 < s.size) : takeR s 1 = (((s.data.toList.headD 0).toNat : Int), s.extract 1 s.size, 0) := by
  unfold takeR
  rw [if_pos isW1, if_neg (by omega)]
  have : beNum (s.data.toList.take 1) = (s.data.toList.headD 0).toNat := by
    cases e : s.data.toList with
    | nil => rw [← size_list, e] at h; simp at h
    | cons b r => simp [beNum]
  show (((beNum (s.data.toList.take 1) : Nat) : Int), s.extract 1 s.size, (0 : Int)) = _
  rw [this]
theorem rtshort_f (s : ByteArray) (hz : s.size ≤ 4611686018427387904) : interchangeref02_TakeShort.f s = some (ltakeR 1 s) := by
  unfold interchangeref02_TakeShort.f
  by_cases h : s.size = 0
  · rw [if_pos (by omega)]
    have ht : takeR s 1 = (0, ⟨#[]⟩, 2) := by
      unfold takeR
      rw [if_pos isW1, if_pos (by omega)]
    unfold ltakeR
    rw [ht]
    rfl
  · have hp : 0 < s.size := by omega
    have t1 := take_one s hp
    have hv := (s.data.toList.headD 0).toNat_lt
    rw [if_neg (by omega), if_pos (by omega), bt_zero s hp]
    unfold ltakeR
    rw [t1]
    generalize (s.data.toList.headD 0).toNat = v at hv
    have w1 : wrap64 (1 + wrap64 (v : Int)) = ((1 + v : Nat) : Int) := by unfold wrap64; omega
    have hrs : (s.extract 1 s.size).size = s.size - 1 := by rw [extract_drop, toBA_size, List.length_drop, size_list]
    rw [w1]
    simp only
    rw [if_pos trivial, hrs]
    by_cases l : s.size < 1 + v
    · rw [if_pos (by omega), if_neg (by omega)]
    · rw [if_neg (by omega), if_pos (by omega), if_pos (by omega), if_pos (by omega), if_pos (by omega)]
      rw [Int.toNat_natCast, Int.toNat_natCast]
      have a1 : s.extract 1 (1 + v) = (s.extract 1 s.size).extract 0 v := eq_of_list (by
        rw [Lib.extract_data, extract_take, toBA_list, extract_drop, toBA_list]; congr 1; omega)
      have a2 : s.extract (1 + v) s.size = (s.extract 1 s.size).extract v (s.size - 1) := eq_of_list (by
        conv => rhs; rw [← hrs]
        rw [extract_drop, toBA_list, extract_drop, toBA_list, extract_drop, toBA_list, List.drop_drop])
      rw [a1, a2]
/-- a length, and what stands within it -/
theorem rinside_k {k : Nat} (hk : 12 ≤ k) (s : ByteArray) (hz : s.size ≤ 4611686018427387904) : interchangeref03_inside.f k s = some (ltakeR 4 s) := by
  unfold interchangeref03_inside.f
  rw [rtake_k hk, Option.bind_some]
  have hb := (take_bound s 4).1
  have hr := take_rest s 4
  have h4 := take_four s
  unfold ltakeR
  generalize takeR s 4 = t at hb hr h4
  obtain ⟨t1, t2, t3⟩ := t
  simp only at hb hr h4 ⊢
  by_cases e : t3 = 0
  · rw [if_pos e, if_pos e, wrapU (by omega) (by omega)]
    by_cases l : t1 ≤ (t2.size : Int)
    · rw [if_neg (by omega), if_pos hb, if_pos l, if_pos l]
    · rw [if_pos (by omega), if_neg l]
  · rw [if_neg e, if_neg e]
    rcases h4 with h | h
    · exact absurd h e
    · rw [h]
def sizeI (c : Nat) : Int := match sizeU c with | some n => (n : Int) | none => -1
theorem rsize_at (c : UInt8) : interchangeref03_size.f 40 (c.toNat : Int) = some (sizeI c.toNat) := by
  have h : ∀ n : Fin 256, interchangeref03_size.f 40 (n.val : Int) = some (sizeI n.val) := by decide +kernel
  exact h ⟨c.toNat, c.toNat_lt⟩
theorem rsize_k {k : Nat} (hk : 40 ≤ k) (c : UInt8) : interchangeref03_size.f k (c.toNat : Int) = some (sizeI c.toNat) := at_rounds (interchangeref03_size.mono (c.toNat : Int)) hk (rsize_at c)
end Go.Proofs.YthpfcplhlhnfeaaDoor.F
