-- Printed by this session's program pf.py out of the kit's print.
import Derived.Test.YtdalcbhnnfabhaaDoorFbase
import Derived.Test.YtdalcbhnnfabhaaDoorFframeHeader
import Derived.Test.YtdalcbhnnfabhaaDoorFstringsHasPrefix
namespace Go.Proofs.YtdalcbhnnfabhaaDoor.F
open Go.RowKit Go.Proofs.YtdalcbhnnfabhaaDoorW.PrintWords Go.Proofs.YtdalcbhnnfabhaaDoorW.PrintLast Go.Proofs.YtdalcbhnnfabhaaDoorW.PrintMore
attribute [local go_sem] max2_int min2_int max_two min_two max_three min_three max_four min_four
set_option linter.unusedVariables false
set_option linter.unusedSimpArgs false

/-! ### frame_Begins: function 12 -/
def frame_Begins.f (a0 : ByteArray) : Option (ByteArray × Int) := (frame_Header.f).bind fun t126 => ((strings_HasPrefix.f a0 t126).bind fun t127 => (if t127 = true then (if 0 ≤ (t126.size : Int) then (if (t126.size : Int) ≤ (a0.size : Int) then (some (a0.extract ((t126.size : Int) : Int).toNat a0.size, 0)) else (none)) else (none)) else ((strings_HasPrefix.f t126 a0).bind fun t128 => (if t128 = true then (some ((⟨#[]⟩ : ByteArray), 2)) else (some ((⟨#[]⟩ : ByteArray), 3))))))
set_option maxHeartbeats 8000000 in
set_option maxRecDepth 100000 in
theorem frame_Begins.calls (a0 : ByteArray) (r1 : ByteArray) (r2 : Int) (w : World) (h : frame_Begins.f a0 = some (r1, r2)) :
    Calls Tryd.prog 12 #[.string a0] w fun e w' => e = .returned (.tuple #[.string r1, .int .i64 r2]) ∧ Drawn0 w w' := by
  have H : ((frame_Header.f).bind fun t126 => ((strings_HasPrefix.f a0 t126).bind fun t127 => (if t127 = true then (if 0 ≤ (t126.size : Int) then (if (t126.size : Int) ≤ (a0.size : Int) then (some (a0.extract ((t126.size : Int) : Int).toNat a0.size, 0)) else (none)) else (none)) else ((strings_HasPrefix.f t126 a0).bind fun t128 => (if t128 = true then (some ((⟨#[]⟩ : ByteArray), 2)) else (some ((⟨#[]⟩ : ByteArray), 3))))))) = some (r1, r2) := h
  clear h
  replace H := Option.bind_eq_some_iff.mp H
  obtain ⟨t126, A20, H⟩ := H
  replace H : ((strings_HasPrefix.f a0 t126).bind fun t127 => (if t127 = true then (if 0 ≤ (t126.size : Int) then (if (t126.size : Int) ≤ (a0.size : Int) then (some (a0.extract ((t126.size : Int) : Int).toNat a0.size, 0)) else (none)) else (none)) else ((strings_HasPrefix.f t126 a0).bind fun t128 => (if t128 = true then (some ((⟨#[]⟩ : ByteArray), 2)) else (some ((⟨#[]⟩ : ByteArray), 3)))))) = some (r1, r2) := H
  have A2 := Aside0.mk A20
  clear A20
  replace H := Option.bind_eq_some_iff.mp H
  obtain ⟨t127, A30, H⟩ := H
  replace H : (if t127 = true then (if 0 ≤ (t126.size : Int) then (if (t126.size : Int) ≤ (a0.size : Int) then (some (a0.extract ((t126.size : Int) : Int).toNat a0.size, 0)) else (none)) else (none)) else ((strings_HasPrefix.f t126 a0).bind fun t128 => (if t128 = true then (some ((⟨#[]⟩ : ByteArray), 2)) else (some ((⟨#[]⟩ : ByteArray), 3))))) = some (r1, r2) := H
  have A3 := Aside0.mk A30
  clear A30
  by_cases c4 : t127 = true
  · subst c4
    have H1 : (if 0 ≤ (t126.size : Int) then (if (t126.size : Int) ≤ (a0.size : Int) then (some (a0.extract ((t126.size : Int) : Int).toNat a0.size, 0)) else (none)) else (none)) = some (r1, r2) := by rw [if_pos rfl] at H; exact H
    clear H
    have H := H1
    clear H1
    by_cases c5 : 0 ≤ (t126.size : Int)
    · rw [if_pos c5] at H
      have c5b0 := eq_true c5
      have c5b1 : decide (0 ≤ (t126.size : Int)) = true := decide_eq_true c5
      clear c5
      by_cases c6 : (t126.size : Int) ≤ (a0.size : Int)
      · rw [if_pos c6] at H
        have c6b0 := eq_true c6
        have c6b1 : decide ((t126.size : Int) ≤ (a0.size : Int)) = true := decide_eq_true c6
        clear c6
        simp only [Option.some.injEq, Prod.mk.injEq] at H
        obtain ⟨rfl, rfl⟩ := H
        go_enter Tryd.func12, Tryd.ntmps12
        go_wp2_with (first | ((with_reducible refine gate_callee (f := 11) rfl ?_); refine goesL_ (some 5) rfl rfl Tryd.func11 (by kernel_rfl) rfl #[] rfl (by (try simp only [List.map_toArray, List.map_cons, List.map_nil]); first | done | rfl | (simp only [List.length_drop, List.length_take]; rfl)) ?_; (with_reducible refine (frame_Header.calls  t126 _ A2.out).mono ?_); rintro e w' ⟨rfl, ⟨nd, rfl⟩⟩; refine ⟨_, rfl, ?_⟩) | ((with_reducible refine gate_callee (f := 24) rfl ?_); refine goesL_ (some 9) rfl rfl Tryd.func24 (by kernel_rfl) rfl #[.string a0, .string t126] rfl (by (try simp only [List.map_toArray, List.map_cons, List.map_nil]); first | done | rfl | (simp only [List.length_drop, List.length_take]; rfl)) ?_; (with_reducible refine (strings_HasPrefix.calls a0 t126 true _ A3.out).mono ?_); rintro e w' ⟨rfl, ⟨nd, rfl⟩⟩; refine ⟨_, rfl, ?_⟩))
        go_ret2
        exact ⟨by first | rfl | (simp; done) | (simp [*]; done), by repeat (first | exact Drawn0.refl _ | apply Drawn0.step)⟩
      · rw [if_neg c6] at H
        exact absurd H (by simp)
    · rw [if_neg c5] at H
      exact absurd H (by simp)
  · replace c4 := Bool.eq_false_iff.mpr c4
    subst c4
    have H1 : ((strings_HasPrefix.f t126 a0).bind fun t128 => (if t128 = true then (some ((⟨#[]⟩ : ByteArray), 2)) else (some ((⟨#[]⟩ : ByteArray), 3)))) = some (r1, r2) := by rw [if_neg (show ¬ (false = true) by decide)] at H; exact H
    clear H
    have H := H1
    clear H1
    replace H := Option.bind_eq_some_iff.mp H
    obtain ⟨t128, A70, H⟩ := H
    replace H : (if t128 = true then (some ((⟨#[]⟩ : ByteArray), 2)) else (some ((⟨#[]⟩ : ByteArray), 3))) = some (r1, r2) := H
    have A7 := Aside0.mk A70
    clear A70
    by_cases c8 : t128 = true
    · subst c8
      have H1 : (some ((⟨#[]⟩ : ByteArray), 2)) = some (r1, r2) := by rw [if_pos rfl] at H; exact H
      clear H
      have H := H1
      clear H1
      simp only [Option.some.injEq, Prod.mk.injEq] at H
      obtain ⟨rfl, rfl⟩ := H
      go_enter Tryd.func12, Tryd.ntmps12
      go_wp2_with (first | ((with_reducible refine gate_callee (f := 11) rfl ?_); refine goesL_ (some 5) rfl rfl Tryd.func11 (by kernel_rfl) rfl #[] rfl (by (try simp only [List.map_toArray, List.map_cons, List.map_nil]); first | done | rfl | (simp only [List.length_drop, List.length_take]; rfl)) ?_; (with_reducible refine (frame_Header.calls  t126 _ A2.out).mono ?_); rintro e w' ⟨rfl, ⟨nd, rfl⟩⟩; refine ⟨_, rfl, ?_⟩) | ((with_reducible refine gate_callee (f := 24) rfl ?_); refine goesL_ (some 9) rfl rfl Tryd.func24 (by kernel_rfl) rfl #[.string a0, .string t126] rfl (by (try simp only [List.map_toArray, List.map_cons, List.map_nil]); first | done | rfl | (simp only [List.length_drop, List.length_take]; rfl)) ?_; (with_reducible refine (strings_HasPrefix.calls a0 t126 false _ A3.out).mono ?_); rintro e w' ⟨rfl, ⟨nd, rfl⟩⟩; refine ⟨_, rfl, ?_⟩) | ((with_reducible refine gate_callee (f := 24) rfl ?_); refine goesL_ (some 17) rfl rfl Tryd.func24 (by kernel_rfl) rfl #[.string t126, .string a0] rfl (by (try simp only [List.map_toArray, List.map_cons, List.map_nil]); first | done | rfl | (simp only [List.length_drop, List.length_take]; rfl)) ?_; (with_reducible refine (strings_HasPrefix.calls t126 a0 true _ A7.out).mono ?_); rintro e w' ⟨rfl, ⟨nd, rfl⟩⟩; refine ⟨_, rfl, ?_⟩))
      go_ret2
      exact ⟨by first | rfl | (simp; done) | (simp [*]; done), by repeat (first | exact Drawn0.refl _ | apply Drawn0.step)⟩
    · replace c8 := Bool.eq_false_iff.mpr c8
      subst c8
      have H1 : (some ((⟨#[]⟩ : ByteArray), 3)) = some (r1, r2) := by rw [if_neg (show ¬ (false = true) by decide)] at H; exact H
      clear H
      have H := H1
      clear H1
      simp only [Option.some.injEq, Prod.mk.injEq] at H
      obtain ⟨rfl, rfl⟩ := H
      go_enter Tryd.func12, Tryd.ntmps12
      go_wp2_with (first | ((with_reducible refine gate_callee (f := 11) rfl ?_); refine goesL_ (some 5) rfl rfl Tryd.func11 (by kernel_rfl) rfl #[] rfl (by (try simp only [List.map_toArray, List.map_cons, List.map_nil]); first | done | rfl | (simp only [List.length_drop, List.length_take]; rfl)) ?_; (with_reducible refine (frame_Header.calls  t126 _ A2.out).mono ?_); rintro e w' ⟨rfl, ⟨nd, rfl⟩⟩; refine ⟨_, rfl, ?_⟩) | ((with_reducible refine gate_callee (f := 24) rfl ?_); refine goesL_ (some 9) rfl rfl Tryd.func24 (by kernel_rfl) rfl #[.string a0, .string t126] rfl (by (try simp only [List.map_toArray, List.map_cons, List.map_nil]); first | done | rfl | (simp only [List.length_drop, List.length_take]; rfl)) ?_; (with_reducible refine (strings_HasPrefix.calls a0 t126 false _ A3.out).mono ?_); rintro e w' ⟨rfl, ⟨nd, rfl⟩⟩; refine ⟨_, rfl, ?_⟩) | ((with_reducible refine gate_callee (f := 24) rfl ?_); refine goesL_ (some 17) rfl rfl Tryd.func24 (by kernel_rfl) rfl #[.string t126, .string a0] rfl (by (try simp only [List.map_toArray, List.map_cons, List.map_nil]); first | done | rfl | (simp only [List.length_drop, List.length_take]; rfl)) ?_; (with_reducible refine (strings_HasPrefix.calls t126 a0 false _ A7.out).mono ?_); rintro e w' ⟨rfl, ⟨nd, rfl⟩⟩; refine ⟨_, rfl, ?_⟩))
      go_ret2
      exact ⟨by first | rfl | (simp; done) | (simp [*]; done), by repeat (first | exact Drawn0.refl _ | apply Drawn0.step)⟩


end Go.Proofs.YtdalcbhnnfabhaaDoor.F
