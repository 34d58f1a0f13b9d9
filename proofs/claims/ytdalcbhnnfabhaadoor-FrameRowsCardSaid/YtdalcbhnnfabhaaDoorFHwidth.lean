/- Whether a number may have so many bytes: the contract of num.width, over the table of the four widths. -/
import Derived.Test.YtdalcbhnnfabhaaDoorFbase
import Derived.Test.YtdalcbhnnfabhaaDoorFslicesContainsintint
namespace Go.Proofs.YtdalcbhnnfabhaaDoor.F
open Go.RowKit Go.Proofs.YtdalcbhnnfabhaaDoorW.PrintWords Go.Proofs.YtdalcbhnnfabhaaDoorW.PrintLast Go.Proofs.YtdalcbhnnfabhaaDoorW.PrintMore
set_option linter.unusedVariables false
set_option linter.unusedSimpArgs false

def num_width.f (a0 : Int) : Option Bool := some (decide (a0 = 1) || decide (a0 = 2) || decide (a0 = 4) || decide (a0 = 8))

theorem contains_widths (a0 : Int) : slices_Contains_int_int.f 6 [1, 2, 4, 8] a0 = num_width.f a0 := by
  unfold slices_Contains_int_int.f slices_Index_int_int.f num_width.f
  have w1 : wrap64 1 = 1 := by unfold wrap64; omega
  have w2 : wrap64 2 = 2 := by unfold wrap64; omega
  have w3 : wrap64 3 = 3 := by unfold wrap64; omega
  have w4 : wrap64 4 = 4 := by unfold wrap64; omega
  by_cases h1 : a0 = 1
  · subst h1; simp [slices_Index_int_int.l0, rd]
  by_cases h2 : a0 = 2
  · subst h2; simp [slices_Index_int_int.l0, rd, w1]
  by_cases h4 : a0 = 4
  · subst h4; simp [slices_Index_int_int.l0, rd, w1, w2]
  by_cases h8 : a0 = 8
  · subst h8; simp [slices_Index_int_int.l0, rd, w1, w2, w3]
  simp [slices_Index_int_int.l0, rd, h1, h2, h4, h8, w1, w2, w3, w4]

theorem widths_reads {w : World} (hg : Laid w) : Kd.C (Kd.int .i64) w (some ⟨1, 0, none⟩) 4 [1, 2, 4, 8] := by
  refine Kd.C_of_reads (d := (0 : Int)) (h1 := fun _ => rfl) ⟨rfl, by decide, fun _ => ⟨_, rfl, fun j hj => ?_⟩⟩
  rw [add_plain]
  match j, hj with
  | 0, _ => exact hg.c0
  | 1, _ => exact hg.c1
  | 2, _ => exact hg.c2
  | 3, _ => exact hg.c3

theorem num_width.calls (a0 : Int) (r : Bool) (w : World) (hg : Laid w) (h : num_width.f a0 = some r) :
    Calls Tryd.prog 33 #[.int .i64 a0] w fun e w' => e = .returned (.bool r) ∧ Drawn0 w w' := by
  have hc := Aside0.mk ((contains_widths a0).trans h)
  have hr := Aside0.mk (widths_reads hg)
  clear h hg
  go_enter Tryd.func33, Tryd.ntmps33
  go_wp2_with (go_at_call 35; refine (slices_Contains_int_int.calls 6 (some ⟨1, 0, none⟩) 4 [1, 2, 4, 8] a0 r _ hr.out (by decide) hc.out).mono ?_; rintro e w' ⟨rfl, ⟨nd, rfl⟩⟩)
  go_ret
  exact ⟨rfl, ⟨⟨nd, rfl⟩⟩⟩
end Go.Proofs.YtdalcbhnnfabhaaDoor.F
