/- Whether a number is a type of frames: the contract of frame.kind, over the table of the types. -/
import Derived.Test.YtdalcbhnnfabhaaDoorFbase
namespace Go.Proofs.YtdalcbhnnfabhaaDoor.F
open Go.RowKit Go.Proofs.YtdalcbhnnfabhaaDoorW.PrintWords Go.Proofs.YtdalcbhnnfabhaaDoorW.PrintLast Go.Proofs.YtdalcbhnnfabhaaDoorW.PrintMore
set_option linter.unusedVariables false
set_option linter.unusedSimpArgs false

def frame_kind.f (a0 : Int) : Option Bool := some (decide (a0 = 1) || decide (a0 = 2) || decide (a0 = 3) || decide (a0 = 8))
theorem frame_kind.calls (a0 : Int) (r : Bool) (w : World) (hg : Laid w) (h : frame_kind.f a0 = some r) :
    Calls Tryd.prog 26 #[.int .i64 a0] w fun e w' => e = .returned (.bool r) ∧ Drawn0 w w' := by
  obtain ⟨_, _, _, _, k0, k1, k2, k3, k4, k5, k6, k7, k8⟩ := hg
  have h' := Option.some.inj h
  clear h
  by_cases hn : a0 < 0
  · have hr : r = false := by rw [← h']; simp; omega
    subst hr
    clear h'
    have d0 : decide (0 ≤ a0) = false := decide_eq_false (by omega)
    go_enter Tryd.func26, Tryd.ntmps26
    go_wp2
    go_ret
    exact ⟨rfl, Drawn0.refl _⟩
  by_cases hm : 8 < a0
  · have hr : r = false := by rw [← h']; simp; omega
    subst hr
    clear h'
    have d0 : decide (0 ≤ a0) = true := decide_eq_true (by omega)
    have d1 : decide (a0 < 9) = false := decide_eq_false (by omega)
    go_enter Tryd.func26, Tryd.ntmps26
    go_wp2
    go_ret
    exact ⟨rfl, Drawn0.refl _⟩
  have hc : a0 = 0 ∨ a0 = 1 ∨ a0 = 2 ∨ a0 = 3 ∨ a0 = 4 ∨ a0 = 5 ∨ a0 = 6 ∨ a0 = 7 ∨ a0 = 8 := by omega
  clear hn hm
  rcases hc with rfl | rfl | rfl | rfl | rfl | rfl | rfl | rfl | rfl
  all_goals subst h'
  all_goals
    go_enter Tryd.func26, Tryd.ntmps26
    go_wp2
    go_ret
    exact ⟨by simp, Drawn0.refl _⟩
end Go.Proofs.YtdalcbhnnfabhaaDoor.F
