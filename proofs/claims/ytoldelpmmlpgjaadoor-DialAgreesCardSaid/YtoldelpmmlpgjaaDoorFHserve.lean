/- Whether a tune may be: the contract of serve.Right. -/
import Derived.Test.YtoldelpmmlpgjaaDoorFserveRight1
namespace Go.Proofs.YtoldelpmmlpgjaaDoor.F
open Go.RowKit Go.Proofs.YtoldelpmmlpgjaaDoorW.PrintWords Go.Proofs.YtoldelpmmlpgjaaDoorW.PrintLast Go.Proofs.YtoldelpmmlpgjaaDoorW.PrintMore
set_option linter.unusedVariables false
set_option linter.unusedSimpArgs false
def rightT (c f b : Int) : Bool := decide (1 ≤ c) && decide (c ≤ 65535) && (decide (4096 ≤ f) && decide (f ≤ 131072)) && (decide (0 ≤ b) && decide (b ≤ 65535))
def serve_Right.f (a0_0 a0_1 a0_2 : Int) : Option Bool := some (rightT a0_0 a0_1 a0_2)
theorem within_f (n lo hi : Int) : serve_Right_1.f n lo hi = some (decide (lo ≤ n) && decide (n ≤ hi)) := by
  unfold serve_Right_1.f
  by_cases h : lo ≤ n <;> by_cases h' : n ≤ hi <;> simp [h, h']
set_option maxHeartbeats 2000000 in
set_option maxRecDepth 100000 in
theorem serve_Right.calls_at (a0_0 a0_1 a0_2 : Int) (r : Bool) (w : World) (h : serve_Right.f a0_0 a0_1 a0_2 = some r) :
    Calls Tryd.prog 8 #[.agg #[.int .i64 a0_0, .int .i64 a0_1, .int .i64 a0_2]] w fun e w' => e = .returned (.bool r) ∧ ∃ nd : Nat, w' = (w.alloc (.cells #[.int .i64 a0_0, .int .i64 a0_1, .int .i64 a0_2] 23)).drewN nd := by
  have hr : rightT a0_0 a0_1 a0_2 = r := Option.some.inj h
  clear h
  have k1 := within_f a0_0 1 65535
  have k2 := within_f a0_1 4096 131072
  have k3 := within_f a0_2 0 65535
  unfold rightT at hr
  generalize (decide (1 ≤ a0_0) && decide (a0_0 ≤ 65535)) = b1 at k1 hr
  generalize (decide (4096 ≤ a0_1) && decide (a0_1 ≤ 131072)) = b2 at k2 hr
  generalize (decide (0 ≤ a0_2) && decide (a0_2 ≤ 65535)) = b3 at k3 hr
  have K1 := Aside0.mk k1
  have K2 := Aside0.mk k2
  have K3 := Aside0.mk k3
  clear k1 k2 k3
  cases b1
  · obtain rfl : r = false := by simpa using hr.symm
    clear hr
    go_enter Tryd.func8, Tryd.ntmps8
    go_wp2_with (first | (go_at_call 15; (with_reducible refine (serve_Right_1.calls a0_0 1 65535 false _ K1.out).mono ?_); rintro e w' ⟨rfl, ⟨nd, rfl⟩⟩))
    go_ret
    exact ⟨rfl, by first | exact ⟨_, rfl⟩ | exact ⟨_, by simp only [World.drewN_drewN]⟩⟩
  cases b2
  · obtain rfl : r = false := by simpa using hr.symm
    clear hr
    go_enter Tryd.func8, Tryd.ntmps8
    go_wp2_with (first | (go_at_call 15; (with_reducible refine (serve_Right_1.calls a0_0 1 65535 true _ K1.out).mono ?_); rintro e w' ⟨rfl, ⟨nd, rfl⟩⟩) | (go_at_call 15; (with_reducible refine (serve_Right_1.calls a0_1 4096 131072 false _ K2.out).mono ?_); rintro e w' ⟨rfl, ⟨nd, rfl⟩⟩))
    go_ret
    exact ⟨rfl, by first | exact ⟨_, rfl⟩ | exact ⟨_, by simp only [World.drewN_drewN]⟩⟩
  · obtain rfl : r = b3 := by simpa using hr.symm
    clear hr
    go_enter Tryd.func8, Tryd.ntmps8
    go_wp2_with (first | (go_at_call 15; (with_reducible refine (serve_Right_1.calls a0_0 1 65535 true _ K1.out).mono ?_); rintro e w' ⟨rfl, ⟨nd, rfl⟩⟩) | (go_at_call 15; (with_reducible refine (serve_Right_1.calls a0_1 4096 131072 true _ K2.out).mono ?_); rintro e w' ⟨rfl, ⟨nd, rfl⟩⟩) | (go_at_call 15; (with_reducible refine (serve_Right_1.calls a0_2 0 65535 r _ K3.out).mono ?_); rintro e w' ⟨rfl, ⟨nd, rfl⟩⟩))
    go_ret
    exact ⟨rfl, by first | exact ⟨_, rfl⟩ | exact ⟨_, by simp only [World.drewN_drewN]⟩⟩
theorem serve_Right.calls (a0_0 a0_1 a0_2 : Int) (r : Bool) (w : World) (h : serve_Right.f a0_0 a0_1 a0_2 = some r) :
    Calls Tryd.prog 8 #[.agg #[.int .i64 a0_0, .int .i64 a0_1, .int .i64 a0_2]] w fun e w' => e = .returned (.bool r) ∧ Below w.heap.size w w' :=
  (serve_Right.calls_at a0_0 a0_1 a0_2 r w h).mono fun e w' ⟨he, nd, hw⟩ => ⟨he, hw ▸ pw_below_drewN (below_alloc (Below.refl _ _) _) _⟩
end Go.Proofs.YtoldelpmmlpgjaaDoor.F
