/- The pure statement of FrameMost. -/
import Derived.Test.YtdalcbhnnfabhaaDoorFPframeBack
import Derived.Test.YtdalcbhnnfabhaaDoorFPshown04
import Derived.Test.YtdalcbhnnfabhaaDoorFinterchangelaw04FrameMost
namespace Go.Proofs.YtdalcbhnnfabhaaDoor.F
open Go.RowKit Go.Proofs.YtdalcbhnnfabhaaDoorW.PrintWords Go.Proofs.YtdalcbhnnfabhaaDoorW.PrintLast Go.Proofs.YtdalcbhnnfabhaaDoorW.PrintMore
set_option linter.unusedVariables false
set_option linter.unusedSimpArgs false
theorem most_flag (k : Nat) (s : ByteArray) (m : Int) : (if m < 4096 then interchangelaw04_FrameMost.j0 k s m true 4096 else interchangelaw04_FrameMost.j0 k s m true m) = interchangelaw04_FrameMost.j0 k s m true (if m < 4096 then 4096 else m) := by
  split <;> rfl
theorem frameMost_pure (b0 : ByteArray) (b1 : Int) (g0 : b0.size ≤ maxLen) (g1 : (Lit.int .i64 b1).wf = true) (z0 : b0.size ≤ 140737488351232) (z1 : True) : ∃ k, interchangelaw04_FrameMost.f k b0 b1 = some true := by
  refine ⟨20, ?_⟩
  unfold interchangelaw04_FrameMost.f
  rw [shown_k (by decide), Option.bind_some, most_flag]
  have lo := most_lo b1
  have hi := most_hi b1
  obtain ⟨x, ex, hx, hy⟩ : ∃ x : Int, (if b1 < 4096 then 4096 else b1) = x ∧ (x ≤ 131072 → x = (mostN b1 : Int)) ∧ (x > 131072 → mostN b1 = 131072) := by
    unfold mostN
    by_cases h : b1 < 4096
    · rw [if_pos h, if_pos h]
      exact ⟨_, rfl, fun _ => rfl, fun h => absurd h (by decide)⟩
    · rw [if_neg h, if_neg h]
      refine ⟨_, rfl, fun h1 => ?_, fun h1 => ?_⟩
      · rw [if_neg (by omega)]; omega
      · rw [if_pos (by omega)]
  rw [ex]
  have e0 : (⟨#[]⟩ : ByteArray).toList = ([] : List UInt8) := (nil_size _).2 rfl
  simp only [interchangelaw04_FrameMost.j0, ftake_k (show 13 ≤ 19 by decide) b0 (Nat.le_trans z0 (by decide)), Option.bind_some, if_true]
  generalize hM : mostN b1 = M at lo hi hx hy
  by_cases e : (takeL M b0.data.toList).2.2.2.2 = 0
  · obtain ⟨hr, hb, hs⟩ := take_ok e
    have hl := congrArg List.length hb
    rw [List.length_append, bytesL_length, size_list, size_list] at hl
    have ew : wrap64 (((takeL M b0.data.toList).2.2.1.size : Int) + 8) = ((takeL M b0.data.toList).2.2.1.size : Int) + 8 := wrap64_of (by omega) (by omega)
    have ed : wrap64 ((b0.size : Int) - ((takeL M b0.data.toList).2.2.2.1.size : Int)) = (b0.size : Int) - ((takeL M b0.data.toList).2.2.2.1.size : Int) := wrap64_of (by omega) (by omega)
    have eq : (wrap64 ((b0.size : Int) - ((takeL M b0.data.toList).2.2.2.1.size : Int)) == wrap64 (((takeL M b0.data.toList).2.2.1.size : Int) + 8)) = true := by
      rw [ew, ed, beq_iff_eq]; omega
    rw [if_pos e, if_pos e, eq, ew]
    by_cases hc : x > 131072
    · rw [if_pos hc, if_pos (by have := hy hc; omega)]
    · rw [if_neg hc, if_pos (by have := hx (by omega); omega)]
  · rw [if_neg e, if_neg e]
    rcases take_bad lo e with h | ⟨h, hl⟩
    · rw [h]
      simp only [errF, e0]
      split <;> rfl
    · rw [h]
      rw [size_list] at hl
      simp only [errM, e0]
      by_cases hc : x > 131072
      · rw [if_pos hc, if_neg (by decide), if_pos trivial, if_pos (by have := hy hc; omega)]; rfl
      · rw [if_neg hc, if_neg (by decide), if_pos trivial, if_pos (by have := hx (by omega); omega)]; rfl
end Go.Proofs.YtdalcbhnnfabhaaDoor.F
