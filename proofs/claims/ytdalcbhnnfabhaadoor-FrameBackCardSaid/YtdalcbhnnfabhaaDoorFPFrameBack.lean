/- The pure statement of FrameBack. -/
import Derived.Test.YtdalcbhnnfabhaaDoorFPframeBack
import Derived.Test.YtdalcbhnnfabhaaDoorFPshown04
import Derived.Test.YtdalcbhnnfabhaaDoorFinterchangelaw04FrameBack
namespace Go.Proofs.YtdalcbhnnfabhaaDoor.F
open Go.RowKit Go.Proofs.YtdalcbhnnfabhaaDoorW.PrintWords Go.Proofs.YtdalcbhnnfabhaaDoorW.PrintLast Go.Proofs.YtdalcbhnnfabhaaDoorW.PrintMore
set_option linter.unusedVariables false
set_option linter.unusedSimpArgs false
theorem frameBack_second (s : ByteArray) (hz : s.size ≤ 140737488351232) (M : Nat) {t : Took} (ht : t = takeL M s.data.toList) :
    (if t.2.2.2.2 = 0 then (if (bytesR t.1 t.2.1 t.2.2.1).2 = 0 then (if (bytesR t.1 t.2.1 t.2.2.1).1.size + t.2.2.2.1.size ≤ 9223372036854775807 then (if ((bytesR t.1 t.2.1 t.2.2.1).1 ++ t.2.2.2.1).toList = s.toList then (some (rightB t.1 t.2.1 t.2.2.1)) else (some false)) else (none)) else (some false)) else (some true)) = some true := by
  subst ht
  by_cases e : (takeL M s.data.toList).2.2.2.2 = 0
  · obtain ⟨hr, hb, hs⟩ := take_ok e
    have hl := congrArg List.length hb
    rw [List.length_append, bytesL_length, size_list, size_list] at hl
    have hB : bytesR (takeL M s.data.toList).1 (takeL M s.data.toList).2.1 (takeL M s.data.toList).2.2.1 = (toBA (bytesL (takeL M s.data.toList).1 (takeL M s.data.toList).2.1 (takeL M s.data.toList).2.2.1), 0) := by
      unfold bytesR; rw [if_pos hr]
    rw [if_pos e, hB, if_pos rfl, if_pos (by rw [toBA_size, bytesL_length]; omega), if_pos (by rw [append_toBA, hb, toBA_toList, toList_data]), hr]
  · rw [if_neg e]
theorem frameBack_pure (b0 : Int × Int × ByteArray) (b1 b2 : ByteArray) (g0 : (Lit.int .i64 b0.1).wf = true ∧ (Lit.int .i64 b0.2.1).wf = true ∧ b0.2.2.size ≤ maxLen) (g1 : b1.size ≤ maxLen) (g2 : b2.size ≤ maxLen)
    (z0 : True ∧ True ∧ b0.2.2.size ≤ 140737488351232) (z1 : b1.size ≤ 140737488351232) (z2 : b2.size ≤ 140737488351232) : ∃ k, interchangelaw04_FrameBack.f k b0.1 b0.2.1 b0.2.2 b1 b2 = some true := by
  obtain ⟨ty, ch, d⟩ := b0
  simp only at z0 ⊢
  refine ⟨20, ?_⟩
  unfold interchangelaw04_FrameBack.f
  have m4 : mostN 4096 = 4096 := by decide
  have sec := frameBack_second b2 z2 4096 rfl
  have tk : ∀ k, 13 ≤ k → frame_Take.f k b2 4096 = some (takeL 4096 b2.data.toList) := fun k hk => by rw [ftake_k hk b2 (Nat.le_trans z2 (by decide)), m4]
  have j1 : ∀ k, 14 ≤ k → interchangelaw04_FrameBack.j1 k b2 true false = some true := by
    intro k hk
    obtain ⟨k, rfl⟩ : ∃ j, k = j + 1 := ⟨k - 1, by omega⟩
    simp only [interchangelaw04_FrameBack.j1, Bool.false_eq_true, if_false, if_true, tk k (by omega), Option.bind_some, bytes_k (show 12 ≤ k by omega), right_k (show 1 ≤ k by omega)]
    exact sec
  have j0 : ∀ x, interchangelaw04_FrameBack.j0 20 b1 b2 true x false ty ch d = some true := by
    intro x
    simp only [interchangelaw04_FrameBack.j0, Bool.false_eq_true, if_false, if_true, tk 19 (by decide), Option.bind_some, bytes_k (show 12 ≤ 19 by decide), right_k (show 1 ≤ 19 by decide)]
    exact sec
  rw [shown_k (by decide), Option.bind_some, bytes_k (by decide), Option.bind_some]
  by_cases h : rightB ty ch d = true
  · have hB : bytesR ty ch d = (toBA (bytesL ty ch d), 0) := by unfold bytesR; rw [if_pos h]
    rw [hB, if_pos rfl]
    simp only [toBA_size, bytesL_length]
    by_cases hc : d.size + 8 ≤ 4096
    · rw [show decide (((d.size + 8 : Nat) : Int) ≤ 4096) = true from decide_eq_true (by omega)]
      have tb := take_bytes h hc b1.data.toList
      have hf : frame_Take.f 19 (toBA (bytesL ty ch d) ++ b1) 4096 = some (ty, ch, d, b1, 0) := by
        rw [ftake_k (by decide) _ (by rw [size_append, toBA_size, bytesL_length]; omega) 4096, m4, append_data, toBA_list, tb, ← toBA_of b1]
      simp only [interchangelaw04_FrameBack.j0, if_true, hf, Option.bind_some]
      rw [if_pos (by rw [toBA_size, bytesL_length]; omega)]
      simp only [BEq.rfl, Bool.not_true, Bool.or_self, Bool.false_eq_true, if_false]
      rw [show (b1.toList != b1.toList) = false by simp]
      exact j1 19 (by decide)
    · rw [show decide (((d.size + 8 : Nat) : Int) ≤ 4096) = false from decide_eq_false (by omega)]
      exact j0 _
  · have hB : bytesR ty ch d = (⟨#[]⟩, 1) := by unfold bytesR; rw [if_neg h]
    rw [hB, if_neg (by decide)]
    exact j0 _
end Go.Proofs.YtdalcbhnnfabhaaDoor.F
