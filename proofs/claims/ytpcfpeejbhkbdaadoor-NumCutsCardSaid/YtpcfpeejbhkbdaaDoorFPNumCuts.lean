/- The pure statement of NumCuts. -/
import Derived.Test.YtpcfpeejbhkbdaaDoorFPback
import Derived.Test.YtpcfpeejbhkbdaaDoorFPnumTake
import Derived.Test.YtpcfpeejbhkbdaaDoorFPskip
import Derived.Test.YtpcfpeejbhkbdaaDoorFinterchangelaw01NumCuts
namespace Go.Proofs.YtpcfpeejbhkbdaaDoor.F
open Go.RowKit Go.Proofs.YtpcfpeejbhkbdaaDoorW.PrintWords Go.Proofs.YtpcfpeejbhkbdaaDoorW.PrintLast Go.Proofs.YtpcfpeejbhkbdaaDoorW.PrintMore
set_option linter.unusedVariables false
set_option linter.unusedSimpArgs false
theorem numCuts_pure (b0 : ByteArray) (b1 b2 : Int) (g0 : b0.size ≤ maxLen) (g1 : (Lit.int .i64 b1).wf = true) (g2 : (Lit.int .u64 b2).wf = true) (z0 : b0.size ≤ 140737488351232) (_ : True) (_ : True) :
    ∃ k, interchangelaw01_NumCuts.f k b0 b1 b2 = some true := by
  obtain ⟨m0, m1⟩ := u64_bounds g2
  have hw : IntKind.u64.wrap (b0.size : Int) = b0.size := wrapU (by omega) (by omega)
  -- what Skip tells
  have h1 : ((skipR b0 b2).2.2 == 2) = decide ((b0.size : Int) < b2) := by
    unfold skipR
    by_cases h : (b0.size : Int) < b2
    · rw [if_pos h]; simp [h]
    · rw [if_neg h]; simp [h]
  have h2 : (skipR b0 b2).2.2 = 0 → (skipR b0 b2).1 ++ (skipR b0 b2).2.1 = b0 ∧ ((skipR b0 b2).1.size : Int) = b2 ∧ (skipR b0 b2).1.size + (skipR b0 b2).2.1.size = b0.size := by
    unfold skipR
    by_cases h : (b0.size : Int) < b2
    · rw [if_pos h]; simp
    · rw [if_neg h]
      intro _
      have e : b0.extract 0 b2.toNat ++ b0.extract b2.toNat b0.size = b0 := by rw [extract_take, extract_drop, toBA_append, List.take_append_drop, ← toBA_of]
      refine ⟨e, ?_, ?_⟩
      · simp only [extract_take, toBA_size, List.length_take, size_list]; omega
      · simp only [extract_take, extract_drop, toBA_size, List.length_take, List.length_drop, size_list]; omega
  have tail : (if ((skipR b0 b2).2.2 == 2) == (decide (IntKind.u64.wrap (b0.size : Int) < b2)) then (if (skipR b0 b2).2.2 = 0 then (if (skipR b0 b2).1.size + (skipR b0 b2).2.1.size ≤ 9223372036854775807 then (if ((skipR b0 b2).1 ++ (skipR b0 b2).2.1).toList = b0.toList then (some ((IntKind.u64.wrap (((skipR b0 b2).1.size : Int))) == b2)) else (some false)) else (none)) else (some true)) else (some false)) = some true := by
    rw [hw, h1, if_pos (by simp)]
    by_cases e : (skipR b0 b2).2.2 = 0
    · obtain ⟨p1, p2, p3⟩ := h2 e
      rw [if_pos e, if_pos (by omega), p1, if_pos rfl, wrapU (by omega) (by omega), p2]
      simp
    · rw [if_neg e]
  refine ⟨12, ?_⟩
  unfold interchangelaw01_NumCuts.f interchangelaw01_shown.f
  simp only [Option.bind_some]
  rw [take_k (Nat.le_refl _), skip_at b0 b2 (by omega) m0]
  simp only [Option.bind_some, if_true, tail]
  have t2 : isW b1 → (((takeR b0 b1).2.2 == 2) != (decide ((b0.size : Int) < b1))) = false := by
    intro h
    unfold takeR
    rw [if_pos h]
    by_cases hl : (b0.size : Int) < b1
    · rw [if_pos hl]; simp [hl]
    · rw [if_neg hl]; simp [hl]
  have t1 : ¬ isW b1 → (takeR b0 b1).2.2 = 1 := by
    intro h
    unfold takeR
    rw [if_neg h]
  by_cases e1 : b1 = 1
  · rw [if_pos e1, if_neg (by rw [t2 (.inl e1)]; simp)]
  rw [if_neg e1]
  by_cases e2 : b1 = 2
  · rw [if_pos e2, if_neg (by rw [t2 (.inr (.inl e2))]; simp)]
  rw [if_neg e2]
  by_cases e4 : b1 = 4
  · rw [if_pos e4, if_neg (by rw [t2 (.inr (.inr (.inl e4)))]; simp)]
  rw [if_neg e4]
  by_cases e8 : b1 = 8
  · rw [if_pos e8, if_neg (by rw [t2 (.inr (.inr (.inr e8)))]; simp)]
  rw [if_neg e8, if_pos (t1 (by unfold isW; simp [e1, e2, e4, e8]))]
end Go.Proofs.YtpcfpeejbhkbdaaDoor.F
