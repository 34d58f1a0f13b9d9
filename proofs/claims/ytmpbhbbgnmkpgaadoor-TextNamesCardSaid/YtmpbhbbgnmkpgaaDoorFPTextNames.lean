/- The pure statement of TextNames. -/
import Derived.Test.YtmpbhbbgnmkpgaaDoorFPshown02
import Derived.Test.YtmpbhbbgnmkpgaaDoorFHname
import Derived.Test.YtmpbhbbgnmkpgaaDoorFinterchangelaw02TextNames
namespace Go.Proofs.YtmpbhbbgnmkpgaaDoor.F
open Go.RowKit Go.Proofs.YtmpbhbbgnmkpgaaDoorW.PrintWords Go.Proofs.YtmpbhbbgnmkpgaaDoorW.PrintLast Go.Proofs.YtmpbhbbgnmkpgaaDoorW.PrintMore
set_option linter.unusedVariables false
set_option linter.unusedSimpArgs false
theorem name_f (s : ByteArray) (h : s.size ≤ 4611686018427387904) : text_Name.f s = some (nameB s) := by unfold text_Name.f; rw [if_pos h]
theorem name_app (a b : ByteArray) (ha : nameB a = true) (hb : nameB b = true) : nameB (a ++ b) = decide (a.size + b.size ≤ 127) := by
  unfold nameB at ha hb ⊢
  rw [Bool.and_eq_true] at ha hb
  rw [append_data, List.all_append, ha.1, hb.1, size_append]; rfl
theorem name_mid (a b : ByteArray) (c : UInt8) (hc : mayC c = false) : nameB ((a ++ ⟨#[c]⟩) ++ b) = false := by
  unfold nameB
  rw [append_data, append_data, List.all_append, List.all_append]
  show ((a.data.toList.all mayC && [c].all mayC) && b.data.toList.all mayC && _) = false
  simp [hc]
theorem names_j0 {k : Nat} (hk : 1 ≤ k) (a b : ByteArray) (ha : a.size ≤ 140737488351232) (hb : b.size ≤ 140737488351232) : interchangelaw02_TextNames.j0 k a b true false = some true := by
  obtain ⟨k, rfl⟩ : ∃ j, k = j + 1 := ⟨k - 1, by omega⟩
  have e1 : ∀ c : UInt8, (⟨#[c]⟩ : ByteArray).size = 1 := fun _ => rfl
  have m : ∀ c : UInt8, ((a ++ ⟨#[c]⟩) ++ b).size ≤ 4611686018427387904 := fun c => by rw [size_append, size_append, e1]; omega
  simp only [interchangelaw02_TextNames.j0]
  rw [if_neg (by decide), if_pos trivial, if_pos (by omega), if_pos (by rw [size_append, e1]; omega), name_f _ (m _), Option.bind_some, name_mid _ _ _ (by decide), if_neg (by decide),
    if_pos (by rw [size_append, e1]; omega), name_f _ (m _), Option.bind_some, name_mid _ _ _ (by decide), if_neg (by decide),
    if_pos (by rw [size_append, e1]; omega), name_f _ (m _), Option.bind_some, name_mid _ _ _ (by decide)]
  rfl
theorem textNames_pure (b0 b1 : ByteArray) (g0 : b0.size ≤ maxLen) (g1 : b1.size ≤ maxLen) (z0 : b0.size ≤ 140737488351232) (z1 : b1.size ≤ 140737488351232) : ∃ k, interchangelaw02_TextNames.f k b0 b1 = some true := by
  obtain ⟨k, hk⟩ : ∃ k : Nat, 100 ≤ k := ⟨100, Nat.le_refl _⟩
  refine ⟨k, ?_⟩
  have hj := names_j0 (k := k) (by omega) b0 b1 (by omega) (by omega)
  unfold interchangelaw02_TextNames.f
  rw [shown_k (by omega), Option.bind_some, name_f b0 (by omega), Option.bind_some, name_f b1 (by omega), Option.bind_some]
  by_cases h0 : nameB b0 = true
  · by_cases h1 : nameB b1 = true
    · have hw : wrap64 ((b0.size : Int) + (b1.size : Int)) = (b0.size : Int) + (b1.size : Int) := by unfold wrap64; omega
      have hd : (decide (b0.size + b1.size ≤ 127) != decide ((b0.size : Int) + (b1.size : Int) ≤ 127)) = false := by
        rw [bne_eq_false_iff_eq]; exact decide_eq_decide.2 (by omega)
      rw [if_pos h0, if_pos h1, if_pos (by omega), name_f _ (by rw [size_append]; omega), Option.bind_some, name_app _ _ h0 h1, hw, hd, hj]
    · rw [if_pos h0, if_neg h1, hj]
  · rw [if_neg h0, hj]
end Go.Proofs.YtmpbhbbgnmkpgaaDoor.F
