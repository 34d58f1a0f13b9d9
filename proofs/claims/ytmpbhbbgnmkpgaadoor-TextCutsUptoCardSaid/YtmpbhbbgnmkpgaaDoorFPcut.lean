/- What is cut into pieces: plain lists. -/
import Derived.Test.YtmpbhbbgnmkpgaaDoorFHcut
namespace Go.Proofs.YtmpbhbbgnmkpgaaDoor.F
open Go.RowKit Go.Proofs.YtmpbhbbgnmkpgaaDoorW.PrintWords Go.Proofs.YtmpbhbbgnmkpgaaDoorW.PrintLast Go.Proofs.YtmpbhbbgnmkpgaaDoorW.PrintMore
set_option linter.unusedVariables false
set_option linter.unusedSimpArgs false
def joinL (l : List ByteArray) : List UInt8 := (l.map fun p => p.data.toList).flatten
theorem cut_all {m : Nat} (hm : 1 ≤ m) : ∀ (n : Nat) (s : ByteArray), s.size ≤ n → joinL (cutR m s) = s.data.toList ∧ (∀ p ∈ cutR m s, p.size ≤ m ∧ p.size ≠ 0) ∧ (cutR m s).length ≤ s.size ∧ (∀ (i : Nat) (h : i < (cutR m s).length), i + 1 < (cutR m s).length → (cutR m s)[i].size = m) := by
  intro n
  induction n with
  | zero =>
    intro s hs
    have e : s.size = 0 := by omega
    have hl : s.data.toList = [] := List.length_eq_zero_iff.1 (by rw [size_list]; exact e)
    rw [cutR_eq hm, if_pos e]
    exact ⟨by rw [hl]; rfl, by simp, Nat.zero_le _, by simp⟩
  | succ n ih =>
    intro s hs
    by_cases e : s.size = 0
    · have hl : s.data.toList = [] := List.length_eq_zero_iff.1 (by rw [size_list]; exact e)
      rw [cutR_eq hm, if_pos e]
      exact ⟨by rw [hl]; rfl, by simp, Nat.zero_le _, by simp⟩
    · obtain ⟨i1, i2, i3, i4⟩ := ih (s.extract (min m s.size) s.size) (by rw [rest_size]; omega)
      have hp : (s.extract 0 (min m s.size)).size = min m s.size := by rw [extract_take, toBA_size, List.length_take, size_list]; omega
      rw [rest_size] at i3
      rw [cutR_eq hm s, if_neg e]
      refine ⟨?_, ?_, by rw [List.length_cons]; omega, ?_⟩
      · show (s.extract 0 (min m s.size)).data.toList ++ joinL (cutR m (s.extract (min m s.size) s.size)) = _
        rw [i1, extract_take, toBA_list, extract_drop, toBA_list, List.take_append_drop]
      · intro p hp'
        rcases List.mem_cons.1 hp' with rfl | h
        · rw [hp]; omega
        · exact i2 p h
      · intro i h h2
        cases i with
        | zero =>
          rw [List.getElem_cons_zero, hp]
          rw [List.length_cons] at h2
          omega
        | succ i =>
          rw [List.getElem_cons_succ]
          exact i4 i (by simpa using h) (by simpa using h2)
theorem cut_f (s : ByteArray) (n : Int) (hs : s.size ≤ 4294967296) (hn : n ≤ 9223372036854775807) : text_Cut.f s n = some (cutR (cutM n) s) := by unfold text_Cut.f; rw [if_pos ⟨hs, hn⟩]
theorem cutM_pos (n : Int) : 1 ≤ cutM n := by unfold cutM; split <;> omega
theorem rdS_get (l : List ByteArray) (i : Nat) (h : i < l.length) : rdOf ByteArray.empty l (i : Int) = l[i] := by
  unfold rdOf; simp [List.getD, h]
theorem joinL_append (a b : List ByteArray) : joinL (a ++ b) = joinL a ++ joinL b := by simp [joinL]
theorem joinL_take (l : List ByteArray) (i : Nat) : (joinL (l.take i)).length ≤ (joinL l).length := by
  conv => rhs; rw [← List.take_append_drop i l, joinL_append, List.length_append]
  omega
end Go.Proofs.YtmpbhbbgnmkpgaaDoor.F
