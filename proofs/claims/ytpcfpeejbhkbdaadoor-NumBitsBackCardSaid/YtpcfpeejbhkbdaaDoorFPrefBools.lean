/- What the reference's Bools computes: are two rows the same. -/
import Derived.Test.YtpcfpeejbhkbdaaDoorFPcore
import Derived.Test.YtpcfpeejbhkbdaaDoorFinterchangeref01Bools
namespace Go.Proofs.YtpcfpeejbhkbdaaDoor.F
open Go.RowKit Go.Proofs.YtpcfpeejbhkbdaaDoorW.PrintWords Go.Proofs.YtpcfpeejbhkbdaaDoorW.PrintLast Go.Proofs.YtpcfpeejbhkbdaaDoorW.PrintMore
set_option linter.unusedVariables false
set_option linter.unusedSimpArgs false
theorem bools_loop (a b : List Bool) (h : a.length = b.length) (hm : a.length ≤ 140737488355328) (d : Nat) : ∀ (k i : Nat), i + d = a.length → d < k →
    interchangeref01_Bools.l0 k a b i = some (decide (a.drop i = b.drop i)) := by
  induction d with
  | zero =>
    intro k i hi hk
    obtain ⟨k, rfl⟩ : ∃ m, k = m + 1 := ⟨k - 1, by omega⟩
    simp only [interchangeref01_Bools.l0]
    rw [if_neg (by omega), List.drop_of_length_le (by omega), List.drop_of_length_le (by omega)]
    simp
  | succ d ih =>
    intro k i hi hk
    obtain ⟨k, rfl⟩ : ∃ m, k = m + 1 := ⟨k - 1, by omega⟩
    simp only [interchangeref01_Bools.l0]
    rw [if_pos (by omega), if_pos (by omega), if_pos (by omega), w_succ (Nat.lt_of_le_of_lt (show i ≤ 140737488355328 by omega) (by decide)), ih k (i + 1) (by omega) (by omega)]
    have ha : rdOf false a (i : Int) = a[i]'(by omega) := by
      show a.getD i false = _
      rw [List.getD_eq_getElem?_getD, List.getElem?_eq_getElem (by omega)]; rfl
    have hb : rdOf false b (i : Int) = b[i]'(by omega) := by
      show b.getD i false = _
      rw [List.getD_eq_getElem?_getD, List.getElem?_eq_getElem (by omega)]; rfl
    rw [ha, hb, List.drop_eq_getElem_cons (l := a) (i := i) (by omega), List.drop_eq_getElem_cons (l := b) (i := i) (by omega)]
    by_cases he : a[i]'(by omega) = b[i]'(by omega)
    · rw [if_neg (by simpa using he)]
      simp only [List.cons.injEq, he, true_and]
    · rw [if_pos (by simpa using he)]
      simp only [List.cons.injEq, he, false_and, decide_false]
theorem bools_k {k : Nat} (a b : List Bool) (hm : a.length ≤ 140737488355328) (hk : a.length < k) : interchangeref01_Bools.f k a b = some (decide (a = b)) := by
  unfold interchangeref01_Bools.f
  by_cases h : a.length = b.length
  · rw [if_pos (by omega)]
    exact bools_loop a b h hm a.length k 0 (by omega) hk
  · rw [if_neg (by omega)]
    have : ¬ a = b := fun e => h (by rw [e])
    simp [this]
end Go.Proofs.YtpcfpeejbhkbdaaDoor.F
