/- frame.Split: a range over the iterator that frame.frames makes: the parts' contracts. -/
import Derived.Test.YtdalcbhnnfabhaaDoorFHrange
import Derived.Test.YtdalcbhnnfabhaaDoorFPframeBack
import Derived.WalkKit
namespace Go.Proofs.YtdalcbhnnfabhaaDoor.F
open Go.RowKit Go.Proofs.YtdalcbhnnfabhaaDoorW.PrintWords Go.Proofs.YtdalcbhnnfabhaaDoorW.PrintLast Go.Proofs.YtdalcbhnnfabhaaDoorW.PrintMore
set_option linter.unusedVariables false
set_option linter.unusedSimpArgs false

theorem frames_calls (s : ByteArray) (most : Int) (fv : Fn) (b1 b2 : Array Value) (w : World) :
    Calls Tryd.prog 29 #[.string s, .int .i64 most, .func fv b1 b2] w fun e w' =>
      e = .returned (.func (.func 34) #[] #[.pointer (some ⟨w.heap.size, 0, none⟩), .pointer (some ⟨w.heap.size + 1, 0, none⟩), .pointer (some ⟨w.heap.size + 2, 0, none⟩)]) ∧
      w' = ((w.alloc (.cells #[.string s] 9)).alloc (.cells #[.int .i64 most] 3)).alloc (.cells #[.func fv b1 b2] 57) := by
  go_enter Tryd.func29, Tryd.ntmps29
  go_wp2
  go_ret
  exact ⟨by simp, rfl⟩
theorem splitEnd_calls (s : ByteArray) (e : Int) (B7 B8 : Nat) (v7 v8 : Value) (w : World) (h7 : Boxed w B7 9 v7) (h8 : Boxed w B8 24 v8) :
    Calls Tryd.prog 28 #[.string s, .int .i64 e, .pointer (some ⟨B7, 0, none⟩), .pointer (some ⟨B8, 0, none⟩)] w fun en w' => (∃ v, en = .returned v) ∧
      w' = if e = 2 then w.setCell ⟨B7, 0, none⟩ (.string s) else w.setCell ⟨B8, 0, none⟩ (.int .i64 e) := by
  have c7 := h7.cell
  have c8 := h8.cell
  have f7 := h7.frozen
  have f8 := h8.frozen
  go_enter Tryd.func28, Tryd.ntmps28
  by_cases he : e = 2
  · subst he
    go_wp2
    go_end0
    exact ⟨⟨_, rfl⟩, rfl⟩
  · have he' : (e == 2) = false := by simp [he]
    go_wp2
    go_end0
    exact ⟨⟨_, rfl⟩, rfl⟩

/-! ### what is split, by definition -/
abbrev Splitted := List S29 × ByteArray × Int
def toF (t : Took) : S29 := ⟨t.1, t.2.1, t.2.2.1⟩
def splitN (M : Nat) : Nat → ByteArray → Splitted
  | 0, _ => ([], ⟨#[]⟩, 0)
  | k + 1, s => let t := takeL M s.data.toList
    if t.2.2.2.2 = 0 then (toF t :: (splitN M k t.2.2.2.1).1, (splitN M k t.2.2.2.1).2) else if t.2.2.2.2 = 2 then ([], s, 0) else ([], ⟨#[]⟩, t.2.2.2.2)
def splitR (M : Nat) (s : ByteArray) : Splitted := splitN M (s.size + 1) s
theorem take_less {M : Nat} {s : ByteArray} (h : (takeL M s.data.toList).2.2.2.2 = 0) : (takeL M s.data.toList).2.2.2.1.size + 8 ≤ s.size := by
  obtain ⟨_, hb, _⟩ := take_ok h
  have hl := congrArg List.length hb
  rw [List.length_append, bytesL_length, size_list, size_list] at hl
  omega
theorem splitN_fuel (M : Nat) : ∀ (k j : Nat) (s : ByteArray), s.size < k → s.size < j → splitN M k s = splitN M j s := by
  intro k
  induction k with
  | zero => intro j s h; omega
  | succ k ih =>
    intro j s hk hj
    obtain ⟨j, rfl⟩ : ∃ i, j = i + 1 := ⟨j - 1, by omega⟩
    simp only [splitN]
    by_cases e : (takeL M s.data.toList).2.2.2.2 = 0
    · have := take_less e
      rw [if_pos e, if_pos e, ih j _ (by omega) (by omega)]
    · rw [if_neg e, if_neg e]
theorem splitN_succ (M k : Nat) (s : ByteArray) : splitN M (k + 1) s = if (takeL M s.data.toList).2.2.2.2 = 0 then (toF (takeL M s.data.toList) :: (splitN M k (takeL M s.data.toList).2.2.2.1).1, (splitN M k (takeL M s.data.toList).2.2.2.1).2)
    else if (takeL M s.data.toList).2.2.2.2 = 2 then ([], s, 0) else ([], ⟨#[]⟩, (takeL M s.data.toList).2.2.2.2) := rfl
theorem splitR_eq (M : Nat) (s : ByteArray) : splitR M s = if (takeL M s.data.toList).2.2.2.2 = 0 then (toF (takeL M s.data.toList) :: (splitR M (takeL M s.data.toList).2.2.2.1).1, (splitR M (takeL M s.data.toList).2.2.2.1).2)
    else if (takeL M s.data.toList).2.2.2.2 = 2 then ([], s, 0) else ([], ⟨#[]⟩, (takeL M s.data.toList).2.2.2.2) := by
  unfold splitR
  rw [splitN_succ M s.size s]
  by_cases e : (takeL M s.data.toList).2.2.2.2 = 0
  · have := take_less e
    rw [if_pos e, if_pos e, splitN_fuel M s.size ((takeL M s.data.toList).2.2.2.1.size + 1) _ (by omega) (by omega)]
  · rw [if_neg e, if_neg e]
end Go.Proofs.YtdalcbhnnfabhaaDoor.F
