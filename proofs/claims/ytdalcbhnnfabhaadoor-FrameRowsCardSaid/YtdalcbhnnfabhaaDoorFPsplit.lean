/- Splitting bytes into frames: plain lists. -/
import Derived.Test.YtdalcbhnnfabhaaDoorFHsplit
import Derived.Test.YtdalcbhnnfabhaaDoorFinterchangeref04Same
namespace Go.Proofs.YtdalcbhnnfabhaaDoor.F
open Go.RowKit Go.Proofs.YtdalcbhnnfabhaaDoorW.PrintWords Go.Proofs.YtdalcbhnnfabhaaDoorW.PrintLast Go.Proofs.YtdalcbhnnfabhaaDoorW.PrintMore
set_option linter.unusedVariables false
set_option linter.unusedSimpArgs false

abbrev Fr := S29
def frB (x : Fr) : List UInt8 := bytesL x.f0 x.f1 x.f2
def frR (x : Fr) : Bool := rightB x.f0 x.f1 x.f2
theorem frB_length (x : Fr) : (frB x).length = x.f2.size + 8 := bytesL_length _ _ _
theorem split_nil (M : Nat) : splitR M (toBA []) = ([], toBA [], 0) := by
  rw [splitR_eq]
  have e : takeL M (toBA []).data.toList = errM := rfl
  rw [e]; rfl
theorem split_cons {M : Nat} {x : Fr} (hr : frR x = true) (hM : x.f2.size + 8 ≤ M) (t : List UInt8) : splitR M (toBA (frB x ++ t)) = (x :: (splitR M (toBA t)).1, (splitR M (toBA t)).2) := by
  rw [splitR_eq, toBA_list]
  have := take_bytes hr hM t
  rw [show frB x ++ t = bytesL x.f0 x.f1 x.f2 ++ t from rfl, this, if_pos rfl]
  rfl
theorem head_app {l t : List UInt8} (h : 0 < l.length) : (l ++ t).headD 1 = l.headD 1 := by
  cases l with
  | nil => simp at h
  | cons b r => rfl
theorem part_app {l t : List UInt8} (i n : Nat) (h : i + n ≤ l.length) : ((l ++ t).drop i).take n = (l.drop i).take n := by
  rw [List.drop_append_of_le_length (by omega), List.take_append_of_le_length (by rw [List.length_drop]; omega)]
theorem one_app {l t : List UInt8} (i : Nat) (h : i < l.length) : ((l ++ t).drop i).headD 0 = (l.drop i).headD 0 := by
  rw [headD_drop _ _ (by rw [List.length_append]; omega), headD_drop _ _ h, List.getElem_append_left h]
/-- What is bad stays bad, whatever comes behind it. -/
theorem bad_app {M : Nat} {l : List UInt8} (h : takeL M l = errF) (t : List UInt8) : takeL M (l ++ t) = errF := by
  have ne : errF ≠ errM := by decide
  unfold takeL at h
  split at h
  · rename_i hk
    have hl : 0 < l.length := by
      cases l with
      | nil => exact absurd hk (by decide)
      | cons b r => simp
    unfold takeL
    rw [head_app hl, if_pos hk]
  split at h
  · exact absurd h.symm ne
  rename_i hk h7
  have q1 := head_app (l := l) (t := t) (by omega)
  have q2 := part_app (l := l) (t := t) 1 2 (by omega)
  have q4 := part_app (l := l) (t := t) 3 4 (by omega)
  have hlen : (l ++ t).length = l.length + t.length := List.length_append
  split at h
  · rename_i hm
    unfold takeL
    rw [q1, q4, if_neg hk, if_neg (by omega), if_pos hm]
  split at h
  · exact absurd h.symm ne
  rename_i hm hn
  unfold takeL
  rw [q1, q2, q4, part_app 7 _ (by omega), one_app _ (by omega), if_neg hk, if_neg (by omega), if_neg hm, if_neg (by omega)]
  split at h
  · rename_i hc
    exact absurd (congrArg (fun x : Took => x.2.2.2.2) h) (show ¬ (0 : Int) = 6 by decide)
  · rename_i hc
    rw [if_neg hc]
theorem took_frame {M : Nat} {l : List UInt8} (h : (takeL M l).2.2.2.2 = 0) : frR (toF (takeL M l)) = true ∧ frB (toF (takeL M l)) ++ (takeL M l).2.2.2.1.data.toList = l ∧ (toF (takeL M l)).f2.size + 8 ≤ M := take_ok h
/-- Bytes in two pieces. -/
theorem split_two (M : Nat) (hM : 4096 ≤ M) (t : List UInt8) : ∀ (n : Nat) (p : ByteArray), p.size ≤ n →
    ((splitR M p).2.2 = 0 → splitR M (toBA (p.data.toList ++ t)) = ((splitR M p).1 ++ (splitR M (toBA ((splitR M p).2.1.data.toList ++ t))).1, (splitR M (toBA ((splitR M p).2.1.data.toList ++ t))).2)) ∧
    ((splitR M p).2.2 ≠ 0 → splitR M (toBA (p.data.toList ++ t)) = splitR M p) ∧ (splitR M p).2.1.size ≤ p.size ∧ (splitR M p).1.length ≤ p.size := by
  intro n
  induction n with
  | zero =>
    intro p hp
    obtain rfl : p = toBA [] := eq_of_list (by rw [toBA_list]; exact List.length_eq_zero_iff.1 (by rw [size_list]; omega))
    rw [split_nil]
    exact ⟨fun _ => by simp [toBA_list], fun h => absurd rfl h, Nat.le_refl _, Nat.le_refl _⟩
  | succ n ih =>
    intro p hp
    by_cases e : (takeL M p.data.toList).2.2.2.2 = 0
    · obtain ⟨hr, hb, hs⟩ := took_frame e
      have hls := take_less e
      obtain ⟨i1, i2, i3, i4⟩ := ih (takeL M p.data.toList).2.2.2.1 (by omega)
      have hp1 : splitR M p = (toF (takeL M p.data.toList) :: (splitR M (takeL M p.data.toList).2.2.2.1).1, (splitR M (takeL M p.data.toList).2.2.2.1).2) := by rw [splitR_eq, if_pos e]
      have hp2 : splitR M (toBA (p.data.toList ++ t)) = (toF (takeL M p.data.toList) :: (splitR M (toBA ((takeL M p.data.toList).2.2.2.1.data.toList ++ t))).1, (splitR M (toBA ((takeL M p.data.toList).2.2.2.1.data.toList ++ t))).2) := by
        rw [← split_cons hr hs, ← List.append_assoc, hb]
      rw [hp2, hp1]
      refine ⟨fun h => ?_, fun h => ?_, by simp only; omega, by simp only [List.length_cons]; omega⟩
      · rw [i1 h]; rfl
      · rw [i2 h]
    · rcases take_bad hM e with h | ⟨h, _⟩
      · have hp1 : splitR M p = ([], ⟨#[]⟩, 6) := by rw [splitR_eq, h]; rfl
        have hp2 : splitR M (toBA (p.data.toList ++ t)) = ([], ⟨#[]⟩, 6) := by rw [splitR_eq, toBA_list, bad_app h]; rfl
        rw [hp1, hp2]
        exact ⟨fun h => absurd h (by decide), fun _ => rfl, Nat.zero_le _, Nat.zero_le _⟩
      · have hp1 : splitR M p = ([], p, 0) := by rw [splitR_eq, h]; rfl
        rw [hp1]
        exact ⟨fun _ => rfl, fun h => absurd rfl h, Nat.le_refl _, Nat.zero_le _⟩
theorem split_size (M : Nat) (p : ByteArray) : (splitR M p).2.1.size ≤ p.size := by
  have : ∀ (n : Nat) (p : ByteArray), p.size ≤ n → (splitR M p).2.1.size ≤ p.size := by
    intro n
    induction n with
    | zero =>
      intro p hp
      obtain rfl : p = toBA [] := eq_of_list (by rw [toBA_list]; exact List.length_eq_zero_iff.1 (by rw [size_list]; omega))
      rw [split_nil]; exact Nat.le_refl _
    | succ n ih =>
      intro p hp
      rw [splitR_eq]
      split
      · rename_i e
        have := take_less e
        have := ih (takeL M p.data.toList).2.2.2.1 (by omega)
        simp only; omega
      · split
        · exact Nat.le_refl _
        · exact Nat.zero_le _
  exact this p.size p (Nat.le_refl _)
/-! ### the same rows -/
theorem rd_get (l : List Fr) (i : Nat) (h : i < l.length) : rd_T29 l (i : Int) = l[i] := by
  unfold rd_T29
  simp [List.getD, h]
theorem same_loop (l : List Fr) (d : Nat) : ∀ (k i : Nat), i + d = l.length → d < k → l.length < 4611686018427387904 → interchangeref04_Same.l0 k l l (i : Int) = some true := by
  induction d with
  | zero =>
    intro k i h hk hl
    obtain ⟨k, rfl⟩ : ∃ j, k = j + 1 := ⟨k - 1, by omega⟩
    simp only [interchangeref04_Same.l0]
    rw [if_neg (by omega)]
  | succ d ih =>
    intro k i h hk hl
    obtain ⟨k, rfl⟩ : ∃ j, k = j + 1 := ⟨k - 1, by omega⟩
    simp only [interchangeref04_Same.l0]
    rw [if_pos (by omega), if_pos (by omega), if_pos (by omega), w_succ (by omega)]
    simp only [BEq.rfl, Bool.not_true, Bool.or_self, Bool.false_eq_true, if_false]
    exact ih k (i + 1) (by omega) (by omega) hl
theorem same_k {k : Nat} (l : List Fr) (hk : l.length < k) (hl : l.length < 4611686018427387904) : interchangeref04_Same.f k l l = some true := by
  unfold interchangeref04_Same.f
  rw [if_pos rfl]
  exact same_loop l l.length k 0 (by omega) hk hl
theorem fsplit_f (s : ByteArray) (hz : s.size ≤ 4294967296) (m : Int) : frame_Split.f s m = some (splitR (mostN m) s) := by
  have h := (split_two (mostN m) (most_lo m) [] s.size s (Nat.le_refl _)).2.2.2
  unfold frame_Split.f; rw [if_pos ⟨by omega, by omega⟩]
theorem fsplit_big (s : ByteArray) (m : Int) (hz : s.size ≤ 4611686018427387904) (hl : (splitR (mostN m) s).1.length ≤ 4398046511104) : frame_Split.f s m = some (splitR (mostN m) s) := by
  unfold frame_Split.f; rw [if_pos ⟨hz, hl⟩]
end Go.Proofs.YtdalcbhnnfabhaaDoor.F
