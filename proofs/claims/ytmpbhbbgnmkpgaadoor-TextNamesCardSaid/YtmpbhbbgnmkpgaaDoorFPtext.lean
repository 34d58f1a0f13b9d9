/- Texts laid and taken: plain lists. -/
import Derived.Test.YtmpbhbbgnmkpgaaDoorFPback
namespace Go.Proofs.YtmpbhbbgnmkpgaaDoor.F
open Go.RowKit Go.Proofs.YtmpbhbbgnmkpgaaDoorW.PrintWords Go.Proofs.YtmpbhbbgnmkpgaaDoorW.PrintLast Go.Proofs.YtmpbhbbgnmkpgaaDoorW.PrintMore
set_option linter.unusedVariables false
set_option linter.unusedSimpArgs false

def layR (n : Int) (s : ByteArray) : ByteArray × Int := if (putR n s.size).2 = 0 then ((putR n s.size).1 ++ s, 0) else (⟨#[]⟩, (putR n s.size).2)
def ltakeR (n : Int) (s : ByteArray) : ByteArray × ByteArray × Int :=
  if (takeR s n).2.2 = 0 then (if (takeR s n).1 ≤ ((takeR s n).2.1.size : Int) then ((takeR s n).2.1.extract 0 (takeR s n).1.toNat, (takeR s n).2.1.extract (takeR s n).1.toNat (takeR s n).2.1.size, 0) else (⟨#[]⟩, ⟨#[]⟩, 2)) else (⟨#[]⟩, ⟨#[]⟩, (takeR s n).2.2)
theorem tup3 {α β γ : Type} {T : α × β × γ} {a : α} {b : β} {c : γ} (h : T = (a, b, c)) : T.1 = a ∧ T.2.1 = b ∧ T.2.2 = c := by subst h; exact ⟨rfl, rfl, rfl⟩
theorem app_empty (a : ByteArray) : a ++ ⟨#[]⟩ = a := eq_of_list (by rw [append_data]; simp)
theorem app_assoc (a b c : ByteArray) : a ++ b ++ c = a ++ (b ++ c) := eq_of_list (by simp only [append_data, List.append_assoc])
theorem extract_app_left (a b : ByteArray) : (a ++ b).extract 0 a.size = a := by
  rw [extract_take, append_data, ← size_list, List.take_append_of_le_length (Nat.le_refl _), List.take_of_length_le (Nat.le_refl _), ← toBA_of]
theorem extract_app_right (a b : ByteArray) : (a ++ b).extract a.size (a ++ b).size = b := by
  rw [extract_drop, append_data, ← size_list, List.drop_append_of_le_length (Nat.le_refl _), List.drop_of_length_le (Nat.le_refl _), List.nil_append, ← toBA_of]
theorem extract_join (a : ByteArray) (n : Nat) (h : n ≤ a.size) : a.extract 0 n ++ a.extract n a.size = a := by
  rw [extract_take, extract_drop, toBA_append, List.take_append_drop, ← toBA_of]
theorem extract_size (a : ByteArray) (n : Nat) (h : n ≤ a.size) : (a.extract 0 n).size = n := by
  rw [extract_take, toBA_size, List.length_take, size_list]; omega
theorem extract_size' (a : ByteArray) (n : Nat) : (a.extract n a.size).size = a.size - n := by
  rw [extract_drop, toBA_size, List.length_drop, size_list]
theorem lay_take {n : Int} {s : ByteArray} (more : ByteArray) (h : (layR n s).2 = 0) : ltakeR n ((layR n s).1 ++ more) = (s, more, 0) := by
  unfold layR at h ⊢
  by_cases e : (putR n s.size).2 = 0
  · rw [if_pos e]
    obtain ⟨hw, hv, hp⟩ := put_ok e
    have ht := take_put (s ++ more) hw (by omega) hv
    simp only
    rw [hp, app_assoc]
    unfold ltakeR
    rw [ht]
    simp only
    rw [if_pos trivial, if_pos (by rw [size_append]; omega), Int.toNat_natCast, extract_app_left, extract_app_right]
  · rw [if_neg e] at h
    exact absurd h e
theorem take_lay {n : Int} {t : ByteArray} (h : (ltakeR n t).2.2 = 0) : (layR n (ltakeR n t).1).2 = 0 ∧ (layR n (ltakeR n t).1).1 ++ (ltakeR n t).2.1 = t := by
  by_cases e : (takeR t n).2.2 = 0
  · by_cases l : (takeR t n).1 ≤ ((takeR t n).2.1.size : Int)
    · obtain ⟨h1, h2⟩ := put_take e
      have hb := (take_bound t n).1
      have hlt : ltakeR n t = ((takeR t n).2.1.extract 0 (takeR t n).1.toNat, (takeR t n).2.1.extract (takeR t n).1.toNat (takeR t n).2.1.size, 0) := by
        unfold ltakeR; rw [if_pos e, if_pos l]
      rw [hlt]
      simp only
      have hs : (((takeR t n).2.1.extract 0 (takeR t n).1.toNat).size : Int) = (takeR t n).1 := by rw [extract_size _ _ (by omega)]; omega
      unfold layR
      rw [hs, h1]
      simp only
      rw [if_pos trivial]
      simp only
      refine ⟨trivial, ?_⟩
      rw [app_assoc, extract_join _ _ (by omega), h2]
    · unfold ltakeR at h
      rw [if_pos e, if_neg l] at h
      exact absurd h (by decide)
  · unfold ltakeR at h
    rw [if_neg e] at h
    exact absurd h e
theorem lay_ok {n : Int} {s : ByteArray} (hn : isW n) (hs : (s.size : Int) < 256 ^ n.toNat) : layR n s = (toBA (be n.toNat s.size) ++ s, 0) := by
  have hp : putR n s.size = (toBA (be n.toNat s.size), 0) := by
    unfold putR; rw [if_pos hn, if_pos hs, Int.toNat_natCast]
  unfold layR
  rw [hp]
  rfl
theorem lay_bad {n : Int} {s : ByteArray} (hn : isW n) (hs : ¬ (s.size : Int) < 256 ^ n.toNat) : layR n s = (⟨#[]⟩, 4) := by
  have hp : putR n s.size = (⟨#[]⟩, 4) := by
    unfold putR; rw [if_pos hn, if_neg hs]
  unfold layR
  rw [hp]
  rfl
theorem isW1 : isW 1 := .inl rfl
theorem isW4 : isW 4 := .inr (.inr (.inl rfl))
theorem short_ok {s : ByteArray} (h : s.size ≤ 255) : layR 1 s = (toBA (be 1 s.size) ++ s, 0) := lay_ok isW1 (by show (s.size : Int) < 256; omega)
theorem short_bad {s : ByteArray} (h : ¬ s.size ≤ 255) : layR 1 s = (⟨#[]⟩, 4) := lay_bad isW1 (by show ¬ (s.size : Int) < 256; omega)
theorem long_ok {s : ByteArray} (h : s.size ≤ 4294967295) : layR 4 s = (toBA (be 4 s.size) ++ s, 0) := lay_ok isW4 (by show (s.size : Int) < 4294967296; omega)
theorem long_bad {s : ByteArray} (h : ¬ s.size ≤ 4294967295) : layR 4 s = (⟨#[]⟩, 4) := lay_bad isW4 (by show ¬ (s.size : Int) < 4294967296; omega)
theorem short_iff (s : ByteArray) : (layR 1 s).2 = 0 ↔ s.size ≤ 255 := by
  by_cases h : s.size ≤ 255
  · rw [short_ok h]; simp [h]
  · rw [short_bad h]; simp [h]
theorem long_zero {s : ByteArray} (h : s.size ≤ 4294967295) : (layR 4 s).2 = 0 := by rw [long_ok h]
theorem short_size {s : ByteArray} (h : s.size ≤ 255) : (layR 1 s).1.size = s.size + 1 := by rw [short_ok h, size_append, toBA_size, be_length]; omega
theorem long_size {s : ByteArray} (h : s.size ≤ 4294967295) : (layR 4 s).1.size = s.size + 4 := by rw [long_ok h, size_append, toBA_size, be_length]; omega
theorem lay_size (n : Int) (s : ByteArray) : (layR n s).1.size ≤ s.size + 8 := by
  unfold layR
  split
  · have := put_size n s.size
    rw [size_append]; omega
  · exact Nat.zero_le _
theorem ltake_size (n : Int) (t : ByteArray) : (ltakeR n t).1.size ≤ t.size ∧ (ltakeR n t).2.1.size ≤ t.size := by
  have h := take_rest t n
  have hb := (take_bound t n).1
  unfold ltakeR
  split
  · split
    · simp only
      rw [extract_size _ _ (by omega), extract_size']
      omega
    · exact ⟨Nat.zero_le _, Nat.zero_le _⟩
  · exact ⟨Nat.zero_le _, Nat.zero_le _⟩
end Go.Proofs.YtmpbhbbgnmkpgaaDoor.F
