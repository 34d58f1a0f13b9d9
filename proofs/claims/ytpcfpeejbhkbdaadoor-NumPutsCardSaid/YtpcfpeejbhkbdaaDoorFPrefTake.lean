/- What the reference's Take computes: the same. -/
import Derived.Test.YtpcfpeejbhkbdaaDoorFPnumTake
import Derived.Test.YtpcfpeejbhkbdaaDoorFinterchangeref01Take
namespace Go.Proofs.YtpcfpeejbhkbdaaDoor.F
open Go.RowKit Go.Proofs.YtpcfpeejbhkbdaaDoorW.PrintWords Go.Proofs.YtpcfpeejbhkbdaaDoorW.PrintLast Go.Proofs.YtpcfpeejbhkbdaaDoorW.PrintMore
set_option linter.unusedVariables false
set_option linter.unusedSimpArgs false

theorem rtake_loop (s : ByteArray) (n : Nat) (hn : n ≤ 8) (hs : n ≤ s.size) (d : Nat) : ∀ (k i : Nat), n = i + d → d < k →
    interchangeref01_Take.l0 k s n ((beNum (s.data.toList.take i) : Nat) : Int) i = some (((beNum (s.data.toList.take n) : Nat) : Int), s.extract n s.size, 0) := by
  induction d with
  | zero =>
    intro k i hi hk
    obtain ⟨k, rfl⟩ : ∃ m, k = m + 1 := ⟨k - 1, by omega⟩
    obtain rfl : n = i := by omega
    simp only [interchangeref01_Take.l0]
    rw [if_neg (by omega), if_pos (by omega), if_pos (by omega)]
    simp
  | succ d ih =>
    intro k i hi hk
    obtain ⟨k, rfl⟩ : ∃ m, k = m + 1 := ⟨k - 1, by omega⟩
    simp only [interchangeref01_Take.l0]
    rw [if_pos (by omega), if_pos (by omega), if_pos (by omega), bt_get s i (by omega)]
    have hx : beNum (s.data.toList.take i) < 72057594037927936 := by
      have h1 := beNum_lt (s.data.toList.take i)
      have h2 : (s.data.toList.take i).length ≤ 7 := by rw [List.length_take]; omega
      have h3 : 256 ^ (s.data.toList.take i).length ≤ 256 ^ 7 := Nat.pow_le_pow_right (by decide) h2
      omega
    have hb := (s.data.toList[i]'(by simp only [Array.length_toList]; show i < s.size; omega)).toNat_lt
    rw [wrapU (x := 256 * _) (by omega) (by omega), wrapU (x := ((s.data.toList[i]'(by simp only [Array.length_toList]; show i < s.size; omega)).toNat : Int)) (by omega) (by omega), wrapU (by omega) (by omega)]
    have e3 : wrap64 ((i : Int) + 1) = ((i + 1 : Nat) : Int) := by rw [wrap64_of (by omega) (by omega)]; omega
    have e4 : (256 * ((beNum (s.data.toList.take i) : Nat) : Int) + ((s.data.toList[i]'(by simp only [Array.length_toList]; show i < s.size; omega)).toNat : Int)) = ((beNum (s.data.toList.take (i + 1)) : Nat) : Int) := by
      rw [take_succ_num s i (by omega)]; omega
    rw [e3, e4]
    exact ih k (i + 1) (by omega) (by omega)
theorem rtake_flag (k : Nat) (s : ByteArray) (a0 : Int) : interchangeref01_Take.f k s a0 = interchangeref01_Take.j0 k s a0 (decide (¬ isW a0)) := by
  unfold interchangeref01_Take.f isW
  by_cases h1 : a0 = 1
  · rw [if_pos h1]; simp [h1]
  by_cases h2 : a0 = 2
  · rw [if_neg h1, if_pos h2]; simp [h2]
  by_cases h4 : a0 = 4
  · rw [if_neg h1, if_neg h2, if_pos h4]; simp [h4]
  rw [if_neg h1, if_neg h2, if_neg h4]
  by_cases h8 : a0 = 8
  · simp [h8]
  · have : (a0 != 8) = true := by simp [h8]
    rw [this]
    simp [h1, h2, h4, h8]
theorem rtake_at (s : ByteArray) (n : Int) : interchangeref01_Take.f 11 s n = some (takeR s n) := by
  rw [rtake_flag]
  unfold takeR
  simp only [interchangeref01_Take.j0]
  by_cases hw : isW n
  · rw [if_pos hw, if_neg (by simp [hw])]
    by_cases hl : (s.size : Int) < n
    · rw [if_pos hl, if_pos hl]
    · rw [if_neg hl, if_neg hl]
      obtain ⟨m, rfl⟩ : ∃ m : Nat, n = m := ⟨n.toNat, by rcases hw with h | h | h | h <;> omega⟩
      have hm : m ≤ 8 := by rcases hw with h | h | h | h <;> omega
      have := rtake_loop s m hm (by omega) m 10 0 (by omega) (by omega)
      simpa [beNum] using this
  · rw [if_neg hw, if_pos (by simp [hw])]
theorem rtake_ev (s : ByteArray) (n : Int) : Ev (fun k => interchangeref01_Take.f k s n) (takeR s n) := Ev.of (interchangeref01_Take.mono s n) (rtake_at s n)
theorem rtake_k {k : Nat} (hk : 12 ≤ k) (s : ByteArray) (n : Int) : interchangeref01_Take.f k s n = some (takeR s n) := at_rounds (interchangeref01_Take.mono s n) (Nat.le_trans (by decide) hk) (rtake_at s n)
end Go.Proofs.YtpcfpeejbhkbdaaDoor.F
