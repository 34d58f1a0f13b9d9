/- What the reference's TakeBits computes: the same. -/
import Derived.Test.YtpcfpeejbhkbdaaDoorFPtakeBits
import Derived.Test.YtpcfpeejbhkbdaaDoorFinterchangeref01TakeBits
namespace Go.Proofs.YtpcfpeejbhkbdaaDoor.F
open Go.RowKit Go.Proofs.YtpcfpeejbhkbdaaDoorW.PrintWords Go.Proofs.YtpcfpeejbhkbdaaDoorW.PrintLast Go.Proofs.YtpcfpeejbhkbdaaDoorW.PrintMore
set_option linter.unusedVariables false
set_option linter.unusedSimpArgs false

theorem rtb_done (s : ByteArray) (n m : Nat) (hm : m ≤ s.size) (k : Nat) (out : List Bool) : interchangeref01_TakeBits.l1 (k + 1) s n m out m = some (out, s.extract m s.size, 0) := by
  simp only [interchangeref01_TakeBits.l1]
  rw [if_neg (by omega), if_pos (by omega), if_pos (by omega)]
  simp
theorem rtb_byte (s : ByteArray) (n m i : Nat) (hi : i < m) (hm : m ≤ s.size) (k : Nat) (out : List Bool) :
    interchangeref01_TakeBits.l1 (k + 1) s n m out i = interchangeref01_TakeBits.l2 k s n m out i (((bt s (i : Int)).toNat / 2 ^ 0 : Nat) : Int) 0 := by
  simp only [interchangeref01_TakeBits.l1]
  rw [if_pos (by omega), if_pos (by omega), if_pos (by omega)]
  obtain ⟨x, hx, hx8⟩ := bt_nat s (i : Int)
  rw [hx, wrap64_of (by omega) (by omega)]
  simp
theorem rtb_bit (s : ByteArray) (n m i j : Nat) (hn : n ≤ 64) (hi : i < 8) (hj : j < 8) (k : Nat) (out : List Bool) (ho : out.length ≤ 64) :
    interchangeref01_TakeBits.l2 (k + 1) s n m out i (((bt s (i : Int)).toNat / 2 ^ j : Nat) : Int) j =
      if 8 * i + j < n then interchangeref01_TakeBits.l2 k s n m (out ++ [bitAt s (8 * i + j)]) i (((bt s (i : Int)).toNat / 2 ^ (j + 1) : Nat) : Int) (j + 1 : Nat)
      else if bitAt s (8 * i + j) = true then some ([], ⟨#[]⟩, 3) else interchangeref01_TakeBits.l2 k s n m out i (((bt s (i : Int)).toNat / 2 ^ (j + 1) : Nat) : Int) (j + 1 : Nat) := by
  obtain ⟨x, hx, hx8⟩ := bt_nat s (i : Int)
  have hb : bitAt s (8 * i + j) = (x / 2 ^ j % 2 == 1) := by
    unfold bitAt
    have h1 : (8 * i + j) / 8 = i := by omega
    have h2 : (8 * i + j) % 8 = j := by omega
    rw [h1, h2, hx, Int.toNat_natCast]
  rw [hx, Int.toNat_natCast, hb]
  have hle : x / 2 ^ j ≤ x := Nat.div_le_self _ _
  have hs : x / 2 ^ (j + 1) = x / 2 ^ j / 2 := by rw [Nat.pow_succ, Nat.div_div_eq_div_mul]
  rw [hs]
  generalize x / 2 ^ j = y at hle
  have e1 := m_two y
  have e2 := w_half (y := y) (by omega)
  have e3 := w_succ (i := j) (by omega)
  have e4 : wrap64 (wrap64 (8 * (i : Int)) + (j : Int)) = ((8 * i + j : Nat) : Int) := by rw [w_eight (i := i) (Nat.lt_trans hi (by decide)), w_add (Nat.lt_trans (show 8 * i + j < 100 by clear e1 e2 e3; omega) (by decide))]
  simp only [interchangeref01_TakeBits.l2, e1, e2, e3, e4]
  clear e1 e2 e3 e4 hb hs hx
  rw [if_pos (by omega)]
  have e5 : (((y % 2 : Nat) : Int) == 1) = (y % 2 == 1) := by
    rw [Bool.eq_iff_iff, beq_iff_eq, beq_iff_eq]; omega
  rw [e5]
  by_cases hin : 8 * i + j < n
  · rw [if_pos (by omega), if_pos (by omega), if_pos hin]
  · rw [if_neg (by omega), if_neg hin]
    by_cases hy : y % 2 = 1
    · rw [if_pos (by omega), if_pos (by simpa using hy)]
    · rw [if_neg (by omega), if_neg (by simpa using hy)]
theorem rtb_eight (s : ByteArray) (n m i : Nat) (hi : i < 8) (k : Nat) (x : Int) (out : List Bool) : interchangeref01_TakeBits.l2 (k + 1) s n m out i x (8 : Nat) = interchangeref01_TakeBits.l1 k s n m out (i + 1 : Nat) := by
  simp only [interchangeref01_TakeBits.l2]
  rw [if_neg (by omega)]
  have e3 : wrap64 ((i : Int) + 1) = ((i + 1 : Nat) : Int) := by rw [wrap64_of (by omega) (by omega)]; omega
  rw [e3]
theorem rtb_loop (s : ByteArray) (n m : Nat) (hn : n ≤ 64) (hm : m ≤ 8) (hs : m ≤ s.size) (d : Nat) : ∀ (k i j : Nat) (out : List Bool), i < m → j < 8 → 8 * m = 8 * i + j + (d + 1) → out.length ≤ 8 * i + j → 3 * d + 5 < k →
    interchangeref01_TakeBits.l2 k s n m out i (((bt s (i : Int)).toNat / 2 ^ j : Nat) : Int) j = some (scanR s m (scan s n (d + 1) (8 * i + j) out)) := by
  induction d with
  | zero =>
    intro k i j out hi hj hd ho hk
    obtain ⟨k, rfl⟩ : ∃ m, k = m + 1 + 1 + 1 := ⟨k - 3, by omega⟩
    obtain rfl : j = 7 := by omega
    obtain rfl : m = i + 1 := by omega
    have hend : ∀ out x, interchangeref01_TakeBits.l2 (k + 1 + 1) s n ((i + 1 : Nat) : Int) out i x (7 + 1 : Nat) = some (out, s.extract (i + 1) s.size, 0) := fun out x => by
      have h8 : 7 + 1 = 8 := rfl
      rw [h8, rtb_eight s n (i + 1) i (by omega), rtb_done s n (i + 1) hs]
    rw [rtb_bit s n (i + 1) i 7 hn (by omega) (by omega) _ _ (by omega)]
    simp only [scan]
    by_cases hin : 8 * i + 7 < n
    · rw [if_pos hin, if_pos hin, hend]
      rfl
    · rw [if_neg hin, if_neg hin]
      by_cases hb : bitAt s (8 * i + 7) = true
      · rw [if_pos hb, if_pos hb]; rfl
      · rw [if_neg hb, if_neg hb, hend]; rfl
  | succ d ih =>
    intro k i j out hi hj hd ho hk
    obtain ⟨k, rfl⟩ : ∃ m, k = m + 1 + 1 + 1 := ⟨k - 3, by omega⟩
    have next : ∀ out : List Bool, out.length ≤ 8 * i + j + 1 → interchangeref01_TakeBits.l2 (k + 1 + 1) s n m out i (((bt s (i : Int)).toNat / 2 ^ (j + 1) : Nat) : Int) (j + 1 : Nat) = some (scanR s m (scan s n (d + 1) (8 * i + j + 1) out)) := by
      intro out ho
      by_cases h8 : j + 1 < 8
      · exact ih (k + 1 + 1) i (j + 1) out hi h8 (by omega) (by omega) (by omega)
      · obtain rfl : j = 7 := by omega
        have h8' : 7 + 1 = 8 := rfl
        rw [h8', rtb_eight s n m i (by omega), rtb_byte s n m (i + 1) (by omega) hs]
        have := ih k (i + 1) 0 out (by omega) (by omega) (by omega) (by omega) (by omega)
        exact this
    rw [rtb_bit s n m i j hn (by omega) hj _ _ (by omega)]
    simp only [scan]
    by_cases hin : 8 * i + j < n
    · rw [if_pos hin, if_pos hin]
      exact next _ (by rw [List.length_append, List.length_singleton]; omega)
    · rw [if_neg hin, if_neg hin]
      by_cases hb : bitAt s (8 * i + j) = true
      · rw [if_pos hb, if_pos hb]; rfl
      · rw [if_neg hb, if_neg hb]
        exact next _ (by omega)
theorem rtb_many (s : ByteArray) (n : Nat) (hn : n ≤ 64) (d : Nat) : ∀ (k i : Nat), i + d = (n + 7) / 8 → d < k →
    ∃ k', k = k' + d + 1 ∧ interchangeref01_TakeBits.l0 k s n i = (if (s.size : Int) < (((n + 7) / 8 : Nat) : Int) then (some (([] : List Bool), (⟨#[]⟩ : ByteArray), 2)) else interchangeref01_TakeBits.l1 k' s n (((n + 7) / 8 : Nat) : Int) ([] : List Bool) 0) := by
  induction d with
  | zero =>
    intro k i hi hk
    obtain ⟨k, rfl⟩ : ∃ m, k = m + 1 := ⟨k - 1, by omega⟩
    refine ⟨k, rfl, ?_⟩
    simp only [interchangeref01_TakeBits.l0]
    rw [if_neg (by rw [wrap64_of (by omega) (by omega)]; omega)]
    obtain rfl : i = (n + 7) / 8 := by omega
    rfl
  | succ d ih =>
    intro k i hi hk
    obtain ⟨k, rfl⟩ : ∃ m, k = m + 1 := ⟨k - 1, by omega⟩
    obtain ⟨k', h1, h2⟩ := ih k (i + 1) (by omega) (by omega)
    refine ⟨k', by omega, ?_⟩
    simp only [interchangeref01_TakeBits.l0]
    rw [if_pos (by rw [wrap64_of (by omega) (by omega)]; omega)]
    have e3 : wrap64 ((i : Int) + 1) = ((i + 1 : Nat) : Int) := by rw [wrap64_of (by omega) (by omega)]; omega
    rw [e3]
    exact h2
theorem rtb_at (s : ByteArray) (n : Int) : interchangeref01_TakeBits.f 240 s n = some (takeBitsR s n) := by
  unfold interchangeref01_TakeBits.f takeBitsR
  by_cases hn : n < 0
  · rw [if_pos hn, if_pos (.inl hn)]
    simp [interchangeref01_TakeBits.j0]
  · rw [if_neg hn]
    by_cases h64 : n > 64
    · rw [if_pos (.inr h64)]
      simp [interchangeref01_TakeBits.j0, h64]
    · rw [if_neg (by omega)]
      obtain ⟨m, rfl⟩ := Int.eq_ofNat_of_zero_le (show 0 ≤ n by omega)
      simp only [interchangeref01_TakeBits.j0, Int.toNat_natCast]
      rw [if_neg (by simpa using h64)]
      obtain ⟨k', h1, h2⟩ := rtb_many s m (by omega) ((m + 7) / 8) 239 0 (by omega) (by omega)
      refine h2.trans ?_
      by_cases hs : s.size < (m + 7) / 8
      · rw [if_pos (by omega), if_pos hs]
      · rw [if_neg (by omega), if_neg hs]
        obtain ⟨k', rfl⟩ : ∃ j, k' = j + 1 := ⟨k' - 1, by omega⟩
        by_cases h0 : (m + 7) / 8 = 0
        · obtain rfl : m = 0 := by omega
          have := rtb_done s 0 0 (by omega) k' []
          simpa [scan] using this
        · have e0 := rtb_byte s m ((m + 7) / 8) 0 (by omega) (by omega) k' []
          refine e0.trans ?_
          obtain ⟨d, hd⟩ : ∃ d, 8 * ((m + 7) / 8) = d + 1 := ⟨8 * ((m + 7) / 8) - 1, by omega⟩
          have := rtb_loop s m ((m + 7) / 8) (by omega) (by omega) (by omega) d k' 0 0 [] (by omega) (by omega) (by omega) (by simp) (by omega)
          refine this.trans ?_
          rw [hd]
          unfold scanR
          cases scan s m (d + 1) (8 * 0 + 0) [] <;> rfl
theorem rtb_k {k : Nat} (hk : 240 ≤ k) (s : ByteArray) (n : Int) : interchangeref01_TakeBits.f k s n = some (takeBitsR s n) := at_rounds (interchangeref01_TakeBits.mono s n) hk (rtb_at s n)
end Go.Proofs.YtpcfpeejbhkbdaaDoor.F
