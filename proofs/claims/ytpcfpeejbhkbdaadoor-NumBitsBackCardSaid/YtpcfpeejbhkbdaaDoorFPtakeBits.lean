/- What num.TakeBits computes. -/
import Derived.Test.YtpcfpeejbhkbdaaDoorFPbits
import Derived.Test.YtpcfpeejbhkbdaaDoorFnumTakeBits
namespace Go.Proofs.YtpcfpeejbhkbdaaDoor.F
open Go.RowKit Go.Proofs.YtpcfpeejbhkbdaaDoorW.PrintWords Go.Proofs.YtpcfpeejbhkbdaaDoorW.PrintLast Go.Proofs.YtpcfpeejbhkbdaaDoorW.PrintMore
set_option linter.unusedVariables false
set_option linter.unusedSimpArgs false

def scanR (s : ByteArray) (many : Nat) (r : Option (List Bool)) : List Bool × ByteArray × Int :=
  match r with
  | none => ([], ⟨#[]⟩, 3)
  | some l => (l, s.extract many s.size, 0)
theorem takeBits_loop (s : ByteArray) (n m : Nat) (hn : n ≤ 64) (hm : m ≤ 8) (hs : m ≤ s.size) (d : Nat) : ∀ (k i : Nat) (out : List Bool), 8 * m = i + d → out.length ≤ i → 2 * d < k →
    num_TakeBits.l0 k s n m out (8 * m : Nat) i = some (scanR s m (scan s n d i out)) := by
  induction d with
  | zero =>
    intro k i out hi _ hk
    obtain ⟨k, rfl⟩ : ∃ m, k = m + 1 := ⟨k - 1, by omega⟩
    simp only [num_TakeBits.l0]
    rw [if_neg (by omega), if_pos (by omega), if_pos (by omega)]
    simp [scan, scanR]
  | succ d ih =>
    intro k i out hi ho hk
    obtain ⟨k, rfl⟩ : ∃ m, k = m + 1 + 1 := ⟨k - 2, by omega⟩
    have e1 : wrap64 (Int.tdiv (i : Int) 8) = ((i / 8 : Nat) : Int) := by
      rw [Int.tdiv_eq_ediv_of_nonneg (by omega), wrap64_of (by omega) (by omega)]; omega
    have e2 : Int.tmod (i : Int) 8 = ((i % 8 : Nat) : Int) := by
      rw [Int.tmod_eq_emod_of_nonneg (by omega)]; omega
    have e3 : wrap64 ((i : Int) + 1) = ((i + 1 : Nat) : Int) := by rw [wrap64_of (by omega) (by omega)]; omega
    have h8 : i % 8 < 8 := Nat.mod_lt _ (by decide)
    obtain ⟨x, hx, hx8⟩ := bt_nat s ((i / 8 : Nat) : Int)
    have hb : (Go.bits .and .u8 (shr .u8 (bt s ((i / 8 : Nat) : Int)) ((i % 8 : Nat) : Int)) 1 == 1) = bitAt s i := by
      unfold bitAt
      rw [hx, Int.toNat_natCast]
      exact shr_and_bit x (i % 8) hx8 h8
    simp only [num_TakeBits.l0, e1, e2, hb]
    clear e1 e2 hb hx hx8
    rw [if_pos (by omega), if_pos (by omega), if_pos (by omega), if_pos (by omega)]
    simp only [scan]
    by_cases hin : i < n
    · rw [if_neg (by omega), if_pos hin]
      simp only [num_TakeBits.j2, e3]
      rw [if_neg (by simp), if_pos (by omega), if_pos (by omega)]
      exact ih k (i + 1) _ (by omega) (by rw [List.length_append, List.length_singleton]; omega) (by omega)
    · rw [if_pos (by omega), if_neg hin]
      simp only [num_TakeBits.j2, e3]
      cases hbit : bitAt s i with
      | true => simp [scanR]
      | false =>
        rw [if_neg (by simp), if_neg (by omega), if_neg (by simp)]
        exact ih k (i + 1) _ (by omega) (by omega) (by omega)
theorem takeBits_at (s : ByteArray) (n : Int) (h0 : -9223372036854775808 ≤ n) (h1 : n ≤ 9223372036854775807) : num_TakeBits.f 140 s n = some (takeBitsR s n) := by
  unfold num_TakeBits.f takeBitsR
  by_cases hn : n < 0
  · rw [if_pos hn, if_pos (.inl hn)]
    simp [num_TakeBits.j0]
  · rw [if_neg hn]
    by_cases h64 : n > 64
    · rw [if_pos (.inr h64)]
      simp [num_TakeBits.j0, h64]
    · rw [if_neg (by omega)]
      obtain ⟨m, rfl⟩ := Int.eq_ofNat_of_zero_le (show 0 ≤ n by omega)
      have e : wrap64 (Int.tdiv (wrap64 ((m : Int) + 7)) 8) = (((m + 7) / 8 : Nat) : Int) := by
        rw [wrap64_of (x := (m : Int) + 7) (by omega) (by omega), Int.tdiv_eq_ediv_of_nonneg (by omega), wrap64_of (by omega) (by omega)]; omega
      simp only [num_TakeBits.j0, Int.toNat_natCast, e]
      rw [if_neg (by simpa using h64)]
      by_cases hs : s.size < (m + 7) / 8
      · rw [if_pos (by omega), if_pos hs]
      · rw [if_neg (by omega), if_neg hs]
        have e8 : wrap64 (8 * (((m + 7) / 8 : Nat) : Int)) = ((8 * ((m + 7) / 8) : Nat) : Int) := by rw [wrap64_of (by omega) (by omega)]; omega
        rw [e8]
        have := takeBits_loop s m ((m + 7) / 8) (by omega) (by omega) (by omega) (8 * ((m + 7) / 8)) 139 0 [] (by omega) (by simp) (by omega)
        refine this.trans ?_
        unfold scanR
        cases scan s m (8 * ((m + 7) / 8)) 0 [] <;> rfl
theorem takeBits_k {k : Nat} (hk : 140 ≤ k) (s : ByteArray) (n : Int) (h0 : -9223372036854775808 ≤ n) (h1 : n ≤ 9223372036854775807) : num_TakeBits.f k s n = some (takeBitsR s n) := at_rounds (num_TakeBits.mono s n) hk (takeBits_at s n h0 h1)
end Go.Proofs.YtpcfpeejbhkbdaaDoor.F
