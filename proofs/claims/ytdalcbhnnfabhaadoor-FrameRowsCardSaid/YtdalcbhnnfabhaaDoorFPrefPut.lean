/- What the reference's Put computes: the same. -/
import Derived.Test.YtdalcbhnnfabhaaDoorFPcore
import Derived.Test.YtdalcbhnnfabhaaDoorFinterchangeref01Put
namespace Go.Proofs.YtdalcbhnnfabhaaDoor.F
open Go.RowKit Go.Proofs.YtdalcbhnnfabhaaDoorW.PrintWords Go.Proofs.YtdalcbhnnfabhaaDoorW.PrintLast Go.Proofs.YtdalcbhnnfabhaaDoorW.PrintMore
set_option linter.unusedVariables false
set_option linter.unusedSimpArgs false

theorem rput_loop (d : Nat) : ∀ (k i : Nat) (n : Int) (v : Nat) (l : List UInt8), n = i + d → n ≤ 8 → v < 18446744073709551616 → l.length = i → d < k →
    interchangeref01_Put.l0 k n v (toBA l) i = some (if v < 256 ^ d then (toBA (be d v ++ l), 0) else (⟨#[]⟩, 4)) := by
  induction d with
  | zero =>
    intro k i n v l hn _ _ _ hk
    obtain ⟨k, rfl⟩ : ∃ m, k = m + 1 := ⟨k - 1, by omega⟩
    simp only [interchangeref01_Put.l0]
    rw [if_neg (by omega)]
    by_cases hv : (v : Int) > 0
    · rw [if_pos hv, if_neg (by simp; omega)]
    · rw [if_neg hv, if_pos (by simp; omega)]; rfl
  | succ d ih =>
    intro k i n v l hn h8 hv hl hk
    obtain ⟨k, rfl⟩ : ∃ m, k = m + 1 := ⟨k - 1, by omega⟩
    simp only [interchangeref01_Put.l0, Option.bind_some]
    rw [if_pos (by omega), strOfNums_toBA, toBA_append, if_pos (by rw [toBA_size, toBA_size]; simp; omega)]
    have e1 : IntKind.u64.wrap (Int.tdiv (v : Int) 256) = ((v / 256 : Nat) : Int) := by
      rw [Int.tdiv_eq_ediv_of_nonneg (by omega), wrapU (by omega) (by omega)]; omega
    have e2 : (Int.tmod (v : Int) 256 % 256).toNat = v % 256 := by
      rw [Int.tmod_eq_emod_of_nonneg (by omega)]; omega
    have e3 : wrap64 ((i : Int) + 1) = ((i + 1 : Nat) : Int) := by rw [wrap64_of (by omega) (by omega)]; omega
    rw [e1, e3]
    simp only [List.map_cons, List.map_nil, e2]
    rw [ih k (i + 1) n (v / 256) _ (by omega) h8 (by omega) (by simp; omega) (by omega)]
    have hp : v / 256 < 256 ^ d ↔ v < 256 ^ (d + 1) := by
      rw [Nat.pow_succ, Nat.div_lt_iff_lt_mul (by decide)]
    by_cases hq : v < 256 ^ (d + 1)
    · rw [if_pos hq, if_pos (hp.2 hq)]
      simp [be]
    · rw [if_neg hq, if_neg (fun h => hq (hp.1 h))]

theorem rput_flag (k : Nat) (a0 a1 : Int) : interchangeref01_Put.f k a0 a1 = interchangeref01_Put.j0 k a0 a1 (decide (¬ isW a0)) := by
  unfold interchangeref01_Put.f isW
  by_cases h1 : a0 = 1
  · rw [if_pos h1]; simp [h1]
  by_cases h2 : a0 = 2
  · rw [if_neg h1, if_pos h2]; simp [h2]
  by_cases h4 : a0 = 4
  · rw [if_neg h1, if_neg h2, if_pos h4]; simp [h4]
  rw [if_neg h1, if_neg h2, if_neg h4]
  by_cases h8 : a0 = 8
  · simp [h8]
  · have : (a0 != 8) = true := by simp [h8]
    rw [this]
    simp [h1, h2, h4, h8]
theorem rput_at (a0 a1 : Int) (h0 : 0 ≤ a1) (h1 : a1 < 18446744073709551616) : interchangeref01_Put.f 12 a0 a1 = some (putR a0 a1) := by
  rw [rput_flag]
  unfold putR
  simp only [interchangeref01_Put.j0]
  obtain ⟨v, rfl⟩ := Int.eq_ofNat_of_zero_le h0
  by_cases hw : isW a0
  · obtain ⟨m, rfl⟩ : ∃ m : Nat, a0 = m := ⟨a0.toNat, by rcases hw with h | h | h | h <;> omega⟩
    have hm : m ≤ 8 := by rcases hw with h | h | h | h <;> omega
    rw [if_pos hw, if_neg (by simp [hw]), toBA_nil]
    have L := rput_loop m 11 0 m v [] (by omega) (by omega) (by omega) rfl (by omega)
    rw [List.append_nil] at L
    rw [Int.toNat_natCast, Int.toNat_natCast]
    refine L.trans ?_
    by_cases hv : v < 256 ^ m
    · rw [if_pos hv, if_pos (by have : ((v : Nat) : Int) < ((256 ^ m : Nat) : Int) := by omega
                                simpa using this)]
    · rw [if_neg hv, if_neg (fun h => hv (by have : ((v : Nat) : Int) < ((256 ^ m : Nat) : Int) := by simpa using h
                                             omega))]
      rfl
  · rw [if_neg hw, if_pos (by simp [hw])]
theorem rput_ev (a0 a1 : Int) (h0 : 0 ≤ a1) (h1 : a1 < 18446744073709551616) : Ev (fun k => interchangeref01_Put.f k a0 a1) (putR a0 a1) := Ev.of (interchangeref01_Put.mono a0 a1) (rput_at a0 a1 h0 h1)
theorem rput_k {k : Nat} (hk : 12 ≤ k) (a0 a1 : Int) (h0 : 0 ≤ a1) (h1 : a1 < 18446744073709551616) : interchangeref01_Put.f k a0 a1 = some (putR a0 a1) := at_rounds (interchangeref01_Put.mono a0 a1) hk (rput_at a0 a1 h0 h1)
end Go.Proofs.YtdalcbhnnfabhaaDoor.F
