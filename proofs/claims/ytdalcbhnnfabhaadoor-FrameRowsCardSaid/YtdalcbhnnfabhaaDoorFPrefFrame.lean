/- What the reference's Right, Bytes compute: the same. -/
import Derived.Test.YtdalcbhnnfabhaaDoorFPframe
import Derived.Test.YtdalcbhnnfabhaaDoorFPrefPut
import Derived.Test.YtdalcbhnnfabhaaDoorFinterchangeref04Bytes
namespace Go.Proofs.YtdalcbhnnfabhaaDoor.F
open Go.RowKit Go.Proofs.YtdalcbhnnfabhaaDoorW.PrintWords Go.Proofs.YtdalcbhnnfabhaaDoorW.PrintLast Go.Proofs.YtdalcbhnnfabhaaDoorW.PrintMore
set_option linter.unusedVariables false
set_option linter.unusedSimpArgs false
theorem rright_j {k : Nat} (hk : 1 ≤ k) (x : Bool) (ty ch : Int) (d : ByteArray) : interchangeref04_Right.j0 k x ty ch d = some (!x && (if ty = 8 then (decide (d.size = 0) && decide (ch = 0)) else (decide (ty ≠ 3) || decide (d.size ≠ 0)))) := by
  obtain ⟨k, rfl⟩ : ∃ j, k = j + 1 := ⟨k - 1, by omega⟩
  simp only [interchangeref04_Right.j0]
  have e : decide ((d.size : Int) > 0) = decide (d.size ≠ 0) := by rw [Bool.eq_iff_iff, decide_eq_true_iff, decide_eq_true_iff]; omega
  have e2 : ((d.size : Int) = 0) = (d.size = 0) := by simp
  rw [e]
  simp only [e2]
  cases x <;> simp only [if_true, if_false, reduceCtorEq, Bool.not_true, Bool.not_false, Bool.true_and, Bool.false_and]
  by_cases h8 : ty = 8
  · by_cases h0 : d.size = 0
    · by_cases hc : ch = 0 <;> simp [h8, h0, hc]
    · simp [h8, h0]
  · by_cases h3 : ty = 3 <;> simp [h8, h3]
theorem rright_k {k : Nat} (hk : 1 ≤ k) (ty ch : Int) (d : ByteArray) : interchangeref04_Right.f k ty ch d = some (rightB ty ch d) := by
  unfold interchangeref04_Right.f
  simp only [rright_j hk]
  unfold rightB kindB
  have e : decide ((d.size : Int) > 131072) = !decide (d.size ≤ 131072) := by rw [Bool.eq_iff_iff, decide_eq_true_iff, Bool.not_eq_true', decide_eq_false_iff_not]; omega
  rw [e]
  by_cases h1 : ty = 1
  · subst h1
    by_cases hc : ch < 0
    · have : ¬ 0 ≤ ch := by omega
      simp [hc, this]
    · by_cases hd : ch > 65535
      · have : ¬ ch ≤ 65535 := by omega
        simp [hc, hd, this]
      · have t1 : 0 ≤ ch := by omega
        have t2 : ch ≤ 65535 := by omega
        simp [hc, hd, t1, t2]
  by_cases h2 : ty = 2
  · subst h2
    by_cases hc : ch < 0
    · have : ¬ 0 ≤ ch := by omega
      simp [hc, this]
    · by_cases hd : ch > 65535
      · have : ¬ ch ≤ 65535 := by omega
        simp [hc, hd, this]
      · have t1 : 0 ≤ ch := by omega
        have t2 : ch ≤ 65535 := by omega
        simp [hc, hd, t1, t2]
  by_cases h3 : ty = 3
  · subst h3
    by_cases hc : ch < 0
    · have : ¬ 0 ≤ ch := by omega
      simp [hc, this]
    · by_cases hd : ch > 65535
      · have : ¬ ch ≤ 65535 := by omega
        simp [hc, hd, this]
      · have t1 : 0 ≤ ch := by omega
        have t2 : ch ≤ 65535 := by omega
        simp [hc, hd, t1, t2]
  by_cases h8 : ty = 8
  · subst h8
    by_cases hc : ch < 0
    · have : ¬ 0 ≤ ch := by omega
      simp [hc, this]
    · by_cases hd : ch > 65535
      · have : ¬ ch ≤ 65535 := by omega
        simp [hc, hd, this]
      · have t1 : 0 ≤ ch := by omega
        have t2 : ch ≤ 65535 := by omega
        simp [hc, hd, t1, t2]
  simp [h1, h2, h3, h8]
theorem rbytes_k {k : Nat} (hk : 12 ≤ k) (ty ch : Int) (d : ByteArray) : interchangeref04_Bytes.f k ty ch d = some (bytesR ty ch d) := by
  unfold interchangeref04_Bytes.f bytesR
  rw [rright_k (by omega), Option.bind_some]
  by_cases h : rightB ty ch d = true
  · rw [if_pos h, if_pos h]
    have hs := right_size h
    obtain ⟨c0, c1⟩ := right_chan h
    have ht := kind_cases (right_kind h)
    have t0 : 0 ≤ ty ∧ ty < 256 := by omega
    rw [wrapU c0 (by omega), wrapU (show (0 : Int) ≤ (d.size : Int) by omega) (by omega),
      rput_k hk _ _ c0 (by omega), rput_k hk _ _ (by omega) (by omega), Option.bind_some, Option.bind_some,
      putR_of (n := 2) (by decide) (by show ch < 256 ^ 2; omega), putR_of (n := 4) (by decide) (by show (d.size : Int) < 256 ^ 4; omega)]
    simp only [Option.bind_some]
    have e2 : (2 : Int).toNat = 2 := rfl
    have e4 : (4 : Int).toNat = 4 := rfl
    have ed : ((d.size : Int)).toNat = d.size := by omega
    have eo : strOfNums [ty % 256] = toBA (be 1 ty.toNat) := by
      have em : ty % 256 = ty := by omega
      rw [em, strOfNums_toBA]
      show toBA [UInt8.ofNat ty.toNat] = toBA ([] ++ [UInt8.ofNat (ty.toNat % 256)])
      rw [show ty.toNat % 256 = ty.toNat by omega]; rfl
    have el : (⟨#[206]⟩ : ByteArray) = toBA [206] := rfl
    rw [e2, e4, ed, eo, el]
    have s1 := be_length 1 ty.toNat
    have s2 := be_length 2 ch.toNat
    have s4 := be_length 4 d.size
    rw [toBA_append, toBA_append, append_toBA, toBA_append]
    simp only [toBA_size, List.length_append, s1, s2, s4, size_list, List.length_cons, List.length_nil]
    rw [if_pos (by omega), if_pos (by omega), if_pos (by omega), if_pos (by omega)]
    rfl
  · rw [if_neg h, if_neg h]
end Go.Proofs.YtdalcbhnnfabhaaDoor.F
