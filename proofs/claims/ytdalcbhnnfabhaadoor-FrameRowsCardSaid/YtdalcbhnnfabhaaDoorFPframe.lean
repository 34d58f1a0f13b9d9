/- Frames' bytes: plain lists and numbers; and what frame.Right, frame.Bytes compute. -/
import Derived.Test.YtdalcbhnnfabhaaDoorFPback
import Derived.Test.YtdalcbhnnfabhaaDoorFPnumPut
import Derived.Test.YtdalcbhnnfabhaaDoorFPnumTake
import Derived.Test.YtdalcbhnnfabhaaDoorFframeBytes
namespace Go.Proofs.YtdalcbhnnfabhaaDoor.F
open Go.RowKit Go.Proofs.YtdalcbhnnfabhaaDoorW.PrintWords Go.Proofs.YtdalcbhnnfabhaaDoorW.PrintLast Go.Proofs.YtdalcbhnnfabhaaDoorW.PrintMore
set_option linter.unusedVariables false
set_option linter.unusedSimpArgs false

def kindB (ty : Int) : Bool := decide (ty = 1) || decide (ty = 2) || decide (ty = 3) || decide (ty = 8)
def rightB (ty ch : Int) (d : ByteArray) : Bool := kindB ty && (decide (0 ≤ ch) && decide (ch ≤ 65535)) && decide (d.size ≤ 131072) && (decide (ty ≠ 3) || decide (d.size ≠ 0)) && (decide (ty ≠ 8) || (decide (d.size = 0) && decide (ch = 0)))
theorem nil_size (d : ByteArray) : d.toList = ([] : List UInt8) ↔ d.size = 0 := by
  rw [toList_data, ← size_list]
  exact List.length_eq_zero_iff.symm
theorem right_j {k : Nat} (hk : 1 ≤ k) (x : Bool) (ty ch : Int) (d : ByteArray) : frame_Right.j0 k x ty ch d = some (!x && (kindB ty && (decide (0 ≤ ch) && decide (ch ≤ 65535)) && decide (d.size ≤ 131072) && (decide (ty ≠ 3) || decide (d.size ≠ 0)))) := by
  obtain ⟨k, rfl⟩ : ∃ j, k = j + 1 := ⟨k - 1, by omega⟩
  simp only [frame_Right.j0, nil_size, frame_kind.f, Option.bind_some, ge_iff_le]
  have e : decide ((d.size : Int) ≤ 131072) = decide (d.size ≤ 131072) := by simp; omega
  rw [e]
  cases x <;> simp only [kindB, if_true, if_false, reduceCtorEq, Bool.not_true, Bool.not_false, Bool.true_and, Bool.false_and]
  by_cases h3 : ty = 3 <;> by_cases h0 : d.size = 0 <;> by_cases hc : 0 ≤ ch <;> by_cases hd : ch ≤ 65535 <;> cases (decide (ty = 1) || decide (ty = 2) || decide (ty = 3) || decide (ty = 8)) <;> simp [h3, h0, hc, hd]
theorem right_k {k : Nat} (hk : 1 ≤ k) (ty ch : Int) (d : ByteArray) : frame_Right.f k ty ch d = some (rightB ty ch d) := by
  unfold frame_Right.f rightB
  rw [right_j hk, right_j hk, right_j hk]
  simp only [nil_size]
  by_cases h8 : ty = 8
  · by_cases h0 : d.size = 0
    · by_cases hc : ch = 0 <;> simp [h8, h0, hc]
    · simp [h8, h0]
  · simp [h8]
theorem right_size {ty ch : Int} {d : ByteArray} (h : rightB ty ch d = true) : d.size ≤ 131072 := by
  simp only [rightB, Bool.and_eq_true, decide_eq_true_eq] at h; exact h.1.1.2
theorem right_chan {ty ch : Int} {d : ByteArray} (h : rightB ty ch d = true) : 0 ≤ ch ∧ ch ≤ 65535 := by
  simp only [rightB, Bool.and_eq_true, decide_eq_true_eq] at h; exact h.1.1.1.2
theorem right_kind {ty ch : Int} {d : ByteArray} (h : rightB ty ch d = true) : kindB ty = true := by
  simp only [rightB, Bool.and_eq_true, decide_eq_true_eq] at h; exact h.1.1.1.1
theorem kind_cases {ty : Int} (h : kindB ty = true) : ty = 1 ∨ ty = 2 ∨ ty = 3 ∨ ty = 8 := by
  simp only [kindB, Bool.or_eq_true, decide_eq_true_eq] at h
  omega
/-- A frame's bytes. -/
def bytesL (ty ch : Int) (d : ByteArray) : List UInt8 := be 1 ty.toNat ++ be 2 ch.toNat ++ be 4 d.size ++ d.data.toList ++ [206]
def bytesR (ty ch : Int) (d : ByteArray) : ByteArray × Int := if rightB ty ch d = true then (toBA (bytesL ty ch d), 0) else (⟨#[]⟩, 1)
theorem bytesL_length (ty ch : Int) (d : ByteArray) : (bytesL ty ch d).length = d.size + 8 := by
  simp only [bytesL, List.length_append, be_length, size_list, List.length_cons, List.length_nil]; omega
theorem append_toBA (l : List UInt8) (d : ByteArray) : toBA l ++ d = toBA (l ++ d.data.toList) := by
  conv => lhs; rw [toBA_of d]
  rw [toBA_append]
theorem putR_of {n v : Int} (hn : isW n) (hv : v < 256 ^ n.toNat) : putR n v = (toBA (be n.toNat v.toNat), 0) := by
  unfold putR; rw [if_pos hn, if_pos hv]
theorem bytes_k {k : Nat} (hk : 12 ≤ k) (ty ch : Int) (d : ByteArray) : frame_Bytes.f k ty ch d = some (bytesR ty ch d) := by
  unfold frame_Bytes.f bytesR
  rw [right_k (by omega), Option.bind_some]
  by_cases h : rightB ty ch d = true
  · rw [if_pos h, if_pos h]
    have hs := right_size h
    obtain ⟨c0, c1⟩ := right_chan h
    have ht := kind_cases (right_kind h)
    have t0 : 0 ≤ ty ∧ ty < 256 := by omega
    rw [wrapU t0.1 (by omega), wrapU c0 (by omega), wrapU (show (0 : Int) ≤ (d.size : Int) by omega) (by omega),
      put_k hk _ _ t0.1 (by omega), put_k hk _ _ c0 (by omega), put_k hk _ _ (by omega) (by omega), Option.bind_some, Option.bind_some, Option.bind_some,
      putR_of (n := 1) (by decide) (by simpa using t0.2), putR_of (n := 2) (by decide) (by show ch < 256 ^ 2; omega), putR_of (n := 4) (by decide) (by show (d.size : Int) < 256 ^ 4; omega)]
    simp only [Option.bind_some]
    have e1 : (1 : Int).toNat = 1 := rfl
    have e2 : (2 : Int).toNat = 2 := rfl
    have e4 : (4 : Int).toNat = 4 := rfl
    have ed : ((d.size : Int)).toNat = d.size := by omega
    have eo : strOfNums [206] = toBA [206] := rfl
    rw [e1, e2, e4, ed, eo]
    have s1 := be_length 1 ty.toNat
    have s2 := be_length 2 ch.toNat
    have s4 := be_length 4 d.size
    rw [toBA_append, toBA_append, append_toBA, toBA_append]
    simp only [toBA_size, List.length_append, s1, s2, s4, size_list, List.length_cons, List.length_nil]
    rw [if_pos (by omega), if_pos (by omega), if_pos (by omega), if_pos (by omega)]
    rfl
  · rw [if_neg h, if_neg h]
end Go.Proofs.YtdalcbhnnfabhaaDoor.F
