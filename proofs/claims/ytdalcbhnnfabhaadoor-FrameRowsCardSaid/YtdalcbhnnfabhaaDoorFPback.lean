/- A number that was put is taken; what is taken is put as it was. -/
import Derived.Test.YtdalcbhnnfabhaaDoorFPcore
import Derived.Lib.Strings
import Derived.Lib.IndexBytes
namespace Go.Proofs.YtdalcbhnnfabhaaDoor.F
open Go.RowKit Go.Proofs.YtdalcbhnnfabhaaDoorW.PrintWords Go.Proofs.YtdalcbhnnfabhaaDoorW.PrintLast Go.Proofs.YtdalcbhnnfabhaaDoorW.PrintMore
set_option linter.unusedVariables false
set_option linter.unusedSimpArgs false

theorem toBA_list (l : List UInt8) : (toBA l).data.toList = l := rfl
theorem eq_of_list {a b : ByteArray} (h : a.data.toList = b.data.toList) : a = b := by
  rw [toBA_of a, toBA_of b, h]
theorem extract_drop (s : ByteArray) (i : Nat) : s.extract i s.size = toBA (s.data.toList.drop i) :=
  eq_of_list (by rw [Lib.extract_to_end, toBA_list])
theorem extract_take (s : ByteArray) (i : Nat) : s.extract 0 i = toBA (s.data.toList.take i) :=
  eq_of_list (by rw [Lib.extract_data, toBA_list, List.drop_zero, Nat.sub_zero])
theorem empty_size : (⟨#[]⟩ : ByteArray).size = 0 := rfl
theorem append_data (a b : ByteArray) : (a ++ b).data.toList = a.data.toList ++ b.data.toList := by rw [ByteArray.data_append, Array.toList_append]
theorem size_list (s : ByteArray) : s.data.toList.length = s.size := Array.length_toList
theorem size_append (a b : ByteArray) : (a ++ b).size = a.size + b.size := by simp
theorem toList_data (s : ByteArray) : s.toList = s.data.toList := by rw [ByteArray.toList_eq]

theorem take_put {n v : Int} (r : ByteArray) (hn : isW n) (h0 : 0 ≤ v) (hv : v < 256 ^ n.toNat) : takeR (toBA (be n.toNat v.toNat) ++ r) n = (v, r, 0) := by
  unfold takeR
  have hm : 0 ≤ n := by rcases hn with h | h | h | h <;> omega
  obtain ⟨m, rfl⟩ := Int.eq_ofNat_of_zero_le hm
  obtain ⟨w, rfl⟩ := Int.eq_ofNat_of_zero_le h0
  simp only [Int.toNat_natCast] at hv ⊢
  have hw : w < 256 ^ m := by
    have : ((w : Nat) : Int) < ((256 ^ m : Nat) : Int) := by simpa using hv
    omega
  rw [if_pos hn, if_neg (by rw [size_append, toBA_size, be_length]; omega), append_data, toBA_list, extract_drop, append_data, toBA_list]
  have hl := be_length m w
  rw [List.take_append_of_le_length (by omega), List.take_of_length_le (by omega), beNum_be m w hw, List.drop_append_of_le_length (by omega), List.drop_of_length_le (by omega), List.nil_append, ← toBA_of]
theorem put_take {s : ByteArray} {n : Int} (h : (takeR s n).2.2 = 0) : putR n (takeR s n).1 = (toBA (s.data.toList.take n.toNat), 0) ∧ toBA (s.data.toList.take n.toNat) ++ (takeR s n).2.1 = s := by
  unfold takeR at h ⊢
  split at h
  · rename_i hn
    split at h
    · simp at h
    · rename_i hl
      have hm : 0 ≤ n := by rcases hn with h | h | h | h <;> omega
      obtain ⟨m, rfl⟩ := Int.eq_ofNat_of_zero_le hm
      rw [if_pos hn, if_neg hl]
      simp only [Int.toNat_natCast]
      have hlen : (s.data.toList.take m).length = m := by rw [List.length_take, size_list]; omega
      have hlt := beNum_lt (s.data.toList.take m)
      rw [hlen] at hlt
      refine ⟨?_, ?_⟩
      · unfold putR
        rw [if_pos hn, if_pos (by
          have : ((beNum (s.data.toList.take m) : Nat) : Int) < ((256 ^ m : Nat) : Int) := by omega
          simpa using this)]
        simp only [Int.toNat_natCast]
        have := be_beNum (s.data.toList.take m)
        rw [hlen] at this
        rw [this]
      · rw [extract_drop, toBA_append, List.take_append_drop, ← toBA_of]
  · simp at h
theorem put_ok {n v : Int} (h : (putR n v).2 = 0) : isW n ∧ v < 256 ^ n.toNat ∧ (putR n v).1 = toBA (be n.toNat v.toNat) := by
  unfold putR at h ⊢
  split at h
  · rename_i hn
    split at h
    · rename_i hv
      rw [if_pos hn, if_pos hv]
      exact ⟨hn, hv, rfl⟩
    · simp at h
  · simp at h
theorem take_bound (s : ByteArray) (n : Int) : 0 ≤ (takeR s n).1 ∧ (takeR s n).1 < 18446744073709551616 := by
  unfold takeR
  split
  · rename_i hn
    split
    · simp
    · have h1 := beNum_lt (s.data.toList.take n.toNat)
      have h2 : (s.data.toList.take n.toNat).length ≤ 8 := by
        rw [List.length_take]
        rcases hn with h | h | h | h <;> subst h <;> omega
      have h3 : 256 ^ (s.data.toList.take n.toNat).length ≤ 256 ^ 8 := Nat.pow_le_pow_right (by decide) h2
      simp only
      omega
  · simp
theorem u64_bounds {x : Int} (h : (Lit.int .u64 x).wf = true) : 0 ≤ x ∧ x < 18446744073709551616 := by
  simp [Lit.wf, IntKind.min, IntKind.max, IntKind.signed, show IntKind.u64.bits = 64 from rfl] at h
  omega
theorem i64_bounds {x : Int} (h : (Lit.int .i64 x).wf = true) : -9223372036854775808 ≤ x ∧ x ≤ 9223372036854775807 := by
  simp [Lit.wf, IntKind.min, IntKind.max, IntKind.signed, show IntKind.i64.bits = 64 from rfl] at h
  omega
theorem put_size (n v : Int) : (putR n v).1.size ≤ 8 := by
  unfold putR
  split
  · rename_i hn
    split
    · simp only [toBA_size, be_length]
      rcases hn with h | h | h | h <;> subst h <;> decide
    · exact Nat.zero_le _
  · exact Nat.zero_le _
theorem take_rest (s : ByteArray) (n : Int) : (takeR s n).2.1.size ≤ s.size := by
  unfold takeR
  split
  · split
    · exact Nat.zero_le _
    · simp only [extract_drop, toBA_size, List.length_drop, size_list]; omega
  · exact Nat.zero_le _
end Go.Proofs.YtdalcbhnnfabhaaDoor.F
