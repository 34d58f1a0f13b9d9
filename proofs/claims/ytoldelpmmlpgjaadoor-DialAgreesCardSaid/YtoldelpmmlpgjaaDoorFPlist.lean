/- Texts as lists of bytes: plain lists, for the seats that have no numbers' bytes. -/
import Derived.Test.YtoldelpmmlpgjaaDoorFbase
import Derived.Lib.Strings
import Derived.Lib.IndexBytes
namespace Go.Proofs.YtoldelpmmlpgjaaDoor.F
open Go.RowKit Go.Proofs.YtoldelpmmlpgjaaDoorW.PrintWords Go.Proofs.YtoldelpmmlpgjaaDoorW.PrintLast Go.Proofs.YtoldelpmmlpgjaaDoorW.PrintMore
set_option linter.unusedVariables false
set_option linter.unusedSimpArgs false
def toBA (l : List UInt8) : ByteArray := ⟨l.toArray⟩
theorem toBA_size (l : List UInt8) : (toBA l).size = l.length := by simp [toBA, ByteArray.size]
theorem toBA_append (a b : List UInt8) : toBA a ++ toBA b = toBA (a ++ b) := by
  apply ByteArray.ext
  simp [toBA]
theorem toBA_of (s : ByteArray) : s = toBA s.data.toList := by simp [toBA]
theorem toBA_list (l : List UInt8) : (toBA l).data.toList = l := rfl
theorem eq_of_list {a b : ByteArray} (h : a.data.toList = b.data.toList) : a = b := by
  rw [toBA_of a, toBA_of b, h]
theorem extract_drop (s : ByteArray) (i : Nat) : s.extract i s.size = toBA (s.data.toList.drop i) :=
  eq_of_list (by rw [Lib.extract_to_end, toBA_list])
theorem extract_take (s : ByteArray) (i : Nat) : s.extract 0 i = toBA (s.data.toList.take i) :=
  eq_of_list (by rw [Lib.extract_data, toBA_list, List.drop_zero, Nat.sub_zero])
theorem append_data (a b : ByteArray) : (a ++ b).data.toList = a.data.toList ++ b.data.toList := by rw [ByteArray.data_append, Array.toList_append]
theorem size_list (s : ByteArray) : s.data.toList.length = s.size := Array.length_toList
theorem size_append (a b : ByteArray) : (a ++ b).size = a.size + b.size := by simp
theorem toList_data (s : ByteArray) : s.toList = s.data.toList := by rw [ByteArray.toList_eq]
theorem wrap64_of {x : Int} (h0 : -9223372036854775808 ≤ x) (h1 : x ≤ 9223372036854775807) : wrap64 x = x := by unfold wrap64; omega
theorem w_succ {i : Nat} (h : i < 4611686018427387904) : wrap64 ((i : Int) + 1) = ((i + 1 : Nat) : Int) := by rw [wrap64_of (by omega) (by omega)]; omega
theorem i64_bounds {x : Int} (h : (Lit.int .i64 x).wf = true) : -9223372036854775808 ≤ x ∧ x ≤ 9223372036854775807 := by
  simp [Lit.wf, IntKind.min, IntKind.max, IntKind.signed, show IntKind.i64.bits = 64 from rfl] at h
  omega
theorem bt_get (s : ByteArray) (i : Nat) (h : i < s.size) : bt s (i : Int) = ((s.data.toList[i]'(by simpa using h)).toNat : Int) := by
  unfold bt
  simp [h]
  rfl
end Go.Proofs.YtoldelpmmlpgjaaDoor.F
