/- Numbers as bytes, the greatest first: plain lists and numbers, no program. -/
import Derived.Test.YtdalcbhnnfabhaaDoorFHwidth
namespace Go.Proofs.YtdalcbhnnfabhaaDoor.F
open Go.RowKit Go.Proofs.YtdalcbhnnfabhaaDoorW.PrintWords Go.Proofs.YtdalcbhnnfabhaaDoorW.PrintLast Go.Proofs.YtdalcbhnnfabhaaDoorW.PrintMore
set_option linter.unusedVariables false
set_option linter.unusedSimpArgs false

theorem snoc_ind {α : Type} {P : List α → Prop} (h0 : P []) (h1 : ∀ l a, P l → P (l ++ [a])) (l : List α) : P l := by
  have h : ∀ l : List α, P l.reverse := by
    intro l
    induction l with
    | nil => exact h0
    | cons a l ih => rw [List.reverse_cons]; exact h1 _ _ ih
  have := h l.reverse
  rwa [List.reverse_reverse] at this
/-- n bytes of v. -/
def be : Nat → Nat → List UInt8
  | 0, _ => []
  | n + 1, v => be n (v / 256) ++ [UInt8.ofNat (v % 256)]
/-- The number of bytes. -/
def beNum (l : List UInt8) : Nat := l.foldl (fun a b => a * 256 + b.toNat) 0
def toBA (l : List UInt8) : ByteArray := ⟨l.toArray⟩
theorem toBA_toList (l : List UInt8) : (toBA l).toList = l := by simp [toBA, ByteArray.toList_eq]
theorem toBA_size (l : List UInt8) : (toBA l).size = l.length := by simp [toBA, ByteArray.size]
theorem toBA_data (l : List UInt8) : (toBA l).data = l.toArray := rfl

theorem toBA_append (a b : List UInt8) : toBA a ++ toBA b = toBA (a ++ b) := by
  apply ByteArray.ext
  simp [toBA]
theorem toBA_of (s : ByteArray) : s = toBA s.data.toList := by simp [toBA]
theorem strOfNums_toBA (xs : List Int) : strOfNums xs = toBA (xs.map fun n => UInt8.ofNat n.toNat) := rfl
theorem toBA_nil : (⟨#[]⟩ : ByteArray) = toBA [] := rfl
theorem wrapU {x : Int} (h0 : 0 ≤ x) (h1 : x < 18446744073709551616) : IntKind.u64.wrap x = x := by
  simp only [IntKind.wrap, IntKind.signed, show IntKind.u64.bits = 64 from rfl]
  simp
  omega
theorem be_length (n v : Nat) : (be n v).length = n := by
  induction n generalizing v with
  | zero => rfl
  | succ n ih => simp [be, ih]
theorem beNum_snoc (l : List UInt8) (b : UInt8) : beNum (l ++ [b]) = beNum l * 256 + b.toNat := by simp [beNum, List.foldl_append]
theorem beNum_be (n v : Nat) (h : v < 256 ^ n) : beNum (be n v) = v := by
  induction n generalizing v with
  | zero => simp at h; subst h; rfl
  | succ n ih =>
    rw [Nat.pow_succ] at h
    have hd : v / 256 < 256 ^ n := Nat.div_lt_of_lt_mul (by rw [Nat.mul_comm]; exact h)
    simp only [be]
    rw [beNum_snoc, ih _ hd]
    have : (UInt8.ofNat (v % 256)).toNat = v % 256 := by simp
    rw [this]
    omega
theorem beNum_lt (l : List UInt8) : beNum l < 256 ^ l.length := by
  refine snoc_ind (P := fun l => beNum l < 256 ^ l.length) (by simp [beNum]) (fun l b ih => ?_) l
  · rw [beNum_snoc, List.length_append, List.length_singleton, Nat.pow_succ]
    have := b.toNat_lt
    omega
theorem be_beNum (l : List UInt8) : be l.length (beNum l) = l := by
  refine snoc_ind (P := fun l => be l.length (beNum l) = l) rfl (fun l b ih => ?_) l
  · rw [beNum_snoc, List.length_append, List.length_singleton]
    have hb := b.toNat_lt
    simp only [be]
    have h1 : (beNum l * 256 + b.toNat) / 256 = beNum l := by omega
    have h2 : (beNum l * 256 + b.toNat) % 256 = b.toNat := by omega
    rw [h1, h2, ih]
    simp

/-- A number's bytes, and why not. -/
def isW (n : Int) : Prop := n = 1 ∨ n = 2 ∨ n = 4 ∨ n = 8
instance (n : Int) : Decidable (isW n) := by unfold isW; infer_instance
def putR (n v : Int) : ByteArray × Int := if isW n then (if v < 256 ^ n.toNat then (toBA (be n.toNat v.toNat), 0) else (⟨#[]⟩, 4)) else (⟨#[]⟩, 1)
def takeR (s : ByteArray) (n : Int) : Int × ByteArray × Int := if isW n then (if (s.size : Int) < n then (0, ⟨#[]⟩, 2) else ((beNum (s.data.toList.take n.toNat) : Nat), s.extract n.toNat s.size, 0)) else (0, ⟨#[]⟩, 1)
theorem width_isW (n : Int) : num_width.f n = some (decide (isW n)) := by
  unfold num_width.f isW
  by_cases h1 : n = 1 <;> by_cases h2 : n = 2 <;> by_cases h4 : n = 4 <;> by_cases h8 : n = 8 <;> simp [h1, h2, h4, h8]
theorem wrap64_of {x : Int} (h0 : -9223372036854775808 ≤ x) (h1 : x ≤ 9223372036854775807) : wrap64 x = x := by unfold wrap64; omega
theorem w_succ {i : Nat} (h : i < 4611686018427387904) : wrap64 ((i : Int) + 1) = ((i + 1 : Nat) : Int) := by rw [wrap64_of (by omega) (by omega)]; omega
theorem w_half {y : Nat} (h : y < 4611686018427387904) : wrap64 (Int.tdiv (y : Int) 2) = ((y / 2 : Nat) : Int) := by rw [Int.tdiv_eq_ediv_of_nonneg (by omega), wrap64_of (by omega) (by omega)]; omega
theorem m_two (y : Nat) : Int.tmod (y : Int) 2 = ((y % 2 : Nat) : Int) := by rw [Int.tmod_eq_emod_of_nonneg (by omega)]; omega
theorem w_eight {i : Nat} (h : i < 461168601842738790) : wrap64 (8 * (i : Int)) = ((8 * i : Nat) : Int) := by rw [wrap64_of (by omega) (by omega)]; omega
theorem w_add {a b : Nat} (h : a + b < 4611686018427387904) : wrap64 ((a : Int) + (b : Int)) = ((a + b : Nat) : Int) := by rw [wrap64_of (by omega) (by omega)]; omega
theorem w_eighth {i : Nat} (h : i < 4611686018427387904) : wrap64 (Int.tdiv (wrap64 ((i : Int) + 7)) 8) = (((i + 7) / 8 : Nat) : Int) := by
  rw [wrap64_of (x := (i : Int) + 7) (by omega) (by omega), Int.tdiv_eq_ediv_of_nonneg (by omega), wrap64_of (by omega) (by omega)]; omega
end Go.Proofs.YtdalcbhnnfabhaaDoor.F
