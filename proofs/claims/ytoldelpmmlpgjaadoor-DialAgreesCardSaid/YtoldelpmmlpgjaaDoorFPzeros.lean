/- The places of byte 0, and the first one: plain lists. -/
import Derived.Test.YtoldelpmmlpgjaaDoorFPlist
import Derived.Lib.IndexLaws
import Derived.Lib.Bytealg
namespace Go.Proofs.YtoldelpmmlpgjaaDoor.F
open Go.RowKit Go.Proofs.YtoldelpmmlpgjaaDoorW.PrintWords Go.Proofs.YtoldelpmmlpgjaaDoorW.PrintLast Go.Proofs.YtoldelpmmlpgjaaDoorW.PrintMore
set_option linter.unusedVariables false
set_option linter.unusedSimpArgs false
/-- the places of the bytes 0 -/
def zr : Nat → List UInt8 → List Nat
  | _, [] => []
  | o, b :: l => if b = 0 then o :: zr (o + 1) l else zr (o + 1) l
theorem zr_snoc (l : List UInt8) (b : UInt8) : ∀ o, zr o (l ++ [b]) = zr o l ++ (if b = 0 then [o + l.length] else []) := by
  induction l with
  | nil => intro o; simp [zr]
  | cons a l ih =>
    intro o
    simp only [List.cons_append, zr, ih, List.length_cons]
    have e : o + 1 + l.length = o + (l.length + 1) := by omega
    by_cases h : a = 0
    · rw [if_pos h, if_pos h, e]; rfl
    · rw [if_neg h, if_neg h, e]
theorem zr_length (l : List UInt8) : ∀ o, (zr o l).length ≤ l.length := by
  induction l with
  | nil => intro o; simp [zr]
  | cons a l ih =>
    intro o
    have := ih (o + 1)
    simp only [zr]
    split <;> simp <;> omega
theorem ib_cons (b : UInt8) (l : List UInt8) (c : UInt8) : Lib.indexByte (b :: l) c = if b = c then 0 else if Lib.indexByte l c = -1 then -1 else Lib.indexByte l c + 1 := by
  simp only [Lib.indexByte]
  by_cases h : b = c
  · simp [h]
  · simp [h]
/-- The first byte c. -/
theorem ib_found (c : UInt8) : ∀ (l : List UInt8), 0 ≤ Lib.indexByte l c → (Lib.indexByte l c).toNat < l.length ∧ l = l.take (Lib.indexByte l c).toNat ++ c :: l.drop ((Lib.indexByte l c).toNat + 1) ∧ c ∉ l.take (Lib.indexByte l c).toNat := by
  intro l
  induction l with
  | nil => intro h; exact absurd h (show ¬ (0 : Int) ≤ -1 by decide)
  | cons b l ih =>
    intro h
    rw [ib_cons] at h ⊢
    by_cases e : b = c
    · rw [if_pos e]; subst e; simp
    · rw [if_neg e] at h ⊢
      by_cases m : Lib.indexByte l c = -1
      · rw [if_pos m] at h; exact absurd h (by decide)
      · rw [if_neg m] at h ⊢
        have hg := Lib.indexByte_ge l c
        obtain ⟨i1, i2, i3⟩ := ih (by omega)
        have et : (Lib.indexByte l c + 1).toNat = (Lib.indexByte l c).toNat + 1 := by omega
        rw [et]
        refine ⟨by simpa using i1, ?_, ?_⟩
        · simp only [List.take_succ_cons, List.drop_succ_cons, List.cons_append]
          rw [← i2]
        · simp only [List.take_succ_cons, List.mem_cons, not_or]
          exact ⟨fun h => e h.symm, i3⟩
theorem ib_none (c : UInt8) (l : List UInt8) : Lib.indexByte l c = -1 ↔ c ∉ l := by
  induction l with
  | nil => simp [Lib.indexByte]
  | cons b l ih =>
    rw [ib_cons]
    have hg := Lib.indexByte_ge l c
    by_cases e : b = c
    · simp [e]
    · rw [if_neg e]
      by_cases m : Lib.indexByte l c = -1
      · rw [if_pos m]
        have := ih.1 m
        simp only [List.mem_cons, not_or]
        exact ⟨fun _ => ⟨fun h => e h.symm, this⟩, fun _ => by trivial⟩
      · rw [if_neg m]
        have : ¬ c ∉ l := fun h => m (ih.2 h)
        constructor
        · intro h; omega
        · intro h; exact absurd (fun hc => h (List.mem_cons_of_mem _ hc)) this
theorem ib_app (c : UInt8) (a b : List UInt8) (h : c ∉ a) : Lib.indexByte (a ++ c :: b) c = a.length := by
  induction a with
  | nil => rw [List.nil_append, ib_cons, if_pos rfl]; rfl
  | cons x a ih =>
    simp only [List.mem_cons, not_or] at h
    have := ih h.2
    rw [List.cons_append, ib_cons, if_neg (fun e => h.1 e.symm), this, if_neg (by omega), List.length_cons]
    omega
theorem zr_none (l : List UInt8) : ∀ o, 0 ∉ l → zr o l = [] := by
  induction l with
  | nil => intro o _; rfl
  | cons b l ih =>
    intro o h
    simp only [List.mem_cons, not_or] at h
    simp only [zr]
    rw [if_neg (fun e => h.1 e.symm), ih _ h.2]
theorem zr_app (a b : List UInt8) : ∀ o, zr o (a ++ b) = zr o a ++ zr (o + a.length) b := by
  induction a with
  | nil => intro o; simp [zr]
  | cons x a ih =>
    intro o
    have e : o + 1 + a.length = o + (a.length + 1) := by omega
    simp only [List.cons_append, zr, ih, List.length_cons, e]
    split <;> rfl
theorem zr_some (l : List UInt8) (o : Nat) (h : 0 ∈ l) : zr o l ≠ [] := by
  obtain ⟨a, b, rfl⟩ := List.append_of_mem h
  rw [zr_app]
  simp [zr]
end Go.Proofs.YtoldelpmmlpgjaaDoor.F
