/- What is offered: plain lists. -/
import Derived.Test.YtoldelpmmlpgjaaDoorFHoffers
namespace Go.Proofs.YtoldelpmmlpgjaaDoor.F
open Go.RowKit Go.Proofs.YtoldelpmmlpgjaaDoorW.PrintWords Go.Proofs.YtoldelpmmlpgjaaDoorW.PrintLast Go.Proofs.YtoldelpmmlpgjaaDoorW.PrintMore
set_option linter.unusedVariables false
set_option linter.unusedSimpArgs false
/-- the words of a list, between blanks -/
def sp : List UInt8 → List (List UInt8)
  | [] => [[]]
  | b :: l => if b = 32 then [] :: sp l else (match sp l with | h :: t => (b :: h) :: t | [] => [[b]])
theorem sp_ne (l : List UInt8) : sp l ≠ [] := by
  cases l with
  | nil => simp [sp]
  | cons b l =>
    simp only [sp]
    split
    · simp
    · split <;> simp
theorem sp_none (l : List UInt8) : 32 ∉ l → sp l = [l] := by
  induction l with
  | nil => intro _; rfl
  | cons b l ih =>
    intro h
    simp only [List.mem_cons, not_or] at h
    simp only [sp]
    rw [if_neg (fun e => h.1 e.symm), ih h.2]
theorem sp_app (a b : List UInt8) : sp (a ++ 32 :: b) = sp a ++ sp b := by
  induction a with
  | nil => simp [sp]
  | cons x a ih =>
    simp only [List.cons_append, sp]
    rw [ih]
    by_cases h : x = 32
    · rw [if_pos h, if_pos h]; rfl
    · rw [if_neg h, if_neg h]
      cases e : sp a with
      | nil => exact absurd e (sp_ne a)
      | cons p t => rfl
theorem sp_clean (l : List UInt8) : ∀ p ∈ sp l, 32 ∉ p := by
  induction l with
  | nil => intro p hp; simp [sp] at hp; subst hp; simp
  | cons b l ih =>
    intro p hp
    simp only [sp] at hp
    by_cases h : b = 32
    · rw [if_pos h] at hp
      rcases List.mem_cons.1 hp with rfl | hq
      · simp
      · exact ih p hq
    · rw [if_neg h] at hp
      cases e : sp l with
      | nil => exact absurd e (sp_ne l)
      | cons q t =>
        rw [e] at hp ih
        rcases List.mem_cons.1 hp with rfl | hq
        · simp only [List.mem_cons, not_or]
          exact ⟨fun e => h e.symm, ih q List.mem_cons_self⟩
        · exact ih p (List.mem_cons_of_mem _ hq)
/-- is it offered? -/
def offL (l w : List UInt8) : Bool := decide (w ≠ []) && decide (w ∈ sp l)
theorem offR_list (w : ByteArray) : ∀ (n : Nat) (s : ByteArray), s.size ≤ n → offR s w = offL s.data.toList w.data.toList := by
  intro n
  induction n with
  | zero =>
    intro s hs
    have hl : s.data.toList = [] := List.length_eq_zero_iff.1 (by rw [size_list]; omega)
    have hb : blankAt s < 0 := by unfold blankAt; rw [hl]; decide
    rw [offR_eq, if_pos hb, Bool.or_false]
    unfold isWord wordAt offL
    rw [if_pos hb, toList_data, toList_data, hl]
    simp only [sp, List.mem_singleton]
    rw [Bool.and_comm]
    congr 1
    exact decide_eq_decide.2 ⟨fun h => h.symm, fun h => h.symm⟩
  | succ n ih =>
    intro s hs
    rw [offR_eq]
    by_cases hb : blankAt s < 0
    · have hn : (32 : UInt8) ∉ s.data.toList := by
        have hg := Lib.indexByte_ge s.data.toList 32
        exact (ib_none 32 _).1 (by unfold blankAt at hb; omega)
      rw [if_pos hb, Bool.or_false]
      unfold isWord wordAt offL
      rw [if_pos hb, toList_data, toList_data, sp_none _ hn, Bool.and_comm]
      congr 1
      exact decide_eq_decide.2 (by rw [List.mem_singleton]; exact ⟨fun h => h.symm, fun h => h.symm⟩)
    · obtain ⟨i1, i2, i3⟩ := ib_found 32 s.data.toList (by unfold blankAt at hb; omega)
      have hlt := blank_lt hb
      have hbs := behind_size s
      have hI : (Lib.indexByte s.data.toList 32).toNat = (blankAt s).toNat := rfl
      rw [hI] at i1 i2 i3
      have hsp : sp s.data.toList = s.data.toList.take (blankAt s).toNat :: sp (behind s).data.toList := by
        conv => lhs; rw [i2, sp_app, sp_none _ i3]
        unfold behind
        rw [extract_drop, toBA_list]
        rfl
      rw [if_neg hb, ih (behind s) (by omega)]
      unfold isWord wordAt offL
      rw [if_neg hb, hsp, extract_take, toList_data, toList_data, toBA_list]
      rw [Bool.eq_iff_iff]
      simp only [Bool.or_eq_true, Bool.and_eq_true, decide_eq_true_eq, List.mem_cons]
      constructor
      · rintro (⟨h1, h2⟩ | ⟨h1, h2⟩)
        · exact ⟨h2, .inl h1.symm⟩
        · exact ⟨h1, .inr h2⟩
      · rintro ⟨h1, h2 | h2⟩
        · exact .inl ⟨h2.symm, h1⟩
        · exact .inr ⟨h1, h2⟩
theorem offers_f (s w : ByteArray) (h : s.size ≤ 4611686018427387904) : dial_Offers.f s w = some (offL s.data.toList w.data.toList) := by
  unfold dial_Offers.f
  rw [if_pos h, offR_list w s.size s (Nat.le_refl _)]
end Go.Proofs.YtoldelpmmlpgjaaDoor.F
