/- The pure statement of DialOffers. -/
import Derived.Test.YtoldelpmmlpgjaaDoorFPdial
import Derived.Test.YtoldelpmmlpgjaaDoorFinterchangelaw11DialOffers
namespace Go.Proofs.YtoldelpmmlpgjaaDoor.F
open Go.RowKit Go.Proofs.YtoldelpmmlpgjaaDoorW.PrintWords Go.Proofs.YtoldelpmmlpgjaaDoorW.PrintLast Go.Proofs.YtoldelpmmlpgjaaDoorW.PrintMore
set_option linter.unusedVariables false
set_option linter.unusedSimpArgs false
theorem offL_app (a b w : List UInt8) : offL (a ++ 32 :: b) w = (offL a w || offL b w) := by
  unfold offL
  rw [sp_app, Bool.eq_iff_iff]
  simp only [Bool.or_eq_true, Bool.and_eq_true, decide_eq_true_eq, List.mem_append]
  constructor
  · rintro ⟨h, h1 | h1⟩
    · exact .inl ⟨h, h1⟩
    · exact .inr ⟨h, h1⟩
  · rintro (⟨h, h1⟩ | ⟨h, h1⟩)
    · exact ⟨h, .inl h1⟩
    · exact ⟨h, .inr h1⟩
theorem offL_blank (l w : List UInt8) (h : w = [] ∨ 32 ∈ w) : offL l w = false := by
  unfold offL
  rcases h with rfl | h
  · simp
  · have : w ∉ sp l := fun hm => sp_clean l w hm h
    rw [decide_eq_false this, Bool.and_false]
theorem offL_self (w : List UInt8) (h : ¬ (w = [] ∨ 32 ∈ w)) : offL w w = true := by
  unfold offL
  rw [sp_none w (fun e => h (.inr e)), decide_eq_true (show w ≠ [] from fun e => h (.inl e)), decide_eq_true (List.mem_singleton.2 rfl)]
  rfl
theorem blank_take_succ (a : ByteArray) (i : Nat) (h : i < a.size) (P : Prop) [Decidable P] : decide (P ∨ (32 : UInt8) ∈ a.data.toList.take (i + 1)) = (decide (P ∨ (32 : UInt8) ∈ a.data.toList.take i) || (bt a (i : Int) == 32)) := by
  rw [List.take_succ_eq_append_getElem (by rw [size_list]; exact h), bt_get a i h]
  rw [Bool.eq_iff_iff]
  simp only [decide_eq_true_eq, List.mem_append, List.mem_singleton, Bool.or_eq_true, beq_iff_eq]
  have : (32 : UInt8) = a.data.toList[i]'(by rw [size_list]; exact h) ↔ ((a.data.toList[i]'(by rw [size_list]; exact h)).toNat : Int) = 32 := by
    rw [← UInt8.toNat_inj]
    have e32 : (32 : UInt8).toNat = 32 := rfl
    rw [e32]
    omega
  rw [← this, or_assoc]
theorem offers_l0 (a b w : ByteArray) (ha : a.size ≤ 140737488351232) (hb : b.size ≤ 140737488351232) (hw : w.size ≤ 140737488351232) (d : Nat) : ∀ (k i : Nat), i + d = w.size → d < k →
    interchangelaw11_DialOffers.l0 k a b w true (decide (w.data.toList = [] ∨ (32 : UInt8) ∈ w.data.toList.take i)) (i : Int) = some true := by
  induction d with
  | zero =>
    intro k i hi hk
    obtain ⟨k, rfl⟩ : ∃ j, k = j + 1 := ⟨k - 1, by omega⟩
    have e1 : (⟨#[32]⟩ : ByteArray).size = 1 := rfl
    have hcat : ((a ++ (⟨#[32]⟩ : ByteArray)) ++ b).data.toList = a.data.toList ++ 32 :: b.data.toList := by
      rw [append_data, append_data]
      show (a.data.toList ++ [32]) ++ b.data.toList = _
      simp
    simp only [interchangelaw11_DialOffers.l0]
    rw [if_neg (by omega), List.take_of_length_le (by rw [size_list]; omega), offers_f a w (by omega), Option.bind_some, offers_f b w (by omega), Option.bind_some, if_pos trivial, if_pos (by omega), if_pos (by rw [size_append, e1]; omega),
      offers_f _ w (by rw [size_append, size_append, e1]; omega), Option.bind_some, hcat, offL_app, offers_f w w (by omega), Option.bind_some]
    by_cases z : w.data.toList = [] ∨ (32 : UInt8) ∈ w.data.toList
    · rw [decide_eq_true z, offL_blank _ _ z, offL_blank _ _ z, offL_blank _ _ z]
      rfl
    · rw [decide_eq_false z, offL_self _ z]
      cases offL a.data.toList w.data.toList <;> cases offL b.data.toList w.data.toList <;> rfl
  | succ d ih =>
    intro k i hi hk
    obtain ⟨k, rfl⟩ : ∃ j, k = j + 1 := ⟨k - 1, by omega⟩
    have hn := ih k (i + 1) (by omega) (by omega)
    rw [blank_take_succ w i (by omega)] at hn
    simp only [interchangelaw11_DialOffers.l0]
    rw [if_pos (by omega), w_succ (by omega)]
    by_cases z : decide (w.data.toList = [] ∨ (32 : UInt8) ∈ w.data.toList.take i) = true
    · rw [z] at hn ⊢
      rw [if_pos rfl]
      exact hn
    · rw [Bool.not_eq_true] at z
      rw [z] at hn ⊢
      rw [if_neg (by decide), if_pos (by omega)]
      rw [Bool.false_or] at hn
      exact hn
theorem dialOffers_pure (b0 b1 b2 : ByteArray) (g0 : b0.size ≤ maxLen) (g1 : b1.size ≤ maxLen) (g2 : b2.size ≤ maxLen) (z0 : b0.size ≤ 140737488351232) (z1 : b1.size ≤ 140737488351232) (z2 : b2.size ≤ 140737488351232) : ∃ k, interchangelaw11_DialOffers.f k b0 b1 b2 = some true := by
  obtain ⟨k, hk⟩ : ∃ k : Nat, 1000000000000000 ≤ k := ⟨1000000000000000, Nat.le_refl _⟩
  refine ⟨k, ?_⟩
  have L := offers_l0 b0 b1 b2 (by omega) (by omega) (by omega) b2.size k 0 (by omega) (by omega)
  have e : decide (b2.data.toList = [] ∨ (32 : UInt8) ∈ b2.data.toList.take 0) = (b2.toList == ([] : List UInt8)) := by
    rw [toList_data, Bool.eq_iff_iff]
    simp
  rw [e] at L
  unfold interchangelaw11_DialOffers.f
  rw [shown_k (by omega), Option.bind_some]
  exact L
end Go.Proofs.YtoldelpmmlpgjaaDoor.F
