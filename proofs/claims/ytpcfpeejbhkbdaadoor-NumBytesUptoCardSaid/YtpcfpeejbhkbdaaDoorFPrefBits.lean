/- What the reference's Bits computes: the same. -/
import Derived.Test.YtpcfpeejbhkbdaaDoorFPbitsput
import Derived.Test.YtpcfpeejbhkbdaaDoorFinterchangeref01Bits
namespace Go.Proofs.YtpcfpeejbhkbdaaDoor.F
open Go.RowKit Go.Proofs.YtpcfpeejbhkbdaaDoorW.PrintWords Go.Proofs.YtpcfpeejbhkbdaaDoorW.PrintLast Go.Proofs.YtpcfpeejbhkbdaaDoorW.PrintMore
set_option linter.unusedVariables false
set_option linter.unusedSimpArgs false

theorem rb_inner (l : List Bool) (hl : l.length ≤ 140737488355328) (s : List UInt8) (hs : s.length ≤ 140737488355328) (g : Nat) (hg : 8 * g < l.length) (d : Nat) : ∀ (k t : Nat), t + d = 8 →
    interchangeref01_Bits.l1 (k + d + 1) l (toBA s) (8 * g : Nat) (psum (fun j => l.getD (8 * g + j) false) t : Nat) (2 ^ t : Nat) (8 * g + t : Nat) =
      interchangeref01_Bits.l0 k l (toBA (s ++ [UInt8.ofNat (byteAll l g)])) (8 * g + 8 : Nat) := by
  have hw8 : wrap64 (((8 * g : Nat) : Int) + 8) = ((8 * g + 8 : Nat) : Int) := w_add (a := 8 * g) (b := 8) (Nat.lt_of_le_of_lt (show 8 * g + 8 ≤ 140737488355400 by omega) (by decide))
  induction d with
  | zero =>
    intro k t ht
    obtain rfl : t = 8 := by omega
    simp only [interchangeref01_Bits.l1, hw8]
    rw [if_neg (by omega)]
    simp only [Option.bind_some]
    have hp := psum_lt (fun j => l.getD (8 * g + j) false) 8
    have e : strOfNums [((psum (fun j => l.getD (8 * g + j) false) 8 : Nat) : Int) % 256] = toBA [UInt8.ofNat (byteAll l g)] := by
      rw [strOfNums_toBA]
      unfold byteAll
      generalize psum (fun j => l.getD (8 * g + j) false) 8 = x at hp
      have : (((x : Nat) : Int) % 256).toNat = x := by omega
      simp only [List.map_cons, List.map_nil, this]
    rw [e, toBA_append, if_pos (by rw [toBA_size, toBA_size]; simp only [List.length_singleton]; omega)]
  | succ d ih =>
    intro k t ht
    have hp := psum_lt (fun j => l.getD (8 * g + j) false) t
    have h2 : 2 ^ t ≤ 128 := Nat.le_trans (Nat.pow_le_pow_right (by decide) (show t ≤ 7 by omega)) (by decide)
    have e1 : wrap64 (((2 ^ t : Nat) : Int) + ((2 ^ t : Nat) : Int)) = ((2 ^ (t + 1) : Nat) : Int) := by
      rw [w_add (Nat.lt_of_le_of_lt (show 2 ^ t + 2 ^ t ≤ 256 by omega) (by decide))]
      congr 1
      rw [Nat.pow_succ]
      omega
    have e2 : wrap64 (((8 * g + t : Nat) : Int) + 1) = ((8 * g + (t + 1) : Nat) : Int) := w_succ (Nat.lt_of_le_of_lt (show 8 * g + t ≤ 140737488355400 by omega) (by decide))
    have e3 : wrap64 (((psum (fun j => l.getD (8 * g + j) false) t : Nat) : Int) + ((2 ^ t : Nat) : Int)) = ((psum (fun j => l.getD (8 * g + j) false) t + 2 ^ t : Nat) : Int) :=
      w_add (Nat.lt_of_le_of_lt (show _ ≤ 256 by omega) (by decide))
    have hk : k + (d + 1) + 1 = (k + d + 1) + 1 := by omega
    rw [hk]
    have ih' := ih k (t + 1) (by omega)
    generalize k + d + 1 = K at ih' ⊢
    simp only [interchangeref01_Bits.l1, hw8, e1, e2, e3]
    clear e1 e2 e3
    have hps : psum (fun j => l.getD (8 * g + j) false) (t + 1) = psum (fun j => l.getD (8 * g + j) false) t + if l.getD (8 * g + t) false = true then 2 ^ t else 0 := rfl
    rw [hps] at ih'
    rw [if_pos (by omega)]
    have hrd : rdOf false l ((8 * g + t : Nat) : Int) = l.getD (8 * g + t) false := rfl
    by_cases hin : 8 * g + t < l.length
    · rw [if_pos (by omega), if_pos (by omega), hrd]
      by_cases hb : l.getD (8 * g + t) false = true
      · rw [if_pos hb]
        rw [if_pos hb] at ih'
        exact ih'
      · rw [if_neg hb]
        rw [if_neg hb, Nat.add_zero] at ih'
        exact ih'
    · rw [if_neg (by omega)]
      have hb : l.getD (8 * g + t) false = false := by rw [List.getD_eq_getElem?_getD, List.getElem?_eq_none (by omega)]; rfl
      rw [hb] at ih'
      simp only [Bool.false_eq_true, if_false, Nat.add_zero] at ih'
      exact ih'
theorem rb_outer (l : List Bool) (hl : l.length ≤ 140737488355328) (d : Nat) : ∀ (k g : Nat), g + d = (l.length + 7) / 8 → 10 * d < k →
    interchangeref01_Bits.l0 k l (toBA ((List.range g).map fun g => UInt8.ofNat (byteAll l g))) (8 * g : Nat) = some (bitsR l) := by
  induction d with
  | zero =>
    intro k g hg hk
    obtain ⟨k, rfl⟩ : ∃ m, k = m + 1 := ⟨k - 1, by omega⟩
    simp only [interchangeref01_Bits.l0]
    rw [if_neg (by omega)]
    unfold bitsR
    rw [← hg]
    rfl
  | succ d ih =>
    intro k g hg hk
    obtain ⟨k, rfl⟩ : ∃ m, k = m + 8 + 1 + 1 := ⟨k - 10, by omega⟩
    have h1 : interchangeref01_Bits.l0 (k + 8 + 1 + 1) l (toBA ((List.range g).map fun g => UInt8.ofNat (byteAll l g))) (8 * g : Nat) = interchangeref01_Bits.l1 (k + 8 + 1) l (toBA ((List.range g).map fun g => UInt8.ofNat (byteAll l g))) (8 * g : Nat) 0 1 (8 * g : Nat) := by
      simp only [interchangeref01_Bits.l0]
      rw [if_pos (by omega)]
    rw [h1]
    have h2 := rb_inner l hl ((List.range g).map fun g => UInt8.ofNat (byteAll l g)) (by simp; omega) g (by omega) 8 k 0 (by omega)
    refine h2.trans ?_
    have h3 : ((List.range g).map fun g => UInt8.ofNat (byteAll l g)) ++ [UInt8.ofNat (byteAll l g)] = (List.range (g + 1)).map fun g => UInt8.ofNat (byteAll l g) := by
      rw [List.range_succ, List.map_append]
      rfl
    rw [h3]
    exact ih k (g + 1) (by omega) (by omega)
theorem rb_k {k : Nat} (l : List Bool) (hl : l.length ≤ 140737488355328) (hk : 10 * ((l.length + 7) / 8) < k) : interchangeref01_Bits.f k l = some (bitsR l) := by
  unfold interchangeref01_Bits.f
  exact rb_outer l hl ((l.length + 7) / 8) k 0 (by omega) hk
end Go.Proofs.YtpcfpeejbhkbdaaDoor.F
