/- The pure statement of NumRises. -/
import Derived.Test.YtpcfpeejbhkbdaaDoorFPback
import Derived.Test.YtpcfpeejbhkbdaaDoorFPnumPut
import Derived.Test.YtpcfpeejbhkbdaaDoorFinterchangelaw01NumRises
namespace Go.Proofs.YtpcfpeejbhkbdaaDoor.F
open Go.RowKit Go.Proofs.YtpcfpeejbhkbdaaDoorW.PrintWords Go.Proofs.YtpcfpeejbhkbdaaDoorW.PrintLast Go.Proofs.YtpcfpeejbhkbdaaDoorW.PrintMore
set_option linter.unusedVariables false
set_option linter.unusedSimpArgs false
theorem foldl_num (l : List UInt8) : ∀ x : Nat, l.foldl (fun a b => a * 256 + b.toNat) x = x * 256 ^ l.length + beNum l := by
  induction l with
  | nil => intro x; simp [beNum]
  | cons a l ih =>
    intro x
    simp only [List.foldl_cons, List.length_cons, beNum]
    rw [ih, ih (0 * 256 + a.toNat), Nat.pow_succ]
    simp only [Nat.zero_mul, Nat.zero_add, Nat.add_mul, Nat.mul_assoc, Nat.mul_comm 256]
    omega
theorem beNum_cons (a : UInt8) (l : List UInt8) : beNum (a :: l) = a.toNat * 256 ^ l.length + beNum l := by
  show List.foldl _ (0 * 256 + a.toNat) l = _
  rw [foldl_num]
  simp
theorem less_num : ∀ (x y : List UInt8), x.length = y.length → Op.bytesLess x y = decide (beNum x < beNum y)
  | [], [], _ => by simp [Op.bytesLess]
  | a :: x, b :: y, h => by
    have hl : x.length = y.length := by simpa using h
    have ih := less_num x y hl
    have h1 := beNum_lt x
    have h2 := beNum_lt y
    rw [hl] at h1
    simp only [Op.bytesLess, ih, beNum_cons, hl]
    generalize 256 ^ y.length = P at h1 h2
    rcases Nat.lt_trichotomy a.toNat b.toNat with hab | hab | hab
    · have e : (a < b) := UInt8.lt_iff_toNat_lt.2 hab
      have : (a.toNat + 1) * P ≤ b.toNat * P := Nat.mul_le_mul_right _ hab
      rw [Nat.add_mul] at this
      simp [e]
      omega
    · have e : a = b := UInt8.toNat_inj.1 hab
      subst e
      simp
    · have e : ¬ a < b := fun h => by have := UInt8.lt_iff_toNat_lt.1 h; omega
      have e2 : (a == b) = false := by
        rw [beq_eq_false_iff_ne]
        intro h
        subst h
        omega
      have : (b.toNat + 1) * P ≤ a.toNat * P := Nat.mul_le_mul_right _ hab
      rw [Nat.add_mul] at this
      simp [e, e2]
      omega
  | [], _ :: _, h => by simp at h
  | _ :: _, [], h => by simp at h
theorem numRises_pure (b0 b1 b2 : Int) (g0 : (Lit.int .i64 b0).wf = true) (g1 : (Lit.int .u64 b1).wf = true) (g2 : (Lit.int .u64 b2).wf = true) (_ _ _ : True) : ∃ k, interchangelaw01_NumRises.f k b0 b1 b2 = some true := by
  obtain ⟨h0, h1⟩ := u64_bounds g1
  obtain ⟨k0, k1⟩ := u64_bounds g2
  refine ⟨12, ?_⟩
  unfold interchangelaw01_NumRises.f interchangelaw01_shown.f
  simp only [Option.bind_some, put_k (Nat.le_refl _) b0 b1 h0 h1, put_k (Nat.le_refl _) b0 b2 k0 k1, if_true]
  by_cases e1 : (putR b0 b1).2 = 0
  · rw [if_pos e1]
    by_cases e2 : (putR b0 b2).2 = 0
    · rw [if_pos e2]
      obtain ⟨hn, hv, hp⟩ := put_ok e1
      obtain ⟨_, hw, hq⟩ := put_ok e2
      have hm : 0 ≤ b0 := by rcases hn with h | h | h | h <;> omega
      obtain ⟨m, rfl⟩ := Int.eq_ofNat_of_zero_le hm
      obtain ⟨v, rfl⟩ := Int.eq_ofNat_of_zero_le h0
      obtain ⟨w, rfl⟩ := Int.eq_ofNat_of_zero_le k0
      simp only [Int.toNat_natCast] at hv hw hp hq
      have hv' : v < 256 ^ m := by have : ((v : Nat) : Int) < ((256 ^ m : Nat) : Int) := by simpa using hv
                                   omega
      have hw' : w < 256 ^ m := by have : ((w : Nat) : Int) < ((256 ^ m : Nat) : Int) := by simpa using hw
                                   omega
      rw [hp, hq, toBA_toList, toBA_toList, less_num _ _ (by rw [be_length, be_length]), beNum_be m v hv', beNum_be m w hw']
      have c1 : (decide (v < w)) = (decide ((v : Int) < (w : Int))) := by simp
      rw [c1]
      have c2 : (be m v == be m w) = ((v : Int) == (w : Int)) := by
        rw [Bool.eq_iff_iff, beq_iff_eq, beq_iff_eq]
        constructor
        · intro h
          have := congrArg beNum h
          rw [beNum_be m v hv', beNum_be m w hw'] at this
          omega
        · intro h
          have : v = w := by omega
          rw [this]
      rw [c2]
      simp
    · rw [if_neg e2]
  · rw [if_neg e1]
end Go.Proofs.YtpcfpeejbhkbdaaDoor.F
