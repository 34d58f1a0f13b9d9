/- What two agree on: plain numbers. -/
import Derived.Test.YtoldelpmmlpgjaaDoorFPoffers
import Derived.Test.YtoldelpmmlpgjaaDoorFdialAgree
import Derived.Test.YtoldelpmmlpgjaaDoorFinterchangelaw11shown
namespace Go.Proofs.YtoldelpmmlpgjaaDoor.F
open Go.RowKit Go.Proofs.YtoldelpmmlpgjaaDoorW.PrintWords Go.Proofs.YtoldelpmmlpgjaaDoorW.PrintLast Go.Proofs.YtoldelpmmlpgjaaDoorW.PrintMore
set_option linter.unusedVariables false
set_option linter.unusedSimpArgs false
def lesserI (a b : Int) : Int := if b = 0 then a else if b < a then b else a
def agreeR (m0 m1 m2 t0 t1 t2 : Int) : Int × Int × Int × Int :=
  if rightT m0 m1 m2 = true ∧ 0 ≤ t0 ∧ 0 ≤ t1 ∧ 0 ≤ t2 then (if 0 < t1 ∧ t1 < 4096 then (0, 0, 0, 16) else (lesserI m0 t0, lesserI m1 t1, (if t2 < m2 then t2 else m2), 0)) else (0, 0, 0, 1)
theorem right_iff (a b c : Int) : rightT a b c = true ↔ 1 ≤ a ∧ a ≤ 65535 ∧ 4096 ≤ b ∧ b ≤ 131072 ∧ 0 ≤ c ∧ c ≤ 65535 := by
  unfold rightT
  simp only [Bool.and_eq_true, decide_eq_true_eq]
  omega
theorem lesser_f (a b : Int) : dial_Agree_1.f a b = some (lesserI a b) := by
  unfold dial_Agree_1.f lesserI
  by_cases h : b = 0
  · rw [if_pos h, if_pos h]
  · rw [if_neg h, if_neg h]
    rfl
theorem agree_j1 {k : Nat} (hk : 1 ≤ k) (m0 m1 m2 t0 t1 t2 : Int) (b : Bool) (hb : b = decide (0 < t1 ∧ t1 < 4096)) :
    dial_Agree.j1 k b m0 m1 m2 t0 t1 t2 = some (if 0 < t1 ∧ t1 < 4096 then (0, 0, 0, 16) else (lesserI m0 t0, lesserI m1 t1, (if t2 < m2 then t2 else m2), 0)) := by
  obtain ⟨k, rfl⟩ : ∃ j, k = j + 1 := ⟨k - 1, by omega⟩
  subst hb
  simp only [dial_Agree.j1]
  by_cases h : 0 < t1 ∧ t1 < 4096
  · rw [decide_eq_true h, if_pos rfl, if_pos h]
  · rw [decide_eq_false h, if_neg (by decide), if_neg h, lesser_f, Option.bind_some, lesser_f, Option.bind_some]
    rfl
theorem agree_j0 {k : Nat} (hk : 2 ≤ k) (m0 m1 m2 t0 t1 t2 : Int) : dial_Agree.j0 k false m0 m1 m2 t0 t1 t2 = some (if 0 < t1 ∧ t1 < 4096 then (0, 0, 0, 16) else (lesserI m0 t0, lesserI m1 t1, (if t2 < m2 then t2 else m2), 0)) := by
  obtain ⟨k, rfl⟩ : ∃ j, k = j + 1 := ⟨k - 1, by omega⟩
  simp only [dial_Agree.j0]
  rw [if_neg (by decide)]
  by_cases h : t1 > 0
  · rw [if_pos h, agree_j1 (by omega) _ _ _ _ _ _ _ (decide_eq_decide.2 (by omega))]
  · rw [if_neg h, agree_j1 (by omega) _ _ _ _ _ _ _ (decide_eq_false (by omega)).symm]
theorem agree_j0t {k : Nat} (hk : 1 ≤ k) (m0 m1 m2 t0 t1 t2 : Int) : dial_Agree.j0 k true m0 m1 m2 t0 t1 t2 = some (0, 0, 0, 1) := by
  obtain ⟨k, rfl⟩ : ∃ j, k = j + 1 := ⟨k - 1, by omega⟩
  simp only [dial_Agree.j0]
  rw [if_pos trivial]
theorem agree_k {k : Nat} (hk : 3 ≤ k) (m0 m1 m2 t0 t1 t2 : Int) : dial_Agree.f k m0 m1 m2 t0 t1 t2 = some (agreeR m0 m1 m2 t0 t1 t2) := by
  unfold dial_Agree.f agreeR serve_Right.f
  rw [Option.bind_some]
  by_cases hr : rightT m0 m1 m2 = true
  · rw [if_pos hr]
    by_cases h0 : t0 < 0
    · rw [if_pos h0, agree_j0t (by omega), if_neg (by omega)]
    · rw [if_neg h0]
      by_cases h1 : t1 < 0
      · rw [if_pos h1, agree_j0t (by omega), if_neg (by omega)]
      · rw [if_neg h1]
        by_cases h2 : t2 < 0
        · rw [decide_eq_true h2, agree_j0t (by omega), if_neg (by omega)]
        · rw [decide_eq_false h2, agree_j0 (by omega), if_pos (show rightT m0 m1 m2 = true ∧ 0 ≤ t0 ∧ 0 ≤ t1 ∧ 0 ≤ t2 from ⟨hr, by omega, by omega, by omega⟩)]
  · rw [if_neg hr, agree_j0t (by omega), if_neg (fun h => hr h.1)]
theorem shown_k {k : Nat} (hk : 3 ≤ k) : interchangelaw11_shown.f k = some true := by
  unfold interchangelaw11_shown.f
  rw [agree_k hk, Option.bind_some, offers_f _ _ (by decide)]
  decide +kernel
end Go.Proofs.YtoldelpmmlpgjaaDoor.F
