/- The pure statement of DialTune. -/
import Derived.Test.YtoldelpmmlpgjaaDoorFPdial
import Derived.Test.YtoldelpmmlpgjaaDoorFinterchangelaw11DialTune
namespace Go.Proofs.YtoldelpmmlpgjaaDoor.F
open Go.RowKit Go.Proofs.YtoldelpmmlpgjaaDoorW.PrintWords Go.Proofs.YtoldelpmmlpgjaaDoorW.PrintLast Go.Proofs.YtoldelpmmlpgjaaDoorW.PrintMore
set_option linter.unusedVariables false
set_option linter.unusedSimpArgs false
theorem tune_j0 {k : Nat} (hk : 1 ≤ k) (m0 m1 m2 t0 t1 t2 : Int) : interchangelaw11_DialTune.j0 k true (agreeR m0 m1 m2 t0 t1 t2).2.2.2 false m0 m1 m2 t0 t1 t2 (agreeR m0 m1 m2 t0 t1 t2).1 (agreeR m0 m1 m2 t0 t1 t2).2.1 (agreeR m0 m1 m2 t0 t1 t2).2.2.1 = some true := by
  obtain ⟨k, rfl⟩ : ∃ j, k = j + 1 := ⟨k - 1, by omega⟩
  simp only [interchangelaw11_DialTune.j0]
  rw [if_neg (by decide)]
  unfold agreeR
  by_cases h : rightT m0 m1 m2 = true ∧ 0 ≤ t0 ∧ 0 ≤ t1 ∧ 0 ≤ t2
  · rw [if_pos h]
    by_cases h2 : 0 < t1 ∧ t1 < 4096
    · rw [if_pos h2]
      simp
    · rw [if_neg h2]
      obtain ⟨hr, h0, h1, h3⟩ := h
      have hr' := (right_iff _ _ _).1 hr
      have e0 : 1 ≤ lesserI m0 t0 ∧ lesserI m0 t0 ≤ m0 ∧ (t0 = 0 ∨ lesserI m0 t0 ≤ t0) := by unfold lesserI; split <;> (try split) <;> omega
      have e1 : 4096 ≤ lesserI m1 t1 ∧ lesserI m1 t1 ≤ m1 ∧ (t1 = 0 ∨ lesserI m1 t1 ≤ t1) := by unfold lesserI; split <;> (try split) <;> omega
      have e2 : 0 ≤ (if t2 < m2 then t2 else m2) ∧ (if t2 < m2 then t2 else m2) ≤ m2 ∧ (if t2 < m2 then t2 else m2) ≤ t2 := by split <;> omega
      simp only
      generalize lesserI m0 t0 = x at *
      generalize lesserI m1 t1 = y at *
      generalize (if t2 < m2 then t2 else m2) = z at *
      have hx : rightT x y z = true := (right_iff _ _ _).2 (by omega)
      unfold serve_Right.f
      rw [if_pos trivial, if_pos trivial, Option.bind_some, hx, if_pos rfl, if_pos (by omega), if_pos (by omega), if_pos (by omega)]
      by_cases p : t0 = 0
      · rw [if_pos p]
        by_cases q : t1 = 0
        · rw [if_pos q, decide_eq_true (by omega)]
        · rw [if_neg q, if_pos (by omega), decide_eq_true (by omega)]
      · rw [if_neg p, if_pos (by omega)]
        by_cases q : t1 = 0
        · rw [if_pos q, decide_eq_true (by omega)]
        · rw [if_neg q, if_pos (by omega), decide_eq_true (by omega)]
  · rw [if_neg h]
    simp
theorem dialTune_pure (b0 b1 : Int × Int × Int) (g0 : (Lit.int .i64 b0.1).wf = true ∧ (Lit.int .i64 b0.2.1).wf = true ∧ (Lit.int .i64 b0.2.2).wf = true) (g1 : (Lit.int .i64 b1.1).wf = true ∧ (Lit.int .i64 b1.2.1).wf = true ∧ (Lit.int .i64 b1.2.2).wf = true)
    (z0 : True ∧ True ∧ True) (z1 : True ∧ True ∧ True) : ∃ k, interchangelaw11_DialTune.f k b0.1 b0.2.1 b0.2.2 b1.1 b1.2.1 b1.2.2 = some true := by
  obtain ⟨m0, m1, m2⟩ := b0
  obtain ⟨t0, t1, t2⟩ := b1
  clear g0 g1 z0 z1
  simp only
  obtain ⟨k, hk⟩ : ∃ k : Nat, 100 ≤ k := ⟨100, Nat.le_refl _⟩
  refine ⟨k, ?_⟩
  unfold interchangelaw11_DialTune.f
  rw [shown_k (by omega), Option.bind_some, agree_k (by omega), Option.bind_some, agree_k (by omega), Option.bind_some]
  have hj := tune_j0 (k := k) (by omega) m0 m1 m2 t0 t1 t2
  unfold serve_Right.f
  rw [Option.bind_some]
  by_cases hr : rightT m0 m1 m2 = true
  · have hr' := (right_iff _ _ _).1 hr
    have hs : agreeR m0 m1 m2 m0 m1 m2 = (m0, m1, m2, 0) := by
      unfold agreeR lesserI
      rw [if_pos ⟨hr, by omega, by omega, by omega⟩, if_neg (by omega), if_neg (by omega), if_neg (by omega), if_neg (by omega), if_neg (by omega), if_neg (by omega)]
    rw [if_pos hr, hs]
    simp only [BEq.rfl, Bool.not_true, Bool.or_self]
    rw [if_pos trivial, hj]
  · rw [if_neg hr, hj]
end Go.Proofs.YtoldelpmmlpgjaaDoor.F
