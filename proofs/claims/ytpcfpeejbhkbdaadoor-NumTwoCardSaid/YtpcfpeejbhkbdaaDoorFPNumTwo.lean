/- The pure statement of NumTwo. -/
import Derived.Test.YtpcfpeejbhkbdaaDoorFPback
import Derived.Test.YtpcfpeejbhkbdaaDoorFPnumPut
import Derived.Test.YtpcfpeejbhkbdaaDoorFPnumTake
import Derived.Test.YtpcfpeejbhkbdaaDoorFinterchangelaw01NumTwo
namespace Go.Proofs.YtpcfpeejbhkbdaaDoor.F
open Go.RowKit Go.Proofs.YtpcfpeejbhkbdaaDoorW.PrintWords Go.Proofs.YtpcfpeejbhkbdaaDoorW.PrintLast Go.Proofs.YtpcfpeejbhkbdaaDoorW.PrintMore
set_option linter.unusedVariables false
set_option linter.unusedSimpArgs false
theorem numTwo_pure (b0 : Int × Int × Int × Int) (g0 : (Lit.int .i64 b0.1).wf = true ∧ (Lit.int .u64 b0.2.1).wf = true ∧ (Lit.int .i64 b0.2.2.1).wf = true ∧ (Lit.int .u64 b0.2.2.2).wf = true) (_ : True ∧ True ∧ True ∧ True) :
    ∃ k, interchangelaw01_NumTwo.f k b0.1 b0.2.1 b0.2.2.1 b0.2.2.2 = some true := by
  obtain ⟨n, v, m, w⟩ := b0
  obtain ⟨_, g1, _, g3⟩ := g0
  simp only at g1 g3 ⊢
  obtain ⟨h0, h1⟩ := u64_bounds g1
  obtain ⟨k0, k1⟩ := u64_bounds g3
  refine ⟨14, ?_⟩
  unfold interchangelaw01_NumTwo.f interchangelaw01_shown.f
  simp only [Option.bind_some, put_k (show 12 ≤ 14 by decide) n v h0 h1, put_k (show 12 ≤ 14 by decide) m w k0 k1, interchangelaw01_NumTwo.j0]
  by_cases e1 : (putR n v).2 = 0
  · rw [if_pos e1]
    by_cases e2 : (putR m w).2 = 0
    · obtain ⟨hn, hv, hp⟩ := put_ok e1
      obtain ⟨hm, hw, hq⟩ := put_ok e2
      have s1 := put_size n v
      have s2 := put_size m w
      rw [if_neg (by simp [e2]), if_pos (by omega), hp, hq]
      simp only [take_k (show 12 ≤ 13 by decide), Option.bind_some]
      have t1 := take_put (toBA (be m.toNat w.toNat)) hn h0 hv
      have t2 := take_put ⟨#[]⟩ hm k0 hw
      have e : toBA (be m.toNat w.toNat) ++ ⟨#[]⟩ = toBA (be m.toNat w.toNat) := by rw [toBA_nil, toBA_append, List.append_nil]
      rw [e] at t2
      rw [t1]
      simp only [t2]
      simp [toBA_nil, toBA_toList]
    · rw [if_pos (by simp [e2])]
  · rw [if_neg e1]; simp
end Go.Proofs.YtpcfpeejbhkbdaaDoor.F
