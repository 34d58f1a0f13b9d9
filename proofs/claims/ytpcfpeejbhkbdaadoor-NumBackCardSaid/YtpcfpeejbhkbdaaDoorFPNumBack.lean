/- The pure statement of NumBack. -/
import Derived.Test.YtpcfpeejbhkbdaaDoorFPback
import Derived.Test.YtpcfpeejbhkbdaaDoorFPnumPut
import Derived.Test.YtpcfpeejbhkbdaaDoorFPnumTake
import Derived.Test.YtpcfpeejbhkbdaaDoorFinterchangelaw01NumBack
namespace Go.Proofs.YtpcfpeejbhkbdaaDoor.F
open Go.RowKit Go.Proofs.YtpcfpeejbhkbdaaDoorW.PrintWords Go.Proofs.YtpcfpeejbhkbdaaDoorW.PrintLast Go.Proofs.YtpcfpeejbhkbdaaDoorW.PrintMore
set_option linter.unusedVariables false
set_option linter.unusedSimpArgs false
theorem numBack_pure (b0 : Int × Int × ByteArray × ByteArray) (g0 : (Lit.int .i64 b0.1).wf = true ∧ (Lit.int .u64 b0.2.1).wf = true ∧ b0.2.2.1.size ≤ maxLen ∧ b0.2.2.2.size ≤ maxLen) (z0 : True ∧ True ∧ b0.2.2.1.size ≤ 140737488351232 ∧ b0.2.2.2.size ≤ 140737488351232) :
    ∃ k, interchangelaw01_NumBack.f k b0.1 b0.2.1 b0.2.2.1 b0.2.2.2 = some true := by
  obtain ⟨n, v, more, s⟩ := b0
  obtain ⟨_, g1, _, _⟩ := g0
  obtain ⟨_, _, z1, z2⟩ := z0
  simp only at g1 z1 z2 ⊢
  obtain ⟨h0, h1⟩ := u64_bounds g1
  have hb := take_bound s n
  have second : (if (takeR s n).2.2 = 0 then (if (putR n (takeR s n).1).2 = 0 then (if (putR n (takeR s n).1).1.size + (takeR s n).2.1.size ≤ 9223372036854775807 then (some (((putR n (takeR s n).1).1 ++ (takeR s n).2.1).toList == s.toList)) else (none)) else (some false)) else (some true)) = some true := by
    by_cases e : (takeR s n).2.2 = 0
    · obtain ⟨p1, p2⟩ := put_take e
      have s1 := put_size n (takeR s n).1
      have s2 := take_rest s n
      rw [if_pos e, p1, if_pos rfl]
      rw [p1] at s1
      rw [if_pos (by simp only at s1 ⊢; omega), p2]
      simp
    · rw [if_neg e]
  refine ⟨14, ?_⟩
  unfold interchangelaw01_NumBack.f interchangelaw01_shown.f
  simp only [Option.bind_some, put_k (show 12 ≤ 14 by decide) n v h0 h1, interchangelaw01_NumBack.j0, take_k (show 12 ≤ 14 by decide), take_k (show 12 ≤ 13 by decide), put_k (show 12 ≤ 14 by decide) n _ hb.1 hb.2, put_k (show 12 ≤ 13 by decide) n _ hb.1 hb.2, if_true, second]
  by_cases e1 : (putR n v).2 = 0
  · obtain ⟨hn, hv, hp⟩ := put_ok e1
    have s1 := put_size n v
    rw [if_pos e1, if_pos (by omega), hp, take_put more hn h0 hv]
    have hm : 0 ≤ n := by rcases hn with h | h | h | h <;> omega
    have e : (((toBA (be n.toNat v.toNat)).size : Int) != n) = false := by
      rw [toBA_size, be_length, bne_eq_false_iff_eq]; omega
    rw [e]
    simp
  · rw [if_neg e1]
end Go.Proofs.YtpcfpeejbhkbdaaDoor.F
