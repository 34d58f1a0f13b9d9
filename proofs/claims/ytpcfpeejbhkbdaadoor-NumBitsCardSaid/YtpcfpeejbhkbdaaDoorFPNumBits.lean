/- The pure statement of NumBits. -/
import Derived.Test.YtpcfpeejbhkbdaaDoorFPrefTakeBits
import Derived.Test.YtpcfpeejbhkbdaaDoorFPrefBits
import Derived.Test.YtpcfpeejbhkbdaaDoorFPrefBools
import Derived.Test.YtpcfpeejbhkbdaaDoorFPskip
import Derived.Test.YtpcfpeejbhkbdaaDoorFPrefSkip
import Derived.Test.YtpcfpeejbhkbdaaDoorFinterchangelaw01NumBits
namespace Go.Proofs.YtpcfpeejbhkbdaaDoor.F
open Go.RowKit Go.Proofs.YtpcfpeejbhkbdaaDoorW.PrintWords Go.Proofs.YtpcfpeejbhkbdaaDoorW.PrintLast Go.Proofs.YtpcfpeejbhkbdaaDoorW.PrintMore
set_option linter.unusedVariables false
set_option linter.unusedSimpArgs false
theorem takeBitsR_len (s : ByteArray) (n : Int) : (takeBitsR s n).1.length ≤ 64 := by
  unfold takeBitsR
  split
  · simp
  · split
    · simp
    · split
      · simp
      · rename_i l h
        have := scan_length s n.toNat _ 0 [] l h (by simp)
        simp only
        omega
theorem numBits_pure (b0 : List Bool × ByteArray × Int × Int) (g0 : (b0.1.length ≤ maxLen ∧ ∀ x ∈ b0.1, True) ∧ b0.2.1.size ≤ maxLen ∧ (Lit.int .i64 b0.2.2.1).wf = true ∧ (Lit.int .u64 b0.2.2.2).wf = true) (z0 : (b0.1.length * Tryd.prog.bytesOf 4 ≤ 140737488351232 ∧ ∀ x ∈ b0.1, True) ∧ b0.2.1.size ≤ 140737488351232 ∧ True ∧ True) :
    ∃ k, interchangelaw01_NumBits.f k b0.1 b0.2.1 b0.2.2.1 b0.2.2.2 = some true := by
  obtain ⟨l, s, n, m⟩ := b0
  obtain ⟨_, _, g2, g3⟩ := g0
  obtain ⟨⟨z1, _⟩, z2, _⟩ := z0
  simp only at g2 g3 z1 z2 ⊢
  have hB : Tryd.prog.bytesOf 4 = 1 := by kernel_rfl
  rw [hB] at z1
  obtain ⟨n0, n1⟩ := i64_bounds g2
  obtain ⟨m0, m1⟩ := u64_bounds g3
  refine ⟨240 + 10 * ((l.length + 7) / 8) + 1, ?_⟩
  unfold interchangelaw01_NumBits.f interchangelaw01_shown.f
  have ht := takeBitsR_len s n
  rw [takeBits_k (by omega) s n n0 n1, rtb_k (by omega) s n, skip_at s m (by omega) m0, rskip_at s m (by omega) m0, bits_at l (by omega), rb_k l (by omega) (by omega)]
  simp only [Option.bind_some]
  rw [bools_k _ _ (by omega) (by omega)]
  simp
end Go.Proofs.YtpcfpeejbhkbdaaDoor.F
