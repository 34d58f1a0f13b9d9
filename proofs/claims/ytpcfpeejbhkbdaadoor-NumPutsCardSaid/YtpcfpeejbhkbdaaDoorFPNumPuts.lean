/- The pure statement of NumPuts. -/
import Derived.Test.YtpcfpeejbhkbdaaDoorFPnumPut
import Derived.Test.YtpcfpeejbhkbdaaDoorFPrefPut
import Derived.Test.YtpcfpeejbhkbdaaDoorFPnumTake
import Derived.Test.YtpcfpeejbhkbdaaDoorFPrefTake
import Derived.Test.YtpcfpeejbhkbdaaDoorFinterchangelaw01NumPuts
namespace Go.Proofs.YtpcfpeejbhkbdaaDoor.F
open Go.RowKit Go.Proofs.YtpcfpeejbhkbdaaDoorW.PrintWords Go.Proofs.YtpcfpeejbhkbdaaDoorW.PrintLast Go.Proofs.YtpcfpeejbhkbdaaDoorW.PrintMore
set_option linter.unusedVariables false
set_option linter.unusedSimpArgs false
theorem u64_bounds {x : Int} (h : (Lit.int .u64 x).wf = true) : 0 ≤ x ∧ x < 18446744073709551616 := by
  simp [Lit.wf, IntKind.min, IntKind.max, IntKind.signed, show IntKind.u64.bits = 64 from rfl] at h
  omega
theorem numPuts_pure (b0 b1 : Int) (b2 : ByteArray) (g0 : (Lit.int .i64 b0).wf = true) (g1 : (Lit.int .u64 b1).wf = true) (g2 : b2.size ≤ maxLen) (_ : True) (_ : True) (_ : b2.size ≤ 140737488351232) :
    ∃ k, interchangelaw01_NumPuts.f k b0 b1 b2 = some true := by
  obtain ⟨h0, h1⟩ := u64_bounds g1
  refine ⟨12, ?_⟩
  unfold interchangelaw01_NumPuts.f interchangelaw01_shown.f
  simp only [Option.bind_some, put_k (Nat.le_refl _) b0 b1 h0 h1, rput_k (Nat.le_refl _) b0 b1 h0 h1, take_k (Nat.le_refl _), rtake_k (Nat.le_refl _)]
  simp
end Go.Proofs.YtpcfpeejbhkbdaaDoor.F
