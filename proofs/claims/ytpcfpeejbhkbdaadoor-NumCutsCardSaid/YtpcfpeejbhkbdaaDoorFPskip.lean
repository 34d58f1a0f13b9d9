/- What Skip computes, the program's and the reference's. -/
import Derived.Test.YtpcfpeejbhkbdaaDoorFPcore
import Derived.Test.YtpcfpeejbhkbdaaDoorFnumSkip
namespace Go.Proofs.YtpcfpeejbhkbdaaDoor.F
open Go.RowKit Go.Proofs.YtpcfpeejbhkbdaaDoorW.PrintWords Go.Proofs.YtpcfpeejbhkbdaaDoorW.PrintLast Go.Proofs.YtpcfpeejbhkbdaaDoorW.PrintMore
set_option linter.unusedVariables false
set_option linter.unusedSimpArgs false

def skipR (s : ByteArray) (n : Int) : ByteArray × ByteArray × Int := if (s.size : Int) < n then (⟨#[]⟩, ⟨#[]⟩, 2) else (s.extract 0 n.toNat, s.extract n.toNat s.size, 0)
theorem skip_at (s : ByteArray) (n : Int) (hs : s.size < 18446744073709551616) (h0 : 0 ≤ n) : num_Skip.f s n = some (skipR s n) := by
  unfold num_Skip.f skipR
  rw [wrapU (by omega) (by omega)]
  by_cases h : (s.size : Int) < n
  · rw [if_pos h, if_pos h]
  · rw [if_neg h, if_neg h, if_pos h0, if_pos (by omega)]
end Go.Proofs.YtpcfpeejbhkbdaaDoor.F
