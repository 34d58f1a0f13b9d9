/- What the reference's Skip computes: the same. -/
import Derived.Test.YtpcfpeejbhkbdaaDoorFPskip
import Derived.Test.YtpcfpeejbhkbdaaDoorFinterchangeref01Skip
namespace Go.Proofs.YtpcfpeejbhkbdaaDoor.F
open Go.RowKit Go.Proofs.YtpcfpeejbhkbdaaDoorW.PrintWords Go.Proofs.YtpcfpeejbhkbdaaDoorW.PrintLast Go.Proofs.YtpcfpeejbhkbdaaDoorW.PrintMore
set_option linter.unusedVariables false
set_option linter.unusedSimpArgs false

theorem rskip_at (s : ByteArray) (n : Int) (hs : s.size < 18446744073709551616) (h0 : 0 ≤ n) : interchangeref01_Skip.f s n = some (skipR s n) := by
  unfold interchangeref01_Skip.f skipR
  rw [wrapU (by omega) (by omega)]
  by_cases h : (s.size : Int) < n
  · rw [if_pos h, if_pos h]
  · rw [if_neg h, if_neg h, if_pos h0, if_pos (by omega)]
end Go.Proofs.YtpcfpeejbhkbdaaDoor.F
