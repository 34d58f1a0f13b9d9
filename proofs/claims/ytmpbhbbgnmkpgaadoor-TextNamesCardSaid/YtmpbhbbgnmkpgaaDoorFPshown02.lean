/- The document's example holds. -/
import Derived.Test.YtmpbhbbgnmkpgaaDoorFPtextFn
import Derived.Test.YtmpbhbbgnmkpgaaDoorFinterchangelaw02shown
namespace Go.Proofs.YtmpbhbbgnmkpgaaDoor.F
open Go.RowKit Go.Proofs.YtmpbhbbgnmkpgaaDoorW.PrintWords Go.Proofs.YtmpbhbbgnmkpgaaDoorW.PrintLast Go.Proofs.YtmpbhbbgnmkpgaaDoorW.PrintMore
set_option linter.unusedVariables false
set_option linter.unusedSimpArgs false
theorem shown_k {k : Nat} (hk : 12 ≤ k) : interchangelaw02_shown.f k = some true := by
  unfold interchangelaw02_shown.f
  rw [short_k hk _ (by decide), Option.bind_some]
  decide +kernel
end Go.Proofs.YtmpbhbbgnmkpgaaDoor.F
