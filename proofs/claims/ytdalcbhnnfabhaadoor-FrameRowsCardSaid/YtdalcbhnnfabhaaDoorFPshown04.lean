/- The document's example holds. -/
import Derived.Test.YtdalcbhnnfabhaaDoorFPframe
import Derived.Test.YtdalcbhnnfabhaaDoorFinterchangelaw04shown
namespace Go.Proofs.YtdalcbhnnfabhaaDoor.F
open Go.RowKit Go.Proofs.YtdalcbhnnfabhaaDoorW.PrintWords Go.Proofs.YtdalcbhnnfabhaaDoorW.PrintLast Go.Proofs.YtdalcbhnnfabhaaDoorW.PrintMore
set_option linter.unusedVariables false
set_option linter.unusedSimpArgs false
theorem shown_k {k : Nat} (hk : 12 ≤ k) : interchangelaw04_shown.f k = some true := by
  unfold interchangelaw04_shown.f
  rw [bytes_k hk]
  decide +kernel
end Go.Proofs.YtdalcbhnnfabhaaDoor.F
