/-
  Lemmas (part 4) for: Exec: ExecRuns, ExecSteps, ExecLoss hold for all arguments; no condition.
-/
import Derived.Test.YtanlechpmkpbiaaGreatDoorKeep13
set_option linter.all false
namespace Go.V
open Go.N Go.Proofs
set_option maxRecDepth 20000
section
variable {bd:Nd->List Rat}{g:Gr}
end
end Go.V
