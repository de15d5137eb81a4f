/-
  Lemmas (part 11) for: What fold.Fold makes of any graph is what the document says (FoldMakes, FoldAll, FoldNames, FoldLeaves hold for every graph); no condition.
-/
import Derived.Test.YtndiceggidmgkaaGreatDoorFold8
import Derived.Test.YtndiceggidmgkaaGreatDoorFold10
set_option linter.all false
namespace Go.V
open Go.N
set_option maxRecDepth 20000
end Go.V
