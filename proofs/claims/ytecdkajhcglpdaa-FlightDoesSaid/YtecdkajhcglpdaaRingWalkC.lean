/-
  The walks of an arena's methods: who pushes, drops, takes.
-/
import Derived.Test.YtecdkajhcglpdaaRingWalkB
namespace Go.Proofs.Ytecdkajhcglpdaa
set_option linter.unusedSimpArgs false
set_option linter.unusedVariables false
open Go.RowKit Go.Sep Go.RingM

end Go.Proofs.Ytecdkajhcglpdaa
