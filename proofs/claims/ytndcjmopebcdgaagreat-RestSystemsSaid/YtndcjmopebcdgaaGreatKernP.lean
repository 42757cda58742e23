/- Runs and steps that are right, and that are not. -/
import Derived.Test.YtndcjmopebcdgaaGreatKernG
set_option linter.unusedSimpArgs false
set_option linter.unusedVariables false
namespace Go.Proofs.YtndcjmopebcdgaaGreat
open Go.ChangeShapes Go.WideShapes Go.ChangeAt Go.RowKit
set_option maxRecDepth 100000
end Go.Proofs.YtndcjmopebcdgaaGreat
