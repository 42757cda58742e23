/- kernBegun answers true. -/
import Derived.Test.YtlkkdpoioedacaaKernBa
namespace Go.Proofs.Ytlkkdpoioedacaa
set_option linter.unusedVariables false
set_option linter.unusedSimpArgs false
open Go.ChangeShapes Go.WideShapes Go.ChangeAt Go.RowKit

set_option maxRecDepth 100000

end Go.Proofs.Ytlkkdpoioedacaa
