/- More closed facts on the program's types and functions. -/
import Derived.Test.YtlkkdpoioedacaaTys
namespace Go.Proofs.Ytlkkdpoioedacaa
set_option linter.unusedVariables false
set_option linter.unusedSimpArgs false
open Go.RowKit

end Go.Proofs.Ytlkkdpoioedacaa
