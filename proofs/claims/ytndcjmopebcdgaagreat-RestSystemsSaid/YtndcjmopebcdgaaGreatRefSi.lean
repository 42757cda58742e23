/- Rows of ints that are the same. -/
import Derived.Test.YtndcjmopebcdgaaGreatSysB
set_option linter.unusedSimpArgs false
set_option linter.unusedVariables false
namespace Go.Proofs.YtndcjmopebcdgaaGreat
open Go.ChangeShapes Go.WideShapes Go.ChangeAt Go.RowKit
set_option maxRecDepth 100000
theorem same_ints{w:World}{u v:Value}{l m:List Int}(hu:Ints w u l)(hv:Ints w v m)(h:l=m):
  Calls Tryz.prog 24 #[u,v] w fun e w'=>e=.returned (.bool true)∧Below w.heap.size w w':=by
 have:=sameIntsB hu hv
 rwa [decide_eq_true h] at this
end Go.Proofs.YtndcjmopebcdgaaGreat
