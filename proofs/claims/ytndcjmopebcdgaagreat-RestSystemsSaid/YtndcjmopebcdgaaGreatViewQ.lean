/- A system purged of all that does not reach one partition. -/
import Derived.Test.YtndcjmopebcdgaaGreatFlowPl
import Derived.Test.YtndcjmopebcdgaaGreatConfC1
import Derived.Test.YtndcjmopebcdgaaGreatKernD
set_option linter.unusedSimpArgs false
set_option linter.unusedVariables false
namespace Go.Proofs.YtndcjmopebcdgaaGreat
def purged(s:Sys)(u:Nat):Sys:=⟨(List.range s.parts.length).map fun k=>if rch s.chans s.parts.length k u=true then s.parts.getD k Pt0 else calmP,s.chans,s.slots⟩
end Go.Proofs.YtndcjmopebcdgaaGreat
