/- A system purged of all that does not reach one partition. -/
import Derived.Test.YtcmdoecoiogjjaaGreatFlowPl
import Derived.Test.YtcmdoecoiogjjaaGreatConfC1
import Derived.Test.YtcmdoecoiogjjaaGreatKernD
namespace Go.Proofs.YtcmdoecoiogjjaaGreat
set_option linter.unusedVariables false
set_option linter.unusedSimpArgs false
/-- a system with calm ones for all that do not reach this one -/
def purged (s : Sys) (u : Nat) : Sys := ⟨(List.range s.parts.length).map fun k => if rch s.chans s.parts.length k u = true then s.parts.getD k Pt0 else calmP, s.chans, s.slots⟩
end Go.Proofs.YtcmdoecoiogjjaaGreat
