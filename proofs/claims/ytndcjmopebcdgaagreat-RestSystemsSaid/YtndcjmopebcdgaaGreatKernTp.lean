/- Plain laws: what a step leaves alone; a calm one in the place of another one. -/
import Derived.Test.YtndcjmopebcdgaaGreatKernOw
import Derived.Test.YtndcjmopebcdgaaGreatKernO
set_option linter.unusedSimpArgs false
set_option linter.unusedVariables false
namespace Go.Proofs.YtndcjmopebcdgaaGreat
open Go.ChangeShapes Go.WideShapes Go.ChangeAt Go.RowKit
set_option maxRecDepth 100000
theorem stepErrW_zero{s:Sys}{w:Wrl}(h:stepErrW s w=0):chkSys s=0∧Right s w∧w.tick<300:=by
 unfold stepErrW at h
 by_cases h1:chkWorld s w=0
 ·rw[if_pos h1] at h
  by_cases h2:w.tick=300
  ·rw[if_pos h2] at h;cases h
  ·obtain⟨h3,h4⟩:=chkWorld_zero h1
   have hr:=right_iff.1 h4
   exact⟨h3,hr,by have:=hr.t1;omega⟩
 ·rw[if_neg h1] at h;exact absurd h h1
def setRead(w:Wrl)(u:Nat)(r:Int):Wrl:=⟨w.tick,w.cells.set u {w.cells.getD u Cel.zero with read:=r},w.lines⟩
end Go.Proofs.YtndcjmopebcdgaaGreat
