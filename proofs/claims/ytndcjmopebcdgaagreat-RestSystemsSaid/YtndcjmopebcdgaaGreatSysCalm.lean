/- The reference's CalmOf: what it gives. -/
import Derived.Test.YtndcjmopebcdgaaGreatSysOwn
set_option linter.unusedSimpArgs false
set_option linter.unusedVariables false
namespace Go.Proofs.YtndcjmopebcdgaaGreat
open Go.ChangeShapes Go.WideShapes Go.ChangeAt Go.RowKit
set_option maxRecDepth 100000
theorem sys_len{x y:SysD}(h:y.sys=x.sys):y.parts.length=x.parts.length∧y.chans=x.chans∧y.slots=x.slots:=by
 have h1:=congrArg (fun s=>s.parts.length) h
 exact⟨by simpa[SysD.sys] using h1,congrArg Sys.chans h,congrArg Sys.slots h⟩
end Go.Proofs.YtndcjmopebcdgaaGreat
