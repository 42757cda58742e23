/- The engine, part nine: more values. No program is named. -/
import Derived.Test.YtnpflhaggfabnaaGreatEngU
namespace Go.Proofs.YtnpflhaggfabnaaGreat
set_option linter.unusedVariables false
set_option linter.unusedSimpArgs false
open Go.ChangeShapes Go.WideShapes Go.ChangeAt Go.RowKit

section
variable {P : Program} {w0 w : World} {X : Nat → Prop} {es : List Asn} {a : Act} {ds : List Deferred} {N : Nat} {env : List (Nat × Value)} {dst : Option Tmp} {ty : TypeId} {ps : String} {af : Array Edge} {gd : Option (Nat × Bool)} {x y : Operand} {k : IntKind} {m n : Int} {at_ : Array TypeId}
theorem y_min (hF : Fr ds N env a) (hx : ev env x = some (.int k m)) (hy : ev env y = some (.int k n)) : Yv P w0 X es a ⟨dst, .call ⟨.builtin .min, #[x, y], at_⟩, ty, ps, af, gd⟩ (.int k (if n < m then n else m)) := fun w _ => by
  simp [execOp, resolve, invoke, builtin, Builtin.min_, Builtin.min2, hF.ev hx, hF.ev hy]
end
end Go.Proofs.YtnpflhaggfabnaaGreat
