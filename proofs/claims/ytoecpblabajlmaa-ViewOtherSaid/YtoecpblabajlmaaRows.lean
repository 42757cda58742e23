/-
  No cell of these rows narrows 'for every input' (looked for: loops, veiled, ifaces, maps, wideKeys, modest, calm, conditions, laid).
  DERIVED. THE GIVEN ROWS OF THIS SEAT. 6 by the template 'for every input the law returns true; each argument reads behind the call as it read before'; 0 by the template 'total and deterministic' (their statements: YtoecpblabajlmaaTotals.lean).
  GIVEN WITH THE SEED: the statements are not yours to turn. If you find one false, say at which input.
  Laid BY PROGRAM, IN A SANDBOX (cutbox-rows.mjs): the forced cells as the released guide's own fill.sh prints them over the translation 03f8c0fef3b6ac0d… (all of the seat's roots in one cut). By AI agents, Wed Nov 11 2026. No macro, syntax, notation, axiom, sorry.
-/
import Derived.Test.YtoecpblabajlmaaChecked
import GoSem.Claim
import GoSem.ClaimJoined
import GoSem.ClaimMapViews
import Derived.JoinedTies
import Derived.KernelRfl
namespace Go.Proofs.Ytoecpblabajlmaa
/- THE CELL 'sum', in the pinned program and in every row, IS THE sha256 OF THE DUMP (.gsa) THAT YtoecpblabajlmaaProg.lean LOADS. Nothing in Lean hashes anything: it is a label: what it is worth is what the hold of that sum in a sandbox is worth. -/
noncomputable def Try.pinned : Pinned := { name := "ytoecpblabajlmaa", sum := "03f8c0fef3b6ac0d8411c9db8a1f6b1136f79a35f5fdac43b92fe3d784a5a28c", checked := Try.checked }
namespace Rows
def none {H : Type} : Left H := { results := [], args := [] }

/-- 'lychgatelaw.KernChecks': WHATEVER THE INPUT: true; the input reads as it did. -/
def kernChecksSpec : ChangeSpec := { name := "kernChecks", fn := fun _ => fun
  | [d1, d2] => { results := [.lit (.bool true)], args := [d1, d2] }
  | _ => none }
def kernChecksRow : OpenClaim := { program := "ytoecpblabajlmaa", sum := "03f8c0fef3b6ac0d8411c9db8a1f6b1136f79a35f5fdac43b92fe3d784a5a28c", func := "lychgate/lychgatelaw.KernChecks", spec := "kernChecks", unfollowed := true, recurses := true, apart := false }
def KernChecksSaid : Prop := kernChecksRow.holds Try.pinned (OpenSpec.ofChange kernChecksSpec)

/-- ITS FALSE NEIGHBOUR: 'it returns false'. Refute it at one input. -/
def kernChecksWrong : ChangeSpec := { name := "kernChecks", fn := fun _ => fun
  | [d1, d2] => { results := [.lit (.bool false)], args := [d1, d2] }
  | _ => none }
def KernChecksWrongFalsely : Prop := kernChecksRow.holds Try.pinned (OpenSpec.ofChange kernChecksWrong)

/-- 'lychgatelaw.KernMore': WHATEVER THE INPUT: true; the input reads as it did. -/
def kernMoreSpec : ChangeSpec := { name := "kernMore", fn := fun _ => fun
  | [d1, d2, d3] => { results := [.lit (.bool true)], args := [d1, d2, d3] }
  | _ => none }
def kernMoreRow : OpenClaim := { program := "ytoecpblabajlmaa", sum := "03f8c0fef3b6ac0d8411c9db8a1f6b1136f79a35f5fdac43b92fe3d784a5a28c", func := "lychgate/lychgatelaw.KernMore", spec := "kernMore", unfollowed := true, recurses := true, apart := false }
def KernMoreSaid : Prop := kernMoreRow.holds Try.pinned (OpenSpec.ofChange kernMoreSpec)

/-- ITS FALSE NEIGHBOUR: 'it returns false'. Refute it at one input. -/
def kernMoreWrong : ChangeSpec := { name := "kernMore", fn := fun _ => fun
  | [d1, d2, d3] => { results := [.lit (.bool false)], args := [d1, d2, d3] }
  | _ => none }
def KernMoreWrongFalsely : Prop := kernMoreRow.holds Try.pinned (OpenSpec.ofChange kernMoreWrong)

/-- 'lychgatelaw.KernStill': WHATEVER THE INPUT: true; the input reads as it did. -/
def kernStillSpec : ChangeSpec := { name := "kernStill", fn := fun _ => fun
  | [d1, d2, d3, d4] => { results := [.lit (.bool true)], args := [d1, d2, d3, d4] }
  | _ => none }
def kernStillRow : OpenClaim := { program := "ytoecpblabajlmaa", sum := "03f8c0fef3b6ac0d8411c9db8a1f6b1136f79a35f5fdac43b92fe3d784a5a28c", func := "lychgate/lychgatelaw.KernStill", spec := "kernStill", unfollowed := true, recurses := true, apart := false }
def KernStillSaid : Prop := kernStillRow.holds Try.pinned (OpenSpec.ofChange kernStillSpec)

/-- ITS FALSE NEIGHBOUR: 'it returns false'. Refute it at one input. -/
def kernStillWrong : ChangeSpec := { name := "kernStill", fn := fun _ => fun
  | [d1, d2, d3, d4] => { results := [.lit (.bool false)], args := [d1, d2, d3, d4] }
  | _ => none }
def KernStillWrongFalsely : Prop := kernStillRow.holds Try.pinned (OpenSpec.ofChange kernStillWrong)

/-- 'lychgatelaw.KernTurn': WHATEVER THE INPUT: true; the input reads as it did. -/
def kernTurnSpec : ChangeSpec := { name := "kernTurn", fn := fun _ => fun
  | [d1, d2, d3] => { results := [.lit (.bool true)], args := [d1, d2, d3] }
  | _ => none }
def kernTurnRow : OpenClaim := { program := "ytoecpblabajlmaa", sum := "03f8c0fef3b6ac0d8411c9db8a1f6b1136f79a35f5fdac43b92fe3d784a5a28c", func := "lychgate/lychgatelaw.KernTurn", spec := "kernTurn", unfollowed := true, recurses := true, apart := false }
def KernTurnSaid : Prop := kernTurnRow.holds Try.pinned (OpenSpec.ofChange kernTurnSpec)

/-- ITS FALSE NEIGHBOUR: 'it returns false'. Refute it at one input. -/
def kernTurnWrong : ChangeSpec := { name := "kernTurn", fn := fun _ => fun
  | [d1, d2, d3] => { results := [.lit (.bool false)], args := [d1, d2, d3] }
  | _ => none }
def KernTurnWrongFalsely : Prop := kernTurnRow.holds Try.pinned (OpenSpec.ofChange kernTurnWrong)

/-- 'lychgatelaw.ViewAlone': WHATEVER THE INPUT: true; the input reads as it did. -/
def viewAloneSpec : ChangeSpec := { name := "viewAlone", fn := fun _ => fun
  | [d1, d2, d3] => { results := [.lit (.bool true)], args := [d1, d2, d3] }
  | _ => none }
def viewAloneRow : OpenClaim := { program := "ytoecpblabajlmaa", sum := "03f8c0fef3b6ac0d8411c9db8a1f6b1136f79a35f5fdac43b92fe3d784a5a28c", func := "lychgate/lychgatelaw.ViewAlone", spec := "viewAlone", unfollowed := true, recurses := true, apart := false }
def ViewAloneSaid : Prop := viewAloneRow.holds Try.pinned (OpenSpec.ofChange viewAloneSpec)

/-- ITS FALSE NEIGHBOUR: 'it returns false'. Refute it at one input. -/
def viewAloneWrong : ChangeSpec := { name := "viewAlone", fn := fun _ => fun
  | [d1, d2, d3] => { results := [.lit (.bool false)], args := [d1, d2, d3] }
  | _ => none }
def ViewAloneWrongFalsely : Prop := viewAloneRow.holds Try.pinned (OpenSpec.ofChange viewAloneWrong)

/-- 'lychgatelaw.ViewOther': WHATEVER THE INPUT: true; the input reads as it did. -/
def viewOtherSpec : ChangeSpec := { name := "viewOther", fn := fun _ => fun
  | [d1, d2, d3, d4, d5] => { results := [.lit (.bool true)], args := [d1, d2, d3, d4, d5] }
  | _ => none }
def viewOtherRow : OpenClaim := { program := "ytoecpblabajlmaa", sum := "03f8c0fef3b6ac0d8411c9db8a1f6b1136f79a35f5fdac43b92fe3d784a5a28c", func := "lychgate/lychgatelaw.ViewOther", spec := "viewOther", unfollowed := true, recurses := true, apart := false }
def ViewOtherSaid : Prop := viewOtherRow.holds Try.pinned (OpenSpec.ofChange viewOtherSpec)

/-- ITS FALSE NEIGHBOUR: 'it returns false'. Refute it at one input. -/
def viewOtherWrong : ChangeSpec := { name := "viewOther", fn := fun _ => fun
  | [d1, d2, d3, d4, d5] => { results := [.lit (.bool false)], args := [d1, d2, d3, d4, d5] }
  | _ => none }
def ViewOtherWrongFalsely : Prop := viewOtherRow.holds Try.pinned (OpenSpec.ofChange viewOtherWrong)

/- THE SECOND FORM. 'bulk': how many values and letters a reading holds, each counted each time it is reached (what is shared counts as often as it is met; a slice's spare places count too). A statement '..UptoSaid' is the law's where the arguments, and the package variables that the reading takes, are together of bulk at most 1048576: NARROWER than '..Said'. Prove '..Said' where nothing that the law and all that it calls make is longer than what came in: it says more and counts as full. Else prove '..UptoSaid'. A law counts once. -/
mutual
def uptoBulk {H : Type} : DataW H → Nat
  | .lit (.string bytes) => bytes.length + 1
  | .lit _ => 1
  | .nil => 1
  | .ptr d => uptoBulk d + 1
  | .slice elems spare => uptoBulkAll elems + uptoBulkAll spare + 1
  | .agg parts => uptoBulkAll parts + 1
  | .iface _ d => uptoBulk d + 1
  | .map entries => uptoBulkEntries entries + 1
  | .held _ => 1
def uptoBulkAll {H : Type} : List (DataW H) → Nat
  | [] => 0
  | d :: r => uptoBulk d + uptoBulkAll r
def uptoBulkEntries {H : Type} : List (Lit × DataW H) → Nat
  | [] => 0
  | x :: r => uptoBulkEntry x + uptoBulkEntries r
def uptoBulkEntry {H : Type} : Lit × DataW H → Nat
  | (.string bytes, d) => bytes.length + uptoBulk d + 1
  | (_, d) => uptoBulk d + 1
 end
def uptoSmall : (H : Type) → List (DataW H) → Bool := fun _ ds => decide (uptoBulkAll ds ≤ 1048576)
def OpenSpec.upto (s : _root_.Go.ChangeSpec) : _root_.Go.OpenSpec := { _root_.Go.OpenSpec.ofChange s with cond := some uptoSmall }

/-- 'lychgatelaw.KernChecks', WHERE WHAT IT READS IS OF BULK AT MOST 1048576: true; the input reads as it did. -/
def kernChecksUptoRow : OpenClaim := { program := "ytoecpblabajlmaa", sum := "03f8c0fef3b6ac0d8411c9db8a1f6b1136f79a35f5fdac43b92fe3d784a5a28c", func := "lychgate/lychgatelaw.KernChecks", spec := "kernChecks", unfollowed := true, recurses := true, apart := false, narrowed := true }
def KernChecksUptoSaid : Prop := kernChecksUptoRow.holds Try.pinned (OpenSpec.upto kernChecksSpec)

/-- 'lychgatelaw.KernMore', WHERE WHAT IT READS IS OF BULK AT MOST 1048576: true; the input reads as it did. -/
def kernMoreUptoRow : OpenClaim := { program := "ytoecpblabajlmaa", sum := "03f8c0fef3b6ac0d8411c9db8a1f6b1136f79a35f5fdac43b92fe3d784a5a28c", func := "lychgate/lychgatelaw.KernMore", spec := "kernMore", unfollowed := true, recurses := true, apart := false, narrowed := true }
def KernMoreUptoSaid : Prop := kernMoreUptoRow.holds Try.pinned (OpenSpec.upto kernMoreSpec)

/-- 'lychgatelaw.KernStill', WHERE WHAT IT READS IS OF BULK AT MOST 1048576: true; the input reads as it did. -/
def kernStillUptoRow : OpenClaim := { program := "ytoecpblabajlmaa", sum := "03f8c0fef3b6ac0d8411c9db8a1f6b1136f79a35f5fdac43b92fe3d784a5a28c", func := "lychgate/lychgatelaw.KernStill", spec := "kernStill", unfollowed := true, recurses := true, apart := false, narrowed := true }
def KernStillUptoSaid : Prop := kernStillUptoRow.holds Try.pinned (OpenSpec.upto kernStillSpec)

/-- 'lychgatelaw.KernTurn', WHERE WHAT IT READS IS OF BULK AT MOST 1048576: true; the input reads as it did. -/
def kernTurnUptoRow : OpenClaim := { program := "ytoecpblabajlmaa", sum := "03f8c0fef3b6ac0d8411c9db8a1f6b1136f79a35f5fdac43b92fe3d784a5a28c", func := "lychgate/lychgatelaw.KernTurn", spec := "kernTurn", unfollowed := true, recurses := true, apart := false, narrowed := true }
def KernTurnUptoSaid : Prop := kernTurnUptoRow.holds Try.pinned (OpenSpec.upto kernTurnSpec)

/-- 'lychgatelaw.ViewAlone', WHERE WHAT IT READS IS OF BULK AT MOST 1048576: true; the input reads as it did. -/
def viewAloneUptoRow : OpenClaim := { program := "ytoecpblabajlmaa", sum := "03f8c0fef3b6ac0d8411c9db8a1f6b1136f79a35f5fdac43b92fe3d784a5a28c", func := "lychgate/lychgatelaw.ViewAlone", spec := "viewAlone", unfollowed := true, recurses := true, apart := false, narrowed := true }
def ViewAloneUptoSaid : Prop := viewAloneUptoRow.holds Try.pinned (OpenSpec.upto viewAloneSpec)

/-- 'lychgatelaw.ViewOther', WHERE WHAT IT READS IS OF BULK AT MOST 1048576: true; the input reads as it did. -/
def viewOtherUptoRow : OpenClaim := { program := "ytoecpblabajlmaa", sum := "03f8c0fef3b6ac0d8411c9db8a1f6b1136f79a35f5fdac43b92fe3d784a5a28c", func := "lychgate/lychgatelaw.ViewOther", spec := "viewOther", unfollowed := true, recurses := true, apart := false, narrowed := true }
def ViewOtherUptoSaid : Prop := viewOtherUptoRow.holds Try.pinned (OpenSpec.upto viewOtherSpec)

end Rows
end Go.Proofs.Ytoecpblabajlmaa
