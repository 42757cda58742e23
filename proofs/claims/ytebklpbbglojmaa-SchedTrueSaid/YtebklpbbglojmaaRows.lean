/-
  No cell of these rows narrows 'for every input' (looked for: loops, veiled, ifaces, maps, wideKeys, modest, calm, conditions, laid).
  DERIVED. THE GIVEN ROWS OF THIS SEAT. 9 by the template 'for every input the law returns true; each argument reads behind the call as it read before'; 0 by the template 'total and deterministic' (their statements: YtebklpbbglojmaaTotals.lean).
  GIVEN WITH THE SEED: the statements are not yours to turn. If you find one false, say at which input.
  Laid BY PROGRAM, IN A SANDBOX (cutbox-rows.mjs): the forced cells as the released guide's own fill.sh prints them over the translation 2fb9ff4aaacb2786… (all of the seat's roots in one cut). By AI agents, Wed Nov 11 2026. No macro, syntax, notation, axiom, sorry.
-/
import Derived.Test.YtebklpbbglojmaaChecked
import GoSem.Claim
import GoSem.ClaimJoined
import GoSem.ClaimMapViews
import Derived.JoinedTies
import Derived.KernelRfl
namespace Go.Proofs.Ytebklpbbglojmaa
/- THE CELL 'sum', in the pinned program and in every row, IS THE sha256 OF THE DUMP (.gsa) THAT YtebklpbbglojmaaProg.lean LOADS. Nothing in Lean hashes anything: it is a label: what it is worth is what the hold of that sum in a sandbox is worth. -/
noncomputable def Try.pinned : Pinned := { name := "ytebklpbbglojmaa", sum := "2fb9ff4aaacb2786f6a72031332a187beabcbaa6da488b902e1b7a750dfc7ef7", checked := Try.checked }
namespace Rows
def none {H : Type} : Left H := { results := [], args := [] }

/-- 'lychgatelaw.ChansTells': WHATEVER THE INPUT: true; the input reads as it did. -/
def chansTellsSpec : ChangeSpec := { name := "chansTells", fn := fun _ => fun
  | [d1, d2, d3] => { results := [.lit (.bool true)], args := [d1, d2, d3] }
  | _ => none }
def chansTellsRow : OpenClaim := { program := "ytebklpbbglojmaa", sum := "2fb9ff4aaacb2786f6a72031332a187beabcbaa6da488b902e1b7a750dfc7ef7", func := "lychgate/lychgatelaw.ChansTells", spec := "chansTells", apart := false }
def ChansTellsSaid : Prop := chansTellsRow.holds Try.pinned (OpenSpec.ofChange chansTellsSpec)

/-- ITS FALSE NEIGHBOUR: 'it returns false'. Refute it at one input. -/
def chansTellsWrong : ChangeSpec := { name := "chansTells", fn := fun _ => fun
  | [d1, d2, d3] => { results := [.lit (.bool false)], args := [d1, d2, d3] }
  | _ => none }
def ChansTellsWrongFalsely : Prop := chansTellsRow.holds Try.pinned (OpenSpec.ofChange chansTellsWrong)

/-- 'lychgatelaw.ChansTrue': WHATEVER THE INPUT: true; the input reads as it did. -/
def chansTrueSpec : ChangeSpec := { name := "chansTrue", fn := fun _ => fun
  | [d1, d2] => { results := [.lit (.bool true)], args := [d1, d2] }
  | _ => none }
def chansTrueRow : OpenClaim := { program := "ytebklpbbglojmaa", sum := "2fb9ff4aaacb2786f6a72031332a187beabcbaa6da488b902e1b7a750dfc7ef7", func := "lychgate/lychgatelaw.ChansTrue", spec := "chansTrue", apart := false }
def ChansTrueSaid : Prop := chansTrueRow.holds Try.pinned (OpenSpec.ofChange chansTrueSpec)

/-- ITS FALSE NEIGHBOUR: 'it returns false'. Refute it at one input. -/
def chansTrueWrong : ChangeSpec := { name := "chansTrue", fn := fun _ => fun
  | [d1, d2] => { results := [.lit (.bool false)], args := [d1, d2] }
  | _ => none }
def ChansTrueWrongFalsely : Prop := chansTrueRow.holds Try.pinned (OpenSpec.ofChange chansTrueWrong)

/-- 'lychgatelaw.CellSteps': WHATEVER THE INPUT: true; the input reads as it did. -/
def cellStepsSpec : ChangeSpec := { name := "cellSteps", fn := fun _ => fun
  | [d1, d2] => { results := [.lit (.bool true)], args := [d1, d2] }
  | _ => none }
def cellStepsRow : OpenClaim := { program := "ytebklpbbglojmaa", sum := "2fb9ff4aaacb2786f6a72031332a187beabcbaa6da488b902e1b7a750dfc7ef7", func := "lychgate/lychgatelaw.CellSteps", spec := "cellSteps", unfollowed := true, recurses := true, apart := false }
def CellStepsSaid : Prop := cellStepsRow.holds Try.pinned (OpenSpec.ofChange cellStepsSpec)

/-- ITS FALSE NEIGHBOUR: 'it returns false'. Refute it at one input. -/
def cellStepsWrong : ChangeSpec := { name := "cellSteps", fn := fun _ => fun
  | [d1, d2] => { results := [.lit (.bool false)], args := [d1, d2] }
  | _ => none }
def CellStepsWrongFalsely : Prop := cellStepsRow.holds Try.pinned (OpenSpec.ofChange cellStepsWrong)

/-- 'lychgatelaw.CellReplies': WHATEVER THE INPUT: true; the input reads as it did. -/
def cellRepliesSpec : ChangeSpec := { name := "cellReplies", fn := fun _ => fun
  | [d1, d2, d3, d4, d5] => { results := [.lit (.bool true)], args := [d1, d2, d3, d4, d5] }
  | _ => none }
def cellRepliesRow : OpenClaim := { program := "ytebklpbbglojmaa", sum := "2fb9ff4aaacb2786f6a72031332a187beabcbaa6da488b902e1b7a750dfc7ef7", func := "lychgate/lychgatelaw.CellReplies", spec := "cellReplies", unfollowed := true, recurses := true, apart := false }
def CellRepliesSaid : Prop := cellRepliesRow.holds Try.pinned (OpenSpec.ofChange cellRepliesSpec)

/-- ITS FALSE NEIGHBOUR: 'it returns false'. Refute it at one input. -/
def cellRepliesWrong : ChangeSpec := { name := "cellReplies", fn := fun _ => fun
  | [d1, d2, d3, d4, d5] => { results := [.lit (.bool false)], args := [d1, d2, d3, d4, d5] }
  | _ => none }
def CellRepliesWrongFalsely : Prop := cellRepliesRow.holds Try.pinned (OpenSpec.ofChange cellRepliesWrong)

/-- 'lychgatelaw.CellTrue': WHATEVER THE INPUT: true; the input reads as it did. -/
def cellTrueSpec : ChangeSpec := { name := "cellTrue", fn := fun _ => fun
  | [d1, d2, d3] => { results := [.lit (.bool true)], args := [d1, d2, d3] }
  | _ => none }
def cellTrueRow : OpenClaim := { program := "ytebklpbbglojmaa", sum := "2fb9ff4aaacb2786f6a72031332a187beabcbaa6da488b902e1b7a750dfc7ef7", func := "lychgate/lychgatelaw.CellTrue", spec := "cellTrue", unfollowed := true, recurses := true, apart := false }
def CellTrueSaid : Prop := cellTrueRow.holds Try.pinned (OpenSpec.ofChange cellTrueSpec)

/-- ITS FALSE NEIGHBOUR: 'it returns false'. Refute it at one input. -/
def cellTrueWrong : ChangeSpec := { name := "cellTrue", fn := fun _ => fun
  | [d1, d2, d3] => { results := [.lit (.bool false)], args := [d1, d2, d3] }
  | _ => none }
def CellTrueWrongFalsely : Prop := cellTrueRow.holds Try.pinned (OpenSpec.ofChange cellTrueWrong)

/-- 'lychgatelaw.ConfChecks': WHATEVER THE INPUT: true; the input reads as it did. -/
def confChecksSpec : ChangeSpec := { name := "confChecks", fn := fun _ => fun
  | [d1, d2] => { results := [.lit (.bool true)], args := [d1, d2] }
  | _ => none }
def confChecksRow : OpenClaim := { program := "ytebklpbbglojmaa", sum := "2fb9ff4aaacb2786f6a72031332a187beabcbaa6da488b902e1b7a750dfc7ef7", func := "lychgate/lychgatelaw.ConfChecks", spec := "confChecks", unfollowed := true, recurses := true, apart := false }
def ConfChecksSaid : Prop := confChecksRow.holds Try.pinned (OpenSpec.ofChange confChecksSpec)

/-- ITS FALSE NEIGHBOUR: 'it returns false'. Refute it at one input. -/
def confChecksWrong : ChangeSpec := { name := "confChecks", fn := fun _ => fun
  | [d1, d2] => { results := [.lit (.bool false)], args := [d1, d2] }
  | _ => none }
def ConfChecksWrongFalsely : Prop := confChecksRow.holds Try.pinned (OpenSpec.ofChange confChecksWrong)

/-- 'lychgatelaw.ConfCalm': WHATEVER THE INPUT: true; the input reads as it did. -/
def confCalmSpec : ChangeSpec := { name := "confCalm", fn := fun _ => fun
  | [d1, d2, d3] => { results := [.lit (.bool true)], args := [d1, d2, d3] }
  | _ => none }
def confCalmRow : OpenClaim := { program := "ytebklpbbglojmaa", sum := "2fb9ff4aaacb2786f6a72031332a187beabcbaa6da488b902e1b7a750dfc7ef7", func := "lychgate/lychgatelaw.ConfCalm", spec := "confCalm", unfollowed := true, recurses := true, apart := false }
def ConfCalmSaid : Prop := confCalmRow.holds Try.pinned (OpenSpec.ofChange confCalmSpec)

/-- ITS FALSE NEIGHBOUR: 'it returns false'. Refute it at one input. -/
def confCalmWrong : ChangeSpec := { name := "confCalm", fn := fun _ => fun
  | [d1, d2, d3] => { results := [.lit (.bool false)], args := [d1, d2, d3] }
  | _ => none }
def ConfCalmWrongFalsely : Prop := confCalmRow.holds Try.pinned (OpenSpec.ofChange confCalmWrong)

/-- 'lychgatelaw.SchedTells': WHATEVER THE INPUT: true; the input reads as it did. -/
def schedTellsSpec : ChangeSpec := { name := "schedTells", fn := fun _ => fun
  | [d1, d2] => { results := [.lit (.bool true)], args := [d1, d2] }
  | _ => none }
def schedTellsRow : OpenClaim := { program := "ytebklpbbglojmaa", sum := "2fb9ff4aaacb2786f6a72031332a187beabcbaa6da488b902e1b7a750dfc7ef7", func := "lychgate/lychgatelaw.SchedTells", spec := "schedTells", unfollowed := true, recurses := true, apart := false }
def SchedTellsSaid : Prop := schedTellsRow.holds Try.pinned (OpenSpec.ofChange schedTellsSpec)

/-- ITS FALSE NEIGHBOUR: 'it returns false'. Refute it at one input. -/
def schedTellsWrong : ChangeSpec := { name := "schedTells", fn := fun _ => fun
  | [d1, d2] => { results := [.lit (.bool false)], args := [d1, d2] }
  | _ => none }
def SchedTellsWrongFalsely : Prop := schedTellsRow.holds Try.pinned (OpenSpec.ofChange schedTellsWrong)

/-- 'lychgatelaw.SchedTrue': WHATEVER THE INPUT: true; the input reads as it did. -/
def schedTrueSpec : ChangeSpec := { name := "schedTrue", fn := fun _ => fun
  | [d1, d2, d3] => { results := [.lit (.bool true)], args := [d1, d2, d3] }
  | _ => none }
def schedTrueRow : OpenClaim := { program := "ytebklpbbglojmaa", sum := "2fb9ff4aaacb2786f6a72031332a187beabcbaa6da488b902e1b7a750dfc7ef7", func := "lychgate/lychgatelaw.SchedTrue", spec := "schedTrue", unfollowed := true, recurses := true, apart := false }
def SchedTrueSaid : Prop := schedTrueRow.holds Try.pinned (OpenSpec.ofChange schedTrueSpec)

/-- ITS FALSE NEIGHBOUR: 'it returns false'. Refute it at one input. -/
def schedTrueWrong : ChangeSpec := { name := "schedTrue", fn := fun _ => fun
  | [d1, d2, d3] => { results := [.lit (.bool false)], args := [d1, d2, d3] }
  | _ => none }
def SchedTrueWrongFalsely : Prop := schedTrueRow.holds Try.pinned (OpenSpec.ofChange schedTrueWrong)

/- THE SECOND FORM. 'bulk': how many values and letters a reading holds, each counted each time it is reached (what is shared counts as often as it is met; a slice's spare places count too). A statement '..UptoSaid' is the law's where the arguments, and the package variables that the reading takes, are together of bulk at most 1048576: NARROWER than '..Said'. Prove '..Said' where nothing that the law and all that it calls make is longer than what came in: it says more and counts as full. Else prove '..UptoSaid'. A law counts once. -/
mutual
def uptoBulk {H : Type} : DataW H → Nat
  | .lit (.string bytes) => bytes.length + 1
  | .lit _ => 1
  | .nil => 1
  | .ptr d => uptoBulk d + 1
  | .slice elems spare => uptoBulkAll elems + uptoBulkAll spare + 1
  | .agg parts => uptoBulkAll parts + 1
  | .iface _ d => uptoBulk d + 1
  | .map entries => uptoBulkEntries entries + 1
  | .held _ => 1
def uptoBulkAll {H : Type} : List (DataW H) → Nat
  | [] => 0
  | d :: r => uptoBulk d + uptoBulkAll r
def uptoBulkEntries {H : Type} : List (Lit × DataW H) → Nat
  | [] => 0
  | x :: r => uptoBulkEntry x + uptoBulkEntries r
def uptoBulkEntry {H : Type} : Lit × DataW H → Nat
  | (.string bytes, d) => bytes.length + uptoBulk d + 1
  | (_, d) => uptoBulk d + 1
 end
def uptoSmall : (H : Type) → List (DataW H) → Bool := fun _ ds => decide (uptoBulkAll ds ≤ 1048576)
def OpenSpec.upto (s : _root_.Go.ChangeSpec) : _root_.Go.OpenSpec := { _root_.Go.OpenSpec.ofChange s with cond := some uptoSmall }

/-- 'lychgatelaw.ChansTells', WHERE WHAT IT READS IS OF BULK AT MOST 1048576: true; the input reads as it did. -/
def chansTellsUptoRow : OpenClaim := { program := "ytebklpbbglojmaa", sum := "2fb9ff4aaacb2786f6a72031332a187beabcbaa6da488b902e1b7a750dfc7ef7", func := "lychgate/lychgatelaw.ChansTells", spec := "chansTells", apart := false, narrowed := true }
def ChansTellsUptoSaid : Prop := chansTellsUptoRow.holds Try.pinned (OpenSpec.upto chansTellsSpec)

/-- 'lychgatelaw.ChansTrue', WHERE WHAT IT READS IS OF BULK AT MOST 1048576: true; the input reads as it did. -/
def chansTrueUptoRow : OpenClaim := { program := "ytebklpbbglojmaa", sum := "2fb9ff4aaacb2786f6a72031332a187beabcbaa6da488b902e1b7a750dfc7ef7", func := "lychgate/lychgatelaw.ChansTrue", spec := "chansTrue", apart := false, narrowed := true }
def ChansTrueUptoSaid : Prop := chansTrueUptoRow.holds Try.pinned (OpenSpec.upto chansTrueSpec)

/-- 'lychgatelaw.CellSteps', WHERE WHAT IT READS IS OF BULK AT MOST 1048576: true; the input reads as it did. -/
def cellStepsUptoRow : OpenClaim := { program := "ytebklpbbglojmaa", sum := "2fb9ff4aaacb2786f6a72031332a187beabcbaa6da488b902e1b7a750dfc7ef7", func := "lychgate/lychgatelaw.CellSteps", spec := "cellSteps", unfollowed := true, recurses := true, apart := false, narrowed := true }
def CellStepsUptoSaid : Prop := cellStepsUptoRow.holds Try.pinned (OpenSpec.upto cellStepsSpec)

/-- 'lychgatelaw.CellReplies', WHERE WHAT IT READS IS OF BULK AT MOST 1048576: true; the input reads as it did. -/
def cellRepliesUptoRow : OpenClaim := { program := "ytebklpbbglojmaa", sum := "2fb9ff4aaacb2786f6a72031332a187beabcbaa6da488b902e1b7a750dfc7ef7", func := "lychgate/lychgatelaw.CellReplies", spec := "cellReplies", unfollowed := true, recurses := true, apart := false, narrowed := true }
def CellRepliesUptoSaid : Prop := cellRepliesUptoRow.holds Try.pinned (OpenSpec.upto cellRepliesSpec)

/-- 'lychgatelaw.CellTrue', WHERE WHAT IT READS IS OF BULK AT MOST 1048576: true; the input reads as it did. -/
def cellTrueUptoRow : OpenClaim := { program := "ytebklpbbglojmaa", sum := "2fb9ff4aaacb2786f6a72031332a187beabcbaa6da488b902e1b7a750dfc7ef7", func := "lychgate/lychgatelaw.CellTrue", spec := "cellTrue", unfollowed := true, recurses := true, apart := false, narrowed := true }
def CellTrueUptoSaid : Prop := cellTrueUptoRow.holds Try.pinned (OpenSpec.upto cellTrueSpec)

/-- 'lychgatelaw.ConfChecks', WHERE WHAT IT READS IS OF BULK AT MOST 1048576: true; the input reads as it did. -/
def confChecksUptoRow : OpenClaim := { program := "ytebklpbbglojmaa", sum := "2fb9ff4aaacb2786f6a72031332a187beabcbaa6da488b902e1b7a750dfc7ef7", func := "lychgate/lychgatelaw.ConfChecks", spec := "confChecks", unfollowed := true, recurses := true, apart := false, narrowed := true }
def ConfChecksUptoSaid : Prop := confChecksUptoRow.holds Try.pinned (OpenSpec.upto confChecksSpec)

/-- 'lychgatelaw.ConfCalm', WHERE WHAT IT READS IS OF BULK AT MOST 1048576: true; the input reads as it did. -/
def confCalmUptoRow : OpenClaim := { program := "ytebklpbbglojmaa", sum := "2fb9ff4aaacb2786f6a72031332a187beabcbaa6da488b902e1b7a750dfc7ef7", func := "lychgate/lychgatelaw.ConfCalm", spec := "confCalm", unfollowed := true, recurses := true, apart := false, narrowed := true }
def ConfCalmUptoSaid : Prop := confCalmUptoRow.holds Try.pinned (OpenSpec.upto confCalmSpec)

/-- 'lychgatelaw.SchedTells', WHERE WHAT IT READS IS OF BULK AT MOST 1048576: true; the input reads as it did. -/
def schedTellsUptoRow : OpenClaim := { program := "ytebklpbbglojmaa", sum := "2fb9ff4aaacb2786f6a72031332a187beabcbaa6da488b902e1b7a750dfc7ef7", func := "lychgate/lychgatelaw.SchedTells", spec := "schedTells", unfollowed := true, recurses := true, apart := false, narrowed := true }
def SchedTellsUptoSaid : Prop := schedTellsUptoRow.holds Try.pinned (OpenSpec.upto schedTellsSpec)

/-- 'lychgatelaw.SchedTrue', WHERE WHAT IT READS IS OF BULK AT MOST 1048576: true; the input reads as it did. -/
def schedTrueUptoRow : OpenClaim := { program := "ytebklpbbglojmaa", sum := "2fb9ff4aaacb2786f6a72031332a187beabcbaa6da488b902e1b7a750dfc7ef7", func := "lychgate/lychgatelaw.SchedTrue", spec := "schedTrue", unfollowed := true, recurses := true, apart := false, narrowed := true }
def SchedTrueUptoSaid : Prop := schedTrueUptoRow.holds Try.pinned (OpenSpec.upto schedTrueSpec)

end Rows
end Go.Proofs.Ytebklpbbglojmaa
