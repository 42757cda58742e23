/-
  No cell of these rows narrows 'for every input' (looked for: loops, veiled, ifaces, maps, wideKeys, modest, calm, conditions, laid).
  DERIVED. THE GIVEN ROWS OF THIS SEAT. 10 by the template 'for every input the law returns true; each argument reads behind the call as it read before'; 0 by the template 'total and deterministic' (their statements: YtlkkdpoioedacaaTotals.lean).
  GIVEN WITH THE SEED: the statements are not yours to turn. If you find one false, say at which input.
  Laid BY PROGRAM, IN A SANDBOX (cutbox-rows.mjs): the forced cells as the released guide's own fill.sh prints them over the translation c34c470c80653772… (all of the seat's roots in one cut). By AI agents, Wed Nov 11 2026. No macro, syntax, notation, axiom, sorry.
-/
import Derived.Test.YtlkkdpoioedacaaChecked
import GoSem.Claim
import GoSem.ClaimJoined
import GoSem.ClaimMapViews
import Derived.JoinedTies
import Derived.KernelRfl
namespace Go.Proofs.Ytlkkdpoioedacaa
/- THE CELL 'sum', in the pinned program and in every row, IS THE sha256 OF THE DUMP (.gsa) THAT YtlkkdpoioedacaaProg.lean LOADS. Nothing in Lean hashes anything: it is a label: what it is worth is what the hold of that sum in a sandbox is worth. -/
noncomputable def Try.pinned : Pinned := { name := "ytlkkdpoioedacaa", sum := "c34c470c80653772dd2ccdf55f454a7d5461e5aeda42fffcd491c0cd16ada813", checked := Try.checked }
namespace Rows
def none {H : Type} : Left H := { results := [], args := [] }

/-- 'lychgatelaw.FlowTells': WHATEVER THE INPUT: true; the input reads as it did. -/
def flowTellsSpec : ChangeSpec := { name := "flowTells", fn := fun _ => fun
  | [d] => { results := [.lit (.bool true)], args := [d] }
  | _ => none }
def flowTellsRow : OpenClaim := { program := "ytlkkdpoioedacaa", sum := "c34c470c80653772dd2ccdf55f454a7d5461e5aeda42fffcd491c0cd16ada813", func := "lychgate/lychgatelaw.FlowTells", spec := "flowTells", unfollowed := true, recurses := true, plainKeys := false, apart := false }
def FlowTellsSaid : Prop := flowTellsRow.holds Try.pinned (OpenSpec.ofChange flowTellsSpec)

/-- ITS FALSE NEIGHBOUR: 'it returns false'. Refute it at one input. -/
def flowTellsWrong : ChangeSpec := { name := "flowTells", fn := fun _ => fun
  | [d] => { results := [.lit (.bool false)], args := [d] }
  | _ => none }
def FlowTellsWrongFalsely : Prop := flowTellsRow.holds Try.pinned (OpenSpec.ofChange flowTellsWrong)

/-- 'lychgatelaw.FlowPaths': WHATEVER THE INPUT: true; the input reads as it did. -/
def flowPathsSpec : ChangeSpec := { name := "flowPaths", fn := fun _ => fun
  | [d1, d2, d3] => { results := [.lit (.bool true)], args := [d1, d2, d3] }
  | _ => none }
def flowPathsRow : OpenClaim := { program := "ytlkkdpoioedacaa", sum := "c34c470c80653772dd2ccdf55f454a7d5461e5aeda42fffcd491c0cd16ada813", func := "lychgate/lychgatelaw.FlowPaths", spec := "flowPaths", unfollowed := true, recurses := true, plainKeys := false, apart := false }
def FlowPathsSaid : Prop := flowPathsRow.holds Try.pinned (OpenSpec.ofChange flowPathsSpec)

/-- ITS FALSE NEIGHBOUR: 'it returns false'. Refute it at one input. -/
def flowPathsWrong : ChangeSpec := { name := "flowPaths", fn := fun _ => fun
  | [d1, d2, d3] => { results := [.lit (.bool false)], args := [d1, d2, d3] }
  | _ => none }
def FlowPathsWrongFalsely : Prop := flowPathsRow.holds Try.pinned (OpenSpec.ofChange flowPathsWrong)

/-- 'lychgatelaw.FlowTrue': WHATEVER THE INPUT: true; the input reads as it did. -/
def flowTrueSpec : ChangeSpec := { name := "flowTrue", fn := fun _ => fun
  | [d1, d2, d3, d4] => { results := [.lit (.bool true)], args := [d1, d2, d3, d4] }
  | _ => none }
def flowTrueRow : OpenClaim := { program := "ytlkkdpoioedacaa", sum := "c34c470c80653772dd2ccdf55f454a7d5461e5aeda42fffcd491c0cd16ada813", func := "lychgate/lychgatelaw.FlowTrue", spec := "flowTrue", unfollowed := true, recurses := true, plainKeys := false, apart := false }
def FlowTrueSaid : Prop := flowTrueRow.holds Try.pinned (OpenSpec.ofChange flowTrueSpec)

/-- ITS FALSE NEIGHBOUR: 'it returns false'. Refute it at one input. -/
def flowTrueWrong : ChangeSpec := { name := "flowTrue", fn := fun _ => fun
  | [d1, d2, d3, d4] => { results := [.lit (.bool false)], args := [d1, d2, d3, d4] }
  | _ => none }
def FlowTrueWrongFalsely : Prop := flowTrueRow.holds Try.pinned (OpenSpec.ofChange flowTrueWrong)

/-- 'lychgatelaw.CertMakes': WHATEVER THE INPUT: true; the input reads as it did. -/
def certMakesSpec : ChangeSpec := { name := "certMakes", fn := fun _ => fun
  | [d1, d2] => { results := [.lit (.bool true)], args := [d1, d2] }
  | _ => none }
def certMakesRow : OpenClaim := { program := "ytlkkdpoioedacaa", sum := "c34c470c80653772dd2ccdf55f454a7d5461e5aeda42fffcd491c0cd16ada813", func := "lychgate/lychgatelaw.CertMakes", spec := "certMakes", unfollowed := true, recurses := true, plainKeys := false, apart := false }
def CertMakesSaid : Prop := certMakesRow.holds Try.pinned (OpenSpec.ofChange certMakesSpec)

/-- ITS FALSE NEIGHBOUR: 'it returns false'. Refute it at one input. -/
def certMakesWrong : ChangeSpec := { name := "certMakes", fn := fun _ => fun
  | [d1, d2] => { results := [.lit (.bool false)], args := [d1, d2] }
  | _ => none }
def CertMakesWrongFalsely : Prop := certMakesRow.holds Try.pinned (OpenSpec.ofChange certMakesWrong)

/-- 'lychgatelaw.CertVerifies': WHATEVER THE INPUT: true; the input reads as it did. -/
def certVerifiesSpec : ChangeSpec := { name := "certVerifies", fn := fun _ => fun
  | [d1, d2, d3] => { results := [.lit (.bool true)], args := [d1, d2, d3] }
  | _ => none }
def certVerifiesRow : OpenClaim := { program := "ytlkkdpoioedacaa", sum := "c34c470c80653772dd2ccdf55f454a7d5461e5aeda42fffcd491c0cd16ada813", func := "lychgate/lychgatelaw.CertVerifies", spec := "certVerifies", unfollowed := true, recurses := true, plainKeys := false, apart := false }
def CertVerifiesSaid : Prop := certVerifiesRow.holds Try.pinned (OpenSpec.ofChange certVerifiesSpec)

/-- ITS FALSE NEIGHBOUR: 'it returns false'. Refute it at one input. -/
def certVerifiesWrong : ChangeSpec := { name := "certVerifies", fn := fun _ => fun
  | [d1, d2, d3] => { results := [.lit (.bool false)], args := [d1, d2, d3] }
  | _ => none }
def CertVerifiesWrongFalsely : Prop := certVerifiesRow.holds Try.pinned (OpenSpec.ofChange certVerifiesWrong)

/-- 'lychgatelaw.CertTrue': WHATEVER THE INPUT: true; the input reads as it did. -/
def certTrueSpec : ChangeSpec := { name := "certTrue", fn := fun _ => fun
  | [d1, d2, d3] => { results := [.lit (.bool true)], args := [d1, d2, d3] }
  | _ => none }
def certTrueRow : OpenClaim := { program := "ytlkkdpoioedacaa", sum := "c34c470c80653772dd2ccdf55f454a7d5461e5aeda42fffcd491c0cd16ada813", func := "lychgate/lychgatelaw.CertTrue", spec := "certTrue", unfollowed := true, recurses := true, plainKeys := false, apart := false }
def CertTrueSaid : Prop := certTrueRow.holds Try.pinned (OpenSpec.ofChange certTrueSpec)

/-- ITS FALSE NEIGHBOUR: 'it returns false'. Refute it at one input. -/
def certTrueWrong : ChangeSpec := { name := "certTrue", fn := fun _ => fun
  | [d1, d2, d3] => { results := [.lit (.bool false)], args := [d1, d2, d3] }
  | _ => none }
def CertTrueWrongFalsely : Prop := certTrueRow.holds Try.pinned (OpenSpec.ofChange certTrueWrong)

/-- 'lychgatelaw.ImageWrites': WHATEVER THE INPUT: true; the input reads as it did. -/
def imageWritesSpec : ChangeSpec := { name := "imageWrites", fn := fun _ => fun
  | [d1, d2] => { results := [.lit (.bool true)], args := [d1, d2] }
  | _ => none }
def imageWritesRow : OpenClaim := { program := "ytlkkdpoioedacaa", sum := "c34c470c80653772dd2ccdf55f454a7d5461e5aeda42fffcd491c0cd16ada813", func := "lychgate/lychgatelaw.ImageWrites", spec := "imageWrites", unfollowed := true, recurses := true, plainKeys := false, apart := false }
def ImageWritesSaid : Prop := imageWritesRow.holds Try.pinned (OpenSpec.ofChange imageWritesSpec)

/-- ITS FALSE NEIGHBOUR: 'it returns false'. Refute it at one input. -/
def imageWritesWrong : ChangeSpec := { name := "imageWrites", fn := fun _ => fun
  | [d1, d2] => { results := [.lit (.bool false)], args := [d1, d2] }
  | _ => none }
def ImageWritesWrongFalsely : Prop := imageWritesRow.holds Try.pinned (OpenSpec.ofChange imageWritesWrong)

/-- 'lychgatelaw.ImageBack': WHATEVER THE INPUT: true; the input reads as it did. -/
def imageBackSpec : ChangeSpec := { name := "imageBack", fn := fun _ => fun
  | [d1, d2] => { results := [.lit (.bool true)], args := [d1, d2] }
  | _ => none }
def imageBackRow : OpenClaim := { program := "ytlkkdpoioedacaa", sum := "c34c470c80653772dd2ccdf55f454a7d5461e5aeda42fffcd491c0cd16ada813", func := "lychgate/lychgatelaw.ImageBack", spec := "imageBack", unfollowed := true, recurses := true, plainKeys := false, apart := false }
def ImageBackSaid : Prop := imageBackRow.holds Try.pinned (OpenSpec.ofChange imageBackSpec)

/-- ITS FALSE NEIGHBOUR: 'it returns false'. Refute it at one input. -/
def imageBackWrong : ChangeSpec := { name := "imageBack", fn := fun _ => fun
  | [d1, d2] => { results := [.lit (.bool false)], args := [d1, d2] }
  | _ => none }
def ImageBackWrongFalsely : Prop := imageBackRow.holds Try.pinned (OpenSpec.ofChange imageBackWrong)

/-- 'lychgatelaw.FlatBack': WHATEVER THE INPUT: true; the input reads as it did. -/
def flatBackSpec : ChangeSpec := { name := "flatBack", fn := fun _ => fun
  | [d1, d2, d3] => { results := [.lit (.bool true)], args := [d1, d2, d3] }
  | _ => none }
def flatBackRow : OpenClaim := { program := "ytlkkdpoioedacaa", sum := "c34c470c80653772dd2ccdf55f454a7d5461e5aeda42fffcd491c0cd16ada813", func := "lychgate/lychgatelaw.FlatBack", spec := "flatBack", unfollowed := true, recurses := true, plainKeys := false, apart := false }
def FlatBackSaid : Prop := flatBackRow.holds Try.pinned (OpenSpec.ofChange flatBackSpec)

/-- ITS FALSE NEIGHBOUR: 'it returns false'. Refute it at one input. -/
def flatBackWrong : ChangeSpec := { name := "flatBack", fn := fun _ => fun
  | [d1, d2, d3] => { results := [.lit (.bool false)], args := [d1, d2, d3] }
  | _ => none }
def FlatBackWrongFalsely : Prop := flatBackRow.holds Try.pinned (OpenSpec.ofChange flatBackWrong)

/-- 'lychgatelaw.FlatSafe': WHATEVER THE INPUT: true; the input reads as it did. -/
def flatSafeSpec : ChangeSpec := { name := "flatSafe", fn := fun _ => fun
  | [d1, d2] => { results := [.lit (.bool true)], args := [d1, d2] }
  | _ => none }
def flatSafeRow : OpenClaim := { program := "ytlkkdpoioedacaa", sum := "c34c470c80653772dd2ccdf55f454a7d5461e5aeda42fffcd491c0cd16ada813", func := "lychgate/lychgatelaw.FlatSafe", spec := "flatSafe", unfollowed := true, recurses := true, plainKeys := false, apart := false }
def FlatSafeSaid : Prop := flatSafeRow.holds Try.pinned (OpenSpec.ofChange flatSafeSpec)

/-- ITS FALSE NEIGHBOUR: 'it returns false'. Refute it at one input. -/
def flatSafeWrong : ChangeSpec := { name := "flatSafe", fn := fun _ => fun
  | [d1, d2] => { results := [.lit (.bool false)], args := [d1, d2] }
  | _ => none }
def FlatSafeWrongFalsely : Prop := flatSafeRow.holds Try.pinned (OpenSpec.ofChange flatSafeWrong)

/- THE SECOND FORM. 'bulk': how many values and letters a reading holds, each counted each time it is reached (what is shared counts as often as it is met; a slice's spare places count too). A statement '..UptoSaid' is the law's where the arguments, and the package variables that the reading takes, are together of bulk at most 1048576: NARROWER than '..Said'. Prove '..Said' where nothing that the law and all that it calls make is longer than what came in: it says more and counts as full. Else prove '..UptoSaid'. A law counts once. -/
mutual
def uptoBulk {H : Type} : DataW H → Nat
  | .lit (.string bytes) => bytes.length + 1
  | .lit _ => 1
  | .nil => 1
  | .ptr d => uptoBulk d + 1
  | .slice elems spare => uptoBulkAll elems + uptoBulkAll spare + 1
  | .agg parts => uptoBulkAll parts + 1
  | .iface _ d => uptoBulk d + 1
  | .map entries => uptoBulkEntries entries + 1
  | .held _ => 1
def uptoBulkAll {H : Type} : List (DataW H) → Nat
  | [] => 0
  | d :: r => uptoBulk d + uptoBulkAll r
def uptoBulkEntries {H : Type} : List (Lit × DataW H) → Nat
  | [] => 0
  | x :: r => uptoBulkEntry x + uptoBulkEntries r
def uptoBulkEntry {H : Type} : Lit × DataW H → Nat
  | (.string bytes, d) => bytes.length + uptoBulk d + 1
  | (_, d) => uptoBulk d + 1
 end
def uptoSmall : (H : Type) → List (DataW H) → Bool := fun _ ds => decide (uptoBulkAll ds ≤ 1048576)
def OpenSpec.upto (s : _root_.Go.ChangeSpec) : _root_.Go.OpenSpec := { _root_.Go.OpenSpec.ofChange s with cond := some uptoSmall }

/-- 'lychgatelaw.FlowTells', WHERE WHAT IT READS IS OF BULK AT MOST 1048576: true; the input reads as it did. -/
def flowTellsUptoRow : OpenClaim := { program := "ytlkkdpoioedacaa", sum := "c34c470c80653772dd2ccdf55f454a7d5461e5aeda42fffcd491c0cd16ada813", func := "lychgate/lychgatelaw.FlowTells", spec := "flowTells", unfollowed := true, recurses := true, plainKeys := false, apart := false, narrowed := true }
def FlowTellsUptoSaid : Prop := flowTellsUptoRow.holds Try.pinned (OpenSpec.upto flowTellsSpec)

/-- 'lychgatelaw.FlowPaths', WHERE WHAT IT READS IS OF BULK AT MOST 1048576: true; the input reads as it did. -/
def flowPathsUptoRow : OpenClaim := { program := "ytlkkdpoioedacaa", sum := "c34c470c80653772dd2ccdf55f454a7d5461e5aeda42fffcd491c0cd16ada813", func := "lychgate/lychgatelaw.FlowPaths", spec := "flowPaths", unfollowed := true, recurses := true, plainKeys := false, apart := false, narrowed := true }
def FlowPathsUptoSaid : Prop := flowPathsUptoRow.holds Try.pinned (OpenSpec.upto flowPathsSpec)

/-- 'lychgatelaw.FlowTrue', WHERE WHAT IT READS IS OF BULK AT MOST 1048576: true; the input reads as it did. -/
def flowTrueUptoRow : OpenClaim := { program := "ytlkkdpoioedacaa", sum := "c34c470c80653772dd2ccdf55f454a7d5461e5aeda42fffcd491c0cd16ada813", func := "lychgate/lychgatelaw.FlowTrue", spec := "flowTrue", unfollowed := true, recurses := true, plainKeys := false, apart := false, narrowed := true }
def FlowTrueUptoSaid : Prop := flowTrueUptoRow.holds Try.pinned (OpenSpec.upto flowTrueSpec)

/-- 'lychgatelaw.CertMakes', WHERE WHAT IT READS IS OF BULK AT MOST 1048576: true; the input reads as it did. -/
def certMakesUptoRow : OpenClaim := { program := "ytlkkdpoioedacaa", sum := "c34c470c80653772dd2ccdf55f454a7d5461e5aeda42fffcd491c0cd16ada813", func := "lychgate/lychgatelaw.CertMakes", spec := "certMakes", unfollowed := true, recurses := true, plainKeys := false, apart := false, narrowed := true }
def CertMakesUptoSaid : Prop := certMakesUptoRow.holds Try.pinned (OpenSpec.upto certMakesSpec)

/-- 'lychgatelaw.CertVerifies', WHERE WHAT IT READS IS OF BULK AT MOST 1048576: true; the input reads as it did. -/
def certVerifiesUptoRow : OpenClaim := { program := "ytlkkdpoioedacaa", sum := "c34c470c80653772dd2ccdf55f454a7d5461e5aeda42fffcd491c0cd16ada813", func := "lychgate/lychgatelaw.CertVerifies", spec := "certVerifies", unfollowed := true, recurses := true, plainKeys := false, apart := false, narrowed := true }
def CertVerifiesUptoSaid : Prop := certVerifiesUptoRow.holds Try.pinned (OpenSpec.upto certVerifiesSpec)

/-- 'lychgatelaw.CertTrue', WHERE WHAT IT READS IS OF BULK AT MOST 1048576: true; the input reads as it did. -/
def certTrueUptoRow : OpenClaim := { program := "ytlkkdpoioedacaa", sum := "c34c470c80653772dd2ccdf55f454a7d5461e5aeda42fffcd491c0cd16ada813", func := "lychgate/lychgatelaw.CertTrue", spec := "certTrue", unfollowed := true, recurses := true, plainKeys := false, apart := false, narrowed := true }
def CertTrueUptoSaid : Prop := certTrueUptoRow.holds Try.pinned (OpenSpec.upto certTrueSpec)

/-- 'lychgatelaw.ImageWrites', WHERE WHAT IT READS IS OF BULK AT MOST 1048576: true; the input reads as it did. -/
def imageWritesUptoRow : OpenClaim := { program := "ytlkkdpoioedacaa", sum := "c34c470c80653772dd2ccdf55f454a7d5461e5aeda42fffcd491c0cd16ada813", func := "lychgate/lychgatelaw.ImageWrites", spec := "imageWrites", unfollowed := true, recurses := true, plainKeys := false, apart := false, narrowed := true }
def ImageWritesUptoSaid : Prop := imageWritesUptoRow.holds Try.pinned (OpenSpec.upto imageWritesSpec)

/-- 'lychgatelaw.ImageBack', WHERE WHAT IT READS IS OF BULK AT MOST 1048576: true; the input reads as it did. -/
def imageBackUptoRow : OpenClaim := { program := "ytlkkdpoioedacaa", sum := "c34c470c80653772dd2ccdf55f454a7d5461e5aeda42fffcd491c0cd16ada813", func := "lychgate/lychgatelaw.ImageBack", spec := "imageBack", unfollowed := true, recurses := true, plainKeys := false, apart := false, narrowed := true }
def ImageBackUptoSaid : Prop := imageBackUptoRow.holds Try.pinned (OpenSpec.upto imageBackSpec)

/-- 'lychgatelaw.FlatBack', WHERE WHAT IT READS IS OF BULK AT MOST 1048576: true; the input reads as it did. -/
def flatBackUptoRow : OpenClaim := { program := "ytlkkdpoioedacaa", sum := "c34c470c80653772dd2ccdf55f454a7d5461e5aeda42fffcd491c0cd16ada813", func := "lychgate/lychgatelaw.FlatBack", spec := "flatBack", unfollowed := true, recurses := true, plainKeys := false, apart := false, narrowed := true }
def FlatBackUptoSaid : Prop := flatBackUptoRow.holds Try.pinned (OpenSpec.upto flatBackSpec)

/-- 'lychgatelaw.FlatSafe', WHERE WHAT IT READS IS OF BULK AT MOST 1048576: true; the input reads as it did. -/
def flatSafeUptoRow : OpenClaim := { program := "ytlkkdpoioedacaa", sum := "c34c470c80653772dd2ccdf55f454a7d5461e5aeda42fffcd491c0cd16ada813", func := "lychgate/lychgatelaw.FlatSafe", spec := "flatSafe", unfollowed := true, recurses := true, plainKeys := false, apart := false, narrowed := true }
def FlatSafeUptoSaid : Prop := flatSafeUptoRow.holds Try.pinned (OpenSpec.upto flatSafeSpec)

end Rows
end Go.Proofs.Ytlkkdpoioedacaa
