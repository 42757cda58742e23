/-
  DERIVED. GIVEN WITH THE SEED: THE CARDS: each row of YtndcjmopebcdgaaGreatDoorRows.lean that lists a variable, with what it lists TIED to the program's text (the seventh form; the later family's looks); each row that meets fmt, with fmt's text TOLD by the authors' own Lean function (tested against real Go, not proved from fmt's source: count such statements apart). THE CARD IS WHAT COUNTS. Prove the row's statement (the work); the ties are given (YtndcjmopebcdgaaGreatDoorTie.lean); close each card by the builder's one call (the guide's Derived/Test/ToyasCard.lean, 'card_holds'). Laid BY PROGRAM, IN A SANDBOX (cutbox-door.mjs). By AI agents, Wed Nov 11 2026. No macro, syntax, notation, axiom, sorry.
-/
import Derived.Test.YtndcjmopebcdgaaGreatDoorRows
import GoSem.ClaimSeven
namespace Go.Proofs.YtndcjmopebcdgaaGreatDoor
namespace Rows

/-- THE TIED CARD OF 'lychgatelaw.DeskJudges'. -/
def deskJudgesCard : Claim7 := { stood := { row := deskJudgesRow, standIns := [], harness := (true, "273d59ea6d52b559e76a8c72fed8ecaea9baefe44c4b4f5b30662f3e6163e3d4"), looks := true }, kinds := [], alts := [], laidByText := true, laidKinds := [.data, .data, .data, .data, .sentinel, .sentinel, .pinned], laidTests := true, laidLooks := .later }
def DeskJudgesCardSaid : Prop := Claim7.holds Tryz.pinned (.plain (OpenSpec.ofChange deskJudgesSpec)) deskJudgesCard

/-- THE TIED CARD OF 'lychgatelaw.DeskSound'. -/
def deskSoundCard : Claim7 := { stood := { row := deskSoundRow, standIns := [], harness := (true, "273d59ea6d52b559e76a8c72fed8ecaea9baefe44c4b4f5b30662f3e6163e3d4"), looks := true }, kinds := [], alts := [], laidByText := true, laidKinds := [.data, .data, .data, .data, .sentinel, .sentinel, .pinned], laidTests := true, laidLooks := .later }
def DeskSoundCardSaid : Prop := Claim7.holds Tryz.pinned (.plain (OpenSpec.ofChange deskSoundSpec)) deskSoundCard

/-- THE SECOND FORM's CARD OF 'lychgatelaw.DeskJudges'. -/
def deskJudgesUptoCard : Claim7 := { stood := { row := deskJudgesUptoRow, standIns := [], harness := (true, "273d59ea6d52b559e76a8c72fed8ecaea9baefe44c4b4f5b30662f3e6163e3d4"), looks := true }, kinds := [], alts := [], laidByText := true, laidKinds := [.data, .data, .data, .data, .sentinel, .sentinel, .pinned], laidTests := true, laidLooks := .later }
def DeskJudgesUptoCardSaid : Prop := Claim7.holds Tryz.pinned (.plain (OpenSpec.upto deskJudgesSpec)) deskJudgesUptoCard

/-- THE SECOND FORM's CARD OF 'lychgatelaw.DeskSound'. -/
def deskSoundUptoCard : Claim7 := { stood := { row := deskSoundUptoRow, standIns := [], harness := (true, "273d59ea6d52b559e76a8c72fed8ecaea9baefe44c4b4f5b30662f3e6163e3d4"), looks := true }, kinds := [], alts := [], laidByText := true, laidKinds := [.data, .data, .data, .data, .sentinel, .sentinel, .pinned], laidTests := true, laidLooks := .later }
def DeskSoundUptoCardSaid : Prop := Claim7.holds Tryz.pinned (.plain (OpenSpec.upto deskSoundSpec)) deskSoundUptoCard
end Rows
end Go.Proofs.YtndcjmopebcdgaaGreatDoor
