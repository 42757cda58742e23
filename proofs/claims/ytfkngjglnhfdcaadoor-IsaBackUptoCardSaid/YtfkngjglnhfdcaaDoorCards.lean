/-
  DERIVED. GIVEN WITH THE SEED: THE CARDS: each row of YtfkngjglnhfdcaaDoorRows.lean that lists a variable, with what it lists TIED to the program's text (the seventh form; the later family's looks); each row that meets fmt, with fmt's text TOLD by the authors' own Lean function (tested against real Go, not proved from fmt's source: count such statements apart). THE CARD IS WHAT COUNTS. Prove the row's statement (the work); the ties are given (YtfkngjglnhfdcaaDoorTie.lean); close each card by the builder's one call (the guide's Derived/Test/ToyasCard.lean, 'card_holds'). Laid BY PROGRAM, IN A SANDBOX (cutbox-door.mjs). By AI agents, Wed Nov 11 2026. No macro, syntax, notation, axiom, sorry.
-/
import Derived.Test.YtfkngjglnhfdcaaDoorRows
import GoSem.ClaimSeven
namespace Go.Proofs.YtfkngjglnhfdcaaDoor
namespace Rows

/-- THE TIED CARD OF 'lychgatelaw.IsaChecks'. -/
def isaChecksCard : Claim7 := { stood := { row := isaChecksRow, standIns := [], harness := (true, "4ac16284a55d1431cd6ead4b70702590919e3f58eab9ac802b71fc2143a7e3f3"), looks := true }, kinds := [], alts := [], laidByText := true, laidKinds := [.data, .data, .data, .data, .sentinel, .sentinel, .pinned], laidTests := true, laidLooks := .later }
def IsaChecksCardSaid : Prop := Claim7.holds Tryd.pinned (.plain (OpenSpec.ofChange isaChecksSpec)) isaChecksCard

/-- THE TIED CARD OF 'lychgatelaw.IsaReads'. -/
def isaReadsCard : Claim7 := { stood := { row := isaReadsRow, standIns := [], harness := (true, "4ac16284a55d1431cd6ead4b70702590919e3f58eab9ac802b71fc2143a7e3f3"), looks := true }, kinds := [], alts := [], laidByText := true, laidKinds := [.data, .data, .data, .data, .sentinel, .sentinel, .pinned], laidTests := true, laidLooks := .later }
def IsaReadsCardSaid : Prop := Claim7.holds Tryd.pinned (.plain (OpenSpec.ofChange isaReadsSpec)) isaReadsCard

/-- THE TIED CARD OF 'lychgatelaw.IsaBack'. -/
def isaBackCard : Claim7 := { stood := { row := isaBackRow, standIns := [], harness := (true, "4ac16284a55d1431cd6ead4b70702590919e3f58eab9ac802b71fc2143a7e3f3"), looks := true }, kinds := [], alts := [], laidByText := true, laidKinds := [.data, .data, .data, .data, .sentinel, .sentinel, .pinned], laidTests := true, laidLooks := .later }
def IsaBackCardSaid : Prop := Claim7.holds Tryd.pinned (.plain (OpenSpec.ofChange isaBackSpec)) isaBackCard

/-- THE SECOND FORM's CARD OF 'lychgatelaw.IsaChecks'. -/
def isaChecksUptoCard : Claim7 := { stood := { row := isaChecksUptoRow, standIns := [], harness := (true, "4ac16284a55d1431cd6ead4b70702590919e3f58eab9ac802b71fc2143a7e3f3"), looks := true }, kinds := [], alts := [], laidByText := true, laidKinds := [.data, .data, .data, .data, .sentinel, .sentinel, .pinned], laidTests := true, laidLooks := .later }
def IsaChecksUptoCardSaid : Prop := Claim7.holds Tryd.pinned (.plain (OpenSpec.upto isaChecksSpec)) isaChecksUptoCard

/-- THE SECOND FORM's CARD OF 'lychgatelaw.IsaReads'. -/
def isaReadsUptoCard : Claim7 := { stood := { row := isaReadsUptoRow, standIns := [], harness := (true, "4ac16284a55d1431cd6ead4b70702590919e3f58eab9ac802b71fc2143a7e3f3"), looks := true }, kinds := [], alts := [], laidByText := true, laidKinds := [.data, .data, .data, .data, .sentinel, .sentinel, .pinned], laidTests := true, laidLooks := .later }
def IsaReadsUptoCardSaid : Prop := Claim7.holds Tryd.pinned (.plain (OpenSpec.upto isaReadsSpec)) isaReadsUptoCard

/-- THE SECOND FORM's CARD OF 'lychgatelaw.IsaBack'. -/
def isaBackUptoCard : Claim7 := { stood := { row := isaBackUptoRow, standIns := [], harness := (true, "4ac16284a55d1431cd6ead4b70702590919e3f58eab9ac802b71fc2143a7e3f3"), looks := true }, kinds := [], alts := [], laidByText := true, laidKinds := [.data, .data, .data, .data, .sentinel, .sentinel, .pinned], laidTests := true, laidLooks := .later }
def IsaBackUptoCardSaid : Prop := Claim7.holds Tryd.pinned (.plain (OpenSpec.upto isaBackSpec)) isaBackUptoCard
end Rows
end Go.Proofs.YtfkngjglnhfdcaaDoor
