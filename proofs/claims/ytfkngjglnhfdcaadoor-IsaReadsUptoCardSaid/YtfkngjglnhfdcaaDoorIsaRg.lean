/- Both readings of a text, side by side. -/
import Derived.Test.YtfkngjglnhfdcaaDoorIsaFr
namespace Go.Proofs.YtfkngjglnhfdcaaDoor
set_option linter.unusedVariables false
set_option linter.unusedSimpArgs false
open Go.ChangeShapes Go.WideShapes Go.ChangeAt Go.RowKit
set_option maxRecDepth 100000
/-- what both readings give is one -/
structure Reading (l : List UInt8) (i : Ins) (ok : Bool) : Prop where
  yes : ok = true → Says l i
  no : ok = false → i = ⟨0, 0, 0, 0⟩ ∧ ∀ j, ¬ Says l j
theorem Reading.same {l : List UInt8} {i j : Ins} {x y : Bool} (h : Reading l i x) (k : Reading l j y) : i = j ∧ x = y := by
  cases x <;> cases y
  · exact ⟨(h.no rfl).1.trans (k.no rfl).1.symm, rfl⟩
  · exact absurd (k.yes rfl) ((h.no rfl).2 _)
  · exact absurd (h.yes rfl) ((k.no rfl).2 _)
  · exact ⟨(h.yes rfl).unique (k.yes rfl), rfl⟩
theorem read_one (l : List UInt8) (hl : l.length < 4294967281) {w : World} (hL : Lay w) : Calls Tryd.prog 11 #[.string (bstr l)] w fun e w' => ∃ i x, e = .returned (.tuple #[i.val, .int .i64 (if x then 0 else 1)]) ∧ Below w.heap.size w w' ∧ Reading l i x := by
  refine (isaRead_any l hl hL).mono ?_
  rintro e w' ⟨i, c, rfl, hb, h⟩
  rcases h with ⟨rfl, h⟩ | ⟨rfl, rfl, h⟩
  · exact ⟨i, true, rfl, hb, ⟨fun _ => h, fun h => (by cases h)⟩⟩
  · exact ⟨_, false, rfl, hb, ⟨fun h => (by cases h), fun _ => ⟨rfl, h⟩⟩⟩
theorem from_one (l : List UInt8) (hl : l.length ≤ 4294967296) (w : World) : Calls Tryd.prog 12 #[.string (bstr l)] w fun e w' => ∃ i x, e = .returned (.tuple #[i.val, .bool x]) ∧ Below w.heap.size w w' ∧ Reading l i x := by
  refine (instrFrom_any l hl w).mono ?_
  rintro e w' ⟨i, b, rfl, hb, h⟩
  rcases h with ⟨rfl, h⟩ | ⟨rfl, rfl, h⟩
  · exact ⟨i, true, rfl, hb, ⟨fun _ => h, fun h => (by cases h)⟩⟩
  · exact ⟨_, false, rfl, hb, ⟨fun h => (by cases h), fun _ => ⟨rfl, h⟩⟩⟩
theorem rd_ok {l : List UInt8} {i : Ins} {x : Bool} (h : Reading l i x) (hx : ¬ (if x then 0 else 1 : Int) ≠ 0) : Says l i := h.yes (by cases x <;> simp_all)
theorem read_txt {i : Ins} (hc : chkIns i = 0) (hi : i.In) {w : World} (hL : Lay w) : Calls Tryd.prog 11 #[.string (bstr (txtI i))] w fun e w' => e = .returned (.tuple #[i.val, .int .i64 0]) ∧ Below w.heap.size w w' := by
  refine (isaRead_any _ (Nat.lt_of_le_of_lt (txt_len hi) (by decide)) hL).mono ?_
  rintro e w' ⟨j, c, rfl, hb, h⟩
  have hs : Says (txtI i) i := ⟨hc, hi, rfl⟩
  rcases h with ⟨rfl, h⟩ | ⟨-, -, h⟩
  · obtain rfl := h.unique hs
    exact ⟨rfl, hb⟩
  · exact absurd hs (h _)
end Go.Proofs.YtfkngjglnhfdcaaDoor
