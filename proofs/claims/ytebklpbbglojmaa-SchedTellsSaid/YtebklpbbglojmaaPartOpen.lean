/- Parts among a law's arguments. -/
import Derived.Test.YtebklpbbglojmaaEngO
import Derived.Test.YtebklpbbglojmaaCellSpec
import Derived.Test.YtebklpbbglojmaaTys
namespace Go.Proofs.Ytebklpbbglojmaa
set_option linter.unusedVariables false
set_option linter.unusedSimpArgs false
open Go.ChangeShapes Go.WideShapes Go.ChangeAt Go.RowKit
set_option maxRecDepth 100000

section
variable {H : Type} {enc : TypeId × Value → H} {w : World} {base base' : Nat} {r : Reach} {spare : Nat → Bool} {held : Bool} {v : Value} {d : DataW H} {p : List MemPlace}
theorem ins_rd {u : World} {n : Nat} {cs : List Value} (h : Rd Try.prog u (n + 2) 95 cs) : ∃ i : Ins, cs = i.cells := by
  obtain ⟨l, rfl, hl⟩ := h.ints_of_fields Try.underlying95 (by kernel_rfl) (by kernel_rfl) (by kernel_rfl)
  match l, hl with
  | [a, b, c, e], _ => exact ⟨⟨a, b, c, e⟩, rfl⟩
theorem code_rd {u : World} {n : Nat} {cs : List Value} (h : Rd Try.prog u (n + 3) 40 cs) : ∃ (v : Value) (l : List Ins), cs = [v] ∧ Code_ u v l :=
  Rd.flatS Try.underlying40 (by kernel_rfl) Ins.cells_len (fun _ h => ins_rd h) h
theorem part_rd {u : World} {n : Nat} {cs : List Value} (h : Rd Try.prog u (n + 4) 42 cs) : ∃ (cv iv : Value) (p : Prt), cs = [cv, iv] ∧ Code_ u cv p.code ∧ Ints u iv p.inp := by
  obtain ⟨hl, -⟩ := h.struct Try.underlying42
  have h2 : Try.prog.cellsOf 42 = 2 := by kernel_rfl
  have h1 : Try.prog.cellsOf 22 = 1 := by kernel_rfl
  have h1' : Try.prog.cellsOf 40 = 1 := by kernel_rfl
  rw [h2] at hl
  match cs, hl with
  | [a, b], _ =>
    have g0 := h.fld Try.underlying42 0 rfl rfl rfl h1' rfl
    have g1 := h.fld Try.underlying42 1 rfl rfl rfl h1 rfl
    obtain ⟨v0, l0, e0, k0⟩ := code_rd g0
    obtain ⟨v1, l1, e1, k1⟩ := Rd.intsS Try.underlying22 Try.underlying3 (by kernel_rfl) g1
    obtain rfl : a = v0 := by simpa using e0
    obtain rfl : b = v1 := by simpa using e1
    exact ⟨a, b, ⟨l0, l1⟩, rfl, k0, k1⟩
theorem one_int {x : Value} {u : World} {n : Nat} (h : Rd Try.prog u (n + 1) 3 [x]) : ∃ m, x = .int .i64 m := by
  obtain ⟨m, e, _⟩ := h.int Try.underlying3
  exact ⟨m, by simpa using e⟩
theorem agg_toList {cs : Array Value} {l : List Value} (h : cs.toList = l) : Value.agg cs = .agg l.toArray := by rw [← h]
theorem part_open (hv : Value.okWide Try.prog w r base' 42 v) (h : DataW.Trod enc Try.prog w base spare held 42 v d p) : ∃ (cv iv : Value) (p : Prt), v = .agg #[cv, iv] ∧ Code_ w cv p.code ∧ Ints w iv p.inp := by
  obtain ⟨cs, rfl, _⟩ := okWide_struct Try.underlying42 hv
  obtain ⟨cv, iv, p, e, h1, h2⟩ := part_rd (n := 0) (rd_of 4 h)
  exact ⟨cv, iv, p, agg_toList e, h1, h2⟩
end
end Go.Proofs.Ytebklpbbglojmaa
