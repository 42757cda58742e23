/- Parts, cells and wants among a law's arguments; the cell that a step leaves is well formed. -/
import Derived.Test.YtebklpbbglojmaaEngO
import Derived.Test.YtebklpbbglojmaaCellLaw
namespace Go.Proofs.Ytebklpbbglojmaa
set_option linter.unusedVariables false
set_option linter.unusedSimpArgs false
open Go.ChangeShapes Go.WideShapes Go.ChangeAt Go.RowKit
set_option maxRecDepth 100000

section
variable {H : Type} {enc : TypeId × Value → H} {w : World} {base base' : Nat} {r : Reach} {spare : Nat → Bool} {held : Bool} {v : Value} {d : DataW H} {p : List MemPlace}
theorem ins_rd {u : World} {n : Nat} {cs : List Value} (h : Rd Try.prog u (n + 2) 95 cs) : ∃ i : Ins, cs = i.cells := by
  obtain ⟨l, rfl, hl⟩ := h.ints_of_fields Try.underlying95 (by kernel_rfl) (by kernel_rfl) (by kernel_rfl)
  match l, hl with
  | [a, b, c, e], _ => exact ⟨⟨a, b, c, e⟩, rfl⟩
theorem code_rd {u : World} {n : Nat} {cs : List Value} (h : Rd Try.prog u (n + 3) 40 cs) : ∃ (v : Value) (l : List Ins), cs = [v] ∧ Code_ u v l :=
  Rd.flatS Try.underlying40 (by kernel_rfl) Ins.cells_len (fun _ h => ins_rd h) h
theorem part_rd {u : World} {n : Nat} {cs : List Value} (h : Rd Try.prog u (n + 4) 42 cs) : ∃ (cv iv : Value) (p : Prt), cs = [cv, iv] ∧ Code_ u cv p.code ∧ Ints u iv p.inp := by
  obtain ⟨hl, -⟩ := h.struct Try.underlying42
  have h2 : Try.prog.cellsOf 42 = 2 := by kernel_rfl
  have h1 : Try.prog.cellsOf 22 = 1 := by kernel_rfl
  have h1' : Try.prog.cellsOf 40 = 1 := by kernel_rfl
  rw [h2] at hl
  match cs, hl with
  | [a, b], _ =>
    have g0 := h.fld Try.underlying42 0 rfl rfl rfl h1' rfl
    have g1 := h.fld Try.underlying42 1 rfl rfl rfl h1 rfl
    obtain ⟨v0, l0, e0, k0⟩ := code_rd g0
    obtain ⟨v1, l1, e1, k1⟩ := Rd.intsS Try.underlying22 Try.underlying3 (by kernel_rfl) g1
    obtain rfl : a = v0 := by simpa using e0
    obtain rfl : b = v1 := by simpa using e1
    exact ⟨a, b, ⟨l0, l1⟩, rfl, k0, k1⟩
theorem one_int {x : Value} {u : World} {n : Nat} (h : Rd Try.prog u (n + 1) 3 [x]) : ∃ m, x = .int .i64 m := by
  obtain ⟨m, e, _⟩ := h.int Try.underlying3
  exact ⟨m, by simpa using e⟩
theorem cell_rd {u : World} {n : Nat} {cs : List Value} (h : Rd Try.prog u (n + 3) 46 cs) : ∃ (c : Cel) (ov : Value), cs = cellL c ov ∧ c.wf ∧ Ints u ov c.out := by
  obtain ⟨hl, -⟩ := h.struct Try.underlying46
  have h16 : Try.prog.cellsOf 46 = 16 := by kernel_rfl
  have h1 : Try.prog.cellsOf 22 = 1 := by kernel_rfl
  have h1' : Try.prog.cellsOf 3 = 1 := by kernel_rfl
  have h4 : Try.prog.cellsOf 43 = 4 := by kernel_rfl
  have h8 : Try.prog.cellsOf 44 = 8 := by kernel_rfl
  rw [h16] at hl
  match cs, hl with
  | [x0, x1, x2, x3, x4, x5, x6, x7, x8, x9, x10, x11, x12, x13, x14, x15], _ =>
    have g0 := h.fld Try.underlying46 0 rfl rfl rfl h1' rfl
    have g1 : Rd Try.prog u (n + 2) 43 [x1, x2, x3, x4] := h.fld Try.underlying46 1 rfl rfl rfl h4 rfl
    have g2 : Rd Try.prog u (n + 2) 44 [x5, x6, x7, x8, x9, x10, x11, x12] := h.fld Try.underlying46 2 rfl rfl rfl h8 rfl
    have g3 := h.fld Try.underlying46 3 rfl rfl rfl h1' rfl
    have g4 := h.fld Try.underlying46 4 rfl rfl rfl h1 rfl
    have g5 := h.fld Try.underlying46 5 rfl rfl rfl h1' rfl
    obtain ⟨at_, rfl⟩ := one_int g0
    obtain ⟨l1, e1, k1⟩ := Rd.ints_of_array Try.underlying43 Try.underlying3 (by kernel_rfl) (by kernel_rfl) g1
    obtain ⟨l2, e2, k2⟩ := Rd.ints_of_array Try.underlying44 Try.underlying3 (by kernel_rfl) (by kernel_rfl) g2
    obtain ⟨rd, rfl⟩ := one_int g3
    obtain ⟨v4, l4, e4, k4⟩ := Rd.intsS Try.underlying22 Try.underlying3 (by kernel_rfl) g4
    obtain ⟨en, rfl⟩ := one_int g5
    obtain rfl : x14 = v4 := by simpa using e4
    refine ⟨⟨at_, l1, l2, rd, l4, en⟩, x14, ?_, ⟨k1, k2⟩, k4⟩
    simp only [cellL, ← e1, ← e2, List.cons_append, List.nil_append]
theorem want_rd {u : World} {n : Nat} {cs : List Value} (h : Rd Try.prog u (n + 2) 48 cs) : ∃ k : Wnt, cs = wantL k := by
  obtain ⟨l, rfl, hl⟩ := h.ints_of_fields Try.underlying48 (by kernel_rfl) (by kernel_rfl) (by kernel_rfl)
  match l, hl with
  | [a, b, c, e, f], _ => exact ⟨⟨a, b, c, e, f⟩, rfl⟩
theorem agg_toList {cs : Array Value} {l : List Value} (h : cs.toList = l) : Value.agg cs = .agg l.toArray := by rw [← h]
theorem part_open (hv : Value.okWide Try.prog w r base' 42 v) (h : DataW.Trod enc Try.prog w base spare held 42 v d p) : ∃ (cv iv : Value) (p : Prt), v = .agg #[cv, iv] ∧ Code_ w cv p.code ∧ Ints w iv p.inp := by
  obtain ⟨cs, rfl, _⟩ := okWide_struct Try.underlying42 hv
  obtain ⟨cv, iv, p, e, h1, h2⟩ := part_rd (n := 0) (rd_of 4 h)
  exact ⟨cv, iv, p, agg_toList e, h1, h2⟩
theorem cell_open (hv : Value.okWide Try.prog w r base' 46 v) (h : DataW.Trod enc Try.prog w base spare held 46 v d p) : ∃ (c : Cel) (ov : Value), v = celV c ov ∧ c.wf ∧ Ints w ov c.out := by
  obtain ⟨cs, rfl, _⟩ := okWide_struct Try.underlying46 hv
  obtain ⟨c, ov, e, h1, h2⟩ := cell_rd (n := 0) (rd_of 3 h)
  exact ⟨c, ov, agg_toList e, h1, h2⟩
theorem want_open (hv : Value.okWide Try.prog w r base' 48 v) (h : DataW.Trod enc Try.prog w base spare held 48 v d p) : ∃ k : Wnt, v = wntV k := by
  obtain ⟨cs, rfl, _⟩ := okWide_struct Try.underlying48 hv
  obtain ⟨k, e⟩ := want_rd (n := 0) (rd_of 2 h)
  exact ⟨k, agg_toList e⟩
end

theorem doOf_wf {i : Ins} {c : Cel} {inp : List Int} {x : Cel × Wnt} (h : c.wf) (hd : doOf i c inp = some x) : x.1.wf := by
  unfold doOf at hd
  dsimp only at hd
  split at hd
  all_goals (try split at hd)
  all_goals (try cases hd)
  all_goals first | exact h | exact ⟨by simpa using h.1, by simpa using h.2⟩
theorem stepOf_wf {p : Prt} {c : Cel} (h : c.wf) : (stepOf p c).1.wf := by
  unfold stepOf
  split
  · exact h
  · split
    · exact h
    · split
      · exact h
      · rename_i hd
        exact doOf_wf h hd
theorem replyOf_wf {c : Cel} {k : Wnt} {kind val : Int} {is : Bool} (h : c.wf) : (replyOf c k kind val is).wf := by
  unfold replyOf
  split
  · split
    · exact ⟨by simpa using h.1, h.2⟩
    · exact h
  · refine ⟨?_, h.2⟩
    cases is <;> simpa using h.1
theorem sameCells_self (c : Cel) (ov pv : Value) (hwf : c.wf) (w : World) (ho : Ints w ov c.out) (hp : Ints w pv c.out) :
    Calls Try.prog 27 #[celV c ov, celV c pv] w fun e w' => e = .returned (.bool true) ∧ Below w.heap.size w w' :=
  (sameCells_any c c ov pv hwf hwf w ho hp).mono fun e w' ⟨he, hb⟩ => ⟨by simpa using he, hb⟩
end Go.Proofs.Ytebklpbbglojmaa
