/- Policies and certificates among a law's arguments. -/
import Derived.Test.YtcmdoecoiogjjaaGreatCertE
import Derived.Test.YtcmdoecoiogjjaaGreatConfD1
namespace Go.Proofs.YtcmdoecoiogjjaaGreat
set_option linter.unusedVariables false
set_option linter.unusedSimpArgs false
open Go.ChangeShapes Go.WideShapes Go.ChangeAt Go.RowKit
set_option maxRecDepth 100000

section
variable {H : Type} {enc : TypeId × Value → H} {w : World} {base base' : Nat} {r : Reach} {spare : Nat → Bool} {held : Bool} {v : Value} {d : DataW H} {p : List MemPlace}
theorem edge_rd {u : World} {n : Nat} {cs : List Value} (h : Rd Tryz.prog u (n + 2) 86 cs) : ∃ i : Edg, cs = i.cells := by
  obtain ⟨l, rfl, hl⟩ := h.ints_of_fields Tryz.underlying86 (by kernel_rfl) (by kernel_rfl) (by kernel_rfl)
  match l, hl with
  | [a, b], _ => exact ⟨⟨a, b⟩, rfl⟩
theorem pol_rd {u : World} {n : Nat} {cs : List Value} (h : Rd Tryz.prog u (n + 4) 78 cs) : ∃ (l : List Edg) (A : Option Addr) (c : Nat), cs = [.slice A l.length c] ∧ May_ u A c l := by
  obtain ⟨hl, -⟩ := h.struct Tryz.underlying78
  have h2 : Tryz.prog.cellsOf 78 = 1 := by kernel_rfl
  have h1 : Tryz.prog.cellsOf 76 = 1 := by kernel_rfl
  rw [h2] at hl
  match cs, hl with
  | [a], _ =>
    have g0 := h.fld Tryz.underlying78 0 rfl rfl rfl h1 rfl
    obtain ⟨v0, l0, e0, k0⟩ := Rd.flatS Tryz.underlying76 (by kernel_rfl) Edg.cells_len (fun _ h => edge_rd h) g0
    obtain rfl : a = v0 := by simpa using e0
    obtain ⟨A0, c0, rfl⟩ := k0.form rfl
    exact ⟨l0, A0, c0, rfl, k0⟩
theorem pol_open (hv : Value.okWide Tryz.prog w r base' 78 v) (h : DataW.Trod enc Tryz.prog w base spare held 78 v d p) : ∃ (l : List Edg) (A : Option Addr) (c : Nat), v = .agg #[.slice A l.length c] ∧ May_ w A c l := by
  obtain ⟨cs, rfl, _⟩ := okWide_struct Tryz.underlying78 hv
  obtain ⟨l, A, c, e, h1⟩ := pol_rd (n := 0) (rd_of 4 h)
  exact ⟨l, A, c, agg_toList e, h1⟩
theorem ir_rd {u : World} {n : Nat} {cs : List Value} (h : Rd Tryz.prog u (n + 2) 40 cs) : ∃ q : IR, cs = q.cells ∧ q.At u := by
  obtain ⟨v, l, rfl, hI⟩ := Rd.intsS Tryz.underlying40 Tryz.underlying3 (by kernel_rfl) h
  obtain ⟨A, c, e, h1, h2, h3⟩ := hI
  subst e
  exact ⟨⟨l, A, c⟩, rfl, ⟨A, c, rfl, h1, h2, h3⟩⟩
theorem crt_rd {u : World} {n : Nat} {cs : List Value} (h : Rd Tryz.prog u (n + 4) 81 cs) : ∃ (qs : List IR) (A : Option Addr) (c : Nat), cs = [.slice A qs.length c] ∧ Sets_ u A c qs := by
  obtain ⟨hl, -⟩ := h.struct Tryz.underlying81
  have h2 : Tryz.prog.cellsOf 81 = 1 := by kernel_rfl
  have h1 : Tryz.prog.cellsOf 79 = 1 := by kernel_rfl
  rw [h2] at hl
  match cs, hl with
  | [a], _ =>
    have g0 := h.fld Tryz.underlying81 0 rfl rfl rfl h1 rfl
    obtain ⟨v0, l0, e0, k0, q0⟩ := Rd.flatQ (size := 1) Tryz.underlying79 (by kernel_rfl) IR.cells_len (fun _ h => ir_rd h) g0
    obtain rfl : a = v0 := by simpa using e0
    obtain ⟨A0, c0, rfl⟩ := k0.form rfl
    exact ⟨l0, A0, c0, rfl, k0, q0⟩
theorem crt_open (hv : Value.okWide Tryz.prog w r base' 81 v) (h : DataW.Trod enc Tryz.prog w base spare held 81 v d p) : ∃ (qs : List IR) (A : Option Addr) (c : Nat), v = .agg #[.slice A qs.length c] ∧ Sets_ w A c qs := by
  obtain ⟨cs, rfl, _⟩ := okWide_struct Tryz.underlying81 hv
  obtain ⟨l, A, c, e, h1⟩ := crt_rd (n := 0) (rd_of 4 h)
  exact ⟨l, A, c, agg_toList e, h1⟩
end
theorem May_.len {w : World} {A : Option Addr} {c : Nat} {l : List Edg} (h : May_ w A c l) : l.length ≤ maxLen := Nat.le_trans (Flat.len h).2.1 (Flat.len h).2.2
end Go.Proofs.YtcmdoecoiogjjaaGreat
