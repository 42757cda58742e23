/- What a row's list of library variables gives, a world that meets it; instructions and strings among a law's arguments. -/
import Derived.Test.YtfkngjglnhfdcaaGreatDoorRows
import Derived.Test.YtfkngjglnhfdcaaGreatDoorIsaPl
import Derived.Deep.DeepHandedRow
import Derived.Deep.DeepWitnessRowRef
import Derived.Lib.LaidTab
import Derived.Stop.LaidErr
import Derived.ChangeMaps5
import Derived.ProofKit
import Derived.OpenShut
namespace Go.Proofs.YtfkngjglnhfdcaaGreatDoor
set_option linter.unusedVariables false
set_option linter.unusedSimpArgs false
open Go.ChangeShapes Go.WideShapes Go.ChangeAt Go.RowKit
set_option maxRecDepth 100000

theorem star_err : "*" ++ "errors.errorString" = "*errors.errorString" := by decide
theorem row_err (u : TypeId) (h : Tryz.prog.typeName? 3 u = some "*errors.errorString") : u = 150 :=
  typeName_ptr_named (nm := "errors.errorString") (by rw [star_err]; kernel_rfl) (by kernel_rfl) (by decide) u (by rw [star_err]; exact h)
theorem pow10_laid : (Rows.laid_internal_strconv_uint64pow10 : DataW Unit) = Lib.tabData .u64 Lib.pow10Tab := by kernel_rfl
/-- the list, as the rows have it -/
abbrev laidL : List (String × DataW Unit) := [("math/bits.deBruijn32tab", Rows.laid_math_bits_deBruijn32tab), ("math/bits.deBruijn64tab", Rows.laid_math_bits_deBruijn64tab), ("internal/strconv.uint64pow10", Rows.laid_internal_strconv_uint64pow10), ("unicode/utf8.acceptRanges", Rows.laid_unicode_utf8_acceptRanges), ("strconv.ErrRange", Rows.laid_strconv_ErrRange), ("strconv.ErrSyntax", Rows.laid_strconv_ErrSyntax), ("unicode/utf8.first", Rows.laid_unicode_utf8_first)]
theorem lay_of_laid {W : World} (h : laidMetH Tryz.prog laidL W) : Lay W := by
  have h0 : laidMet Tryz.prog laidL W := h
  have h1 : laidMet Tryz.prog (("internal/strconv.uint64pow10", Rows.laid_internal_strconv_uint64pow10) :: [("unicode/utf8.acceptRanges", Rows.laid_unicode_utf8_acceptRanges), ("strconv.ErrRange", Rows.laid_strconv_ErrRange), ("strconv.ErrSyntax", Rows.laid_strconv_ErrSyntax), ("unicode/utf8.first", Rows.laid_unicode_utf8_first)]) W := h0.tail.tail
  have h2 : laidMet Tryz.prog (("strconv.ErrRange", Rows.laid_strconv_ErrRange) :: [("strconv.ErrSyntax", Rows.laid_strconv_ErrSyntax), ("unicode/utf8.first", Rows.laid_unicode_utf8_first)]) W := h1.tail.tail
  have h3 : laidMet Tryz.prog (("strconv.ErrSyntax", Rows.laid_strconv_ErrSyntax) :: [("unicode/utf8.first", Rows.laid_unicode_utf8_first)]) W := h2.tail
  rw [pow10_laid] at h1
  obtain ⟨a0, s0, hv0, -⟩ := laid_sentinel (g := 2) h2 (by kernel_rfl) (by kernel_rfl) Tryz.underlying54 row_err Tryz.underlying150 Tryz.underlying152 rfl rfl Tryz.underlying9 (by kernel_rfl) (by kernel_rfl)
  obtain ⟨a1, s1, hv1, -⟩ := laid_sentinel (g := 1) h3 (by kernel_rfl) (by kernel_rfl) Tryz.underlying54 row_err Tryz.underlying150 Tryz.underlying152 rfl rfl Tryz.underlying9 (by kernel_rfl) (by kernel_rfl)
  exact ⟨Lib.tabIs_of_head (g := 3) (by kernel_rfl) (by kernel_rfl) Tryz.underlying147 Tryz.underlying114 (by kernel_rfl) (by kernel_rfl) h1, ⟨_, _, hv1⟩, ⟨_, _, hv0⟩⟩
/-- a datum of numbers, as cells -/
def cellsD : Nat → DataW Unit → List Value
  | 0, _ => []
  | n + 1, .agg l => l.flatMap (cellsD n)
  | _ + 1, .lit (.int k z) => [.int k z]
  | _ + 1, _ => []
noncomputable def laidWorld (os : Os) : World :=
  let N := (World.settled Tryz.prog os).heap.size
  let w0 := World.holding Tryz.prog os ⟨#[.cells #[.string ⟨#[118, 97, 108, 117, 101, 32, 111, 117, 116, 32, 111, 102, 32, 114, 97, 110, 103, 101]⟩] 152, .cells #[.string ⟨#[105, 110, 118, 97, 108, 105, 100, 32, 115, 121, 110, 116, 97, 120]⟩] 152], #[], []⟩
  let put (h : Array Obj) (g : Nat) (cs : Array Value) : Array Obj := h.modify g fun
    | .cells _ t frozen => .cells cs t frozen
    | o => o
  let h0 := put (put w0.heap 2 #[.iface 150 (.pointer (some ⟨N, 0, none⟩))]) 1 #[.iface 150 (.pointer (some ⟨N + 1, 0, none⟩))]
  let h1 := put h0 6 (cellsD 4 Rows.laid_math_bits_deBruijn32tab).toArray
  let h2 := put h1 7 (cellsD 4 Rows.laid_math_bits_deBruijn64tab).toArray
  let h3 := put h2 3 (cellsD 4 Rows.laid_internal_strconv_uint64pow10).toArray
  let h4 := put h3 5 (cellsD 4 Rows.laid_unicode_utf8_acceptRanges).toArray
  let h5 := put h4 4 (cellsD 4 Rows.laid_unicode_utf8_first).toArray
  { w0 with heap := h5 }
theorem laid_met (os : Os) (args : Array Value) : laidMet Tryz.prog laidL ((laidWorld os).forCall (fun _ _ => 0) ⟨#[], args, []⟩).memory :=
  laidMet_of_run' 8 (by kernel_rfl) (by kernel_rfl)
section
variable {H : Type} {enc : TypeId × Value → H} {w : World} {base base' : Nat} {r : Reach} {spare : Nat → Bool} {held : Bool} {v : Value} {d : DataW H} {p : List MemPlace}
theorem wf_in64 {n : Int} (h : (Lit.int .i64 n).wf = true) : In64 n := by
  simp [Lit.wf, IntKind.min, IntKind.max, IntKind.signed, IntKind.bits] at h
  unfold In64
  omega
theorem insW_rd {u : World} {n : Nat} {cs : List Value} (h : Rd Tryz.prog u (n + 2) 46 cs) : ∃ i : Ins, cs = i.cells ∧ i.In := by
  obtain ⟨hl, -⟩ := h.struct Tryz.underlying46
  have h4 : Tryz.prog.cellsOf 46 = 4 := by kernel_rfl
  have h1 : Tryz.prog.cellsOf 3 = 1 := by kernel_rfl
  rw [h4] at hl
  match cs, hl with
  | [a, b, c, d], _ =>
    obtain ⟨n0, e0, k0⟩ := (h.fld Tryz.underlying46 0 rfl rfl rfl h1 rfl).int Tryz.underlying3
    obtain ⟨n1, e1, k1⟩ := (h.fld Tryz.underlying46 1 rfl rfl rfl h1 rfl).int Tryz.underlying3
    obtain ⟨n2, e2, k2⟩ := (h.fld Tryz.underlying46 2 rfl rfl rfl h1 rfl).int Tryz.underlying3
    obtain ⟨n3, e3, k3⟩ := (h.fld Tryz.underlying46 3 rfl rfl rfl h1 rfl).int Tryz.underlying3
    obtain rfl : a = .int .i64 n0 := by simpa using e0
    obtain rfl : b = .int .i64 n1 := by simpa using e1
    obtain rfl : c = .int .i64 n2 := by simpa using e2
    obtain rfl : d = .int .i64 n3 := by simpa using e3
    exact ⟨⟨n0, n1, n2, n3⟩, rfl, wf_in64 k1, wf_in64 k2, wf_in64 k3⟩
theorem agg_toL {cs : Array Value} {l : List Value} (h : cs.toList = l) : Value.agg cs = .agg l.toArray := by rw [← h]
theorem ins_open (hv : Value.okWide Tryz.prog w r base' 46 v) (h : DataW.Trod enc Tryz.prog w base spare held 46 v d p) : ∃ i : Ins, v = i.val ∧ i.In := by
  obtain ⟨cs, rfl, _⟩ := okWide_struct Tryz.underlying46 hv
  obtain ⟨i, e, h1⟩ := insW_rd (n := 0) (rd_of 2 h)
  exact ⟨i, agg_toL e, h1⟩
theorem str_open (hv : Value.okWide Tryz.prog w r base' 9 v) (h : DataW.Trod enc Tryz.prog w base spare held 9 v d p) : ∃ l : List UInt8, v = .string (bstr l) ∧ d = .lit (.string l) := by
  obtain ⟨s, rfl, rfl, -⟩ := Go.ChangeMaps.open_string Tryz.underlying9 hv h
  exact ⟨s.data.toList, rfl, rfl⟩
end
end Go.Proofs.YtfkngjglnhfdcaaGreatDoor
