/- relay, confBegun; systems among a law's arguments. -/
import Derived.Test.YtebklpbbglojmaaConfE
import Derived.Test.YtebklpbbglojmaaTeller
import Derived.Test.YtebklpbbglojmaaPartOpen
namespace Go.Proofs.Ytebklpbbglojmaa
set_option linter.unusedVariables false
set_option linter.unusedSimpArgs false
open Go.ChangeShapes Go.WideShapes Go.ChangeAt Go.RowKit
theorem bs_ConfLaw_22_1_0 (x0 : Int) (w : World) : (Instr.buildSlice 22 1 #[(0, (.int .i64 x0))]).run Try.prog w = .ok (.slice (some ⟨w.heap.size, 0, none⟩) 1 1) (w.alloc (.cells #[(.int .i64 x0)] 3)) := by kernel_rfl
theorem bs_ConfLaw_40_2_0_1 (x0 : Int) (x1 : Int) (x2 : Int) (x3 : Int) (x4 : Int) (x5 : Int) (x6 : Int) (x7 : Int) (w : World) : (Instr.buildSlice 40 2 #[(0, (.agg #[(.int .i64 x0), (.int .i64 x1), (.int .i64 x2), (.int .i64 x3)])), (1, (.agg #[(.int .i64 x4), (.int .i64 x5), (.int .i64 x6), (.int .i64 x7)]))]).run Try.prog w = .ok (.slice (some ⟨w.heap.size, 0, none⟩) 2 2) (w.alloc (.cells #[(.int .i64 x0), (.int .i64 x1), (.int .i64 x2), (.int .i64 x3), (.int .i64 x4), (.int .i64 x5), (.int .i64 x6), (.int .i64 x7)] 95)) := by kernel_rfl
theorem bs_ConfLaw_40_3_0_1_2 (x0 : Int) (x1 : Int) (x2 : Int) (x3 : Int) (x4 : Int) (x5 : Int) (x6 : Int) (x7 : Int) (x8 : Int) (x9 : Int) (x10 : Int) (x11 : Int) (w : World) : (Instr.buildSlice 40 3 #[(0, (.agg #[(.int .i64 x0), (.int .i64 x1), (.int .i64 x2), (.int .i64 x3)])), (1, (.agg #[(.int .i64 x4), (.int .i64 x5), (.int .i64 x6), (.int .i64 x7)])), (2, (.agg #[(.int .i64 x8), (.int .i64 x9), (.int .i64 x10), (.int .i64 x11)]))]).run Try.prog w = .ok (.slice (some ⟨w.heap.size, 0, none⟩) 3 3) (w.alloc (.cells #[(.int .i64 x0), (.int .i64 x1), (.int .i64 x2), (.int .i64 x3), (.int .i64 x4), (.int .i64 x5), (.int .i64 x6), (.int .i64 x7), (.int .i64 x8), (.int .i64 x9), (.int .i64 x10), (.int .i64 x11)] 95)) := by kernel_rfl
theorem bs_ConfLaw_40_4_0_1_2_3 (x0 : Int) (x1 : Int) (x2 : Int) (x3 : Int) (x4 : Int) (x5 : Int) (x6 : Int) (x7 : Int) (x8 : Int) (x9 : Int) (x10 : Int) (x11 : Int) (x12 : Int) (x13 : Int) (x14 : Int) (x15 : Int) (w : World) : (Instr.buildSlice 40 4 #[(0, (.agg #[(.int .i64 x0), (.int .i64 x1), (.int .i64 x2), (.int .i64 x3)])), (1, (.agg #[(.int .i64 x4), (.int .i64 x5), (.int .i64 x6), (.int .i64 x7)])), (2, (.agg #[(.int .i64 x8), (.int .i64 x9), (.int .i64 x10), (.int .i64 x11)])), (3, (.agg #[(.int .i64 x12), (.int .i64 x13), (.int .i64 x14), (.int .i64 x15)]))]).run Try.prog w = .ok (.slice (some ⟨w.heap.size, 0, none⟩) 4 4) (w.alloc (.cells #[(.int .i64 x0), (.int .i64 x1), (.int .i64 x2), (.int .i64 x3), (.int .i64 x4), (.int .i64 x5), (.int .i64 x6), (.int .i64 x7), (.int .i64 x8), (.int .i64 x9), (.int .i64 x10), (.int .i64 x11), (.int .i64 x12), (.int .i64 x13), (.int .i64 x14), (.int .i64 x15)] 95)) := by kernel_rfl
theorem bs_ConfLaw_64_4_0_1_2_3 (x0 : Option Addr) (x0n x0c : Nat) (x1 : Option Addr) (x1n x1c : Nat) (x2 : Option Addr) (x2n x2c : Nat) (x3 : Option Addr) (x3n x3c : Nat) (x4 : Option Addr) (x4n x4c : Nat) (x5 : Option Addr) (x5n x5c : Nat) (x6 : Option Addr) (x6n x6c : Nat) (x7 : Option Addr) (x7n x7c : Nat) (w : World) : (Instr.buildSlice 64 4 #[(0, (.agg #[(.slice x0 x0n x0c), (.slice x1 x1n x1c)])), (1, (.agg #[(.slice x2 x2n x2c), (.slice x3 x3n x3c)])), (2, (.agg #[(.slice x4 x4n x4c), (.slice x5 x5n x5c)])), (3, (.agg #[(.slice x6 x6n x6c), (.slice x7 x7n x7c)]))]).run Try.prog w = .ok (.slice (some ⟨w.heap.size, 0, none⟩) 4 4) (w.alloc (.cells #[(.slice x0 x0n x0c), (.slice x1 x1n x1c), (.slice x2 x2n x2c), (.slice x3 x3n x3c), (.slice x4 x4n x4c), (.slice x5 x5n x5c), (.slice x6 x6n x6c), (.slice x7 x7n x7c)] 42)) := by kernel_rfl
theorem bs_ConfLaw_65_2_0_1 (x0 : Int) (x1 : Int) (x2 : Int) (x3 : Int) (x4 : Int) (x5 : Int) (w : World) : (Instr.buildSlice 65 2 #[(0, (.agg #[(.int .i64 x0), (.int .i64 x1), (.int .i64 x2)])), (1, (.agg #[(.int .i64 x3), (.int .i64 x4), (.int .i64 x5)]))]).run Try.prog w = .ok (.slice (some ⟨w.heap.size, 0, none⟩) 2 2) (w.alloc (.cells #[(.int .i64 x0), (.int .i64 x1), (.int .i64 x2), (.int .i64 x3), (.int .i64 x4), (.int .i64 x5)] 105)) := by kernel_rfl
theorem bs_ConfLaw_66_4_0_1_2_3 (x0 : Int) (x1 : Int) (x2 : Int) (x3 : Int) (x4 : Int) (x5 : Int) (x6 : Int) (x7 : Int) (w : World) : (Instr.buildSlice 66 4 #[(0, (.agg #[(.int .i64 x0), (.int .i64 x1)])), (1, (.agg #[(.int .i64 x2), (.int .i64 x3)])), (2, (.agg #[(.int .i64 x4), (.int .i64 x5)])), (3, (.agg #[(.int .i64 x6), (.int .i64 x7)]))]).run Try.prog w = .ok (.slice (some ⟨w.heap.size, 0, none⟩) 4 4) (w.alloc (.cells #[(.int .i64 x0), (.int .i64 x1), (.int .i64 x2), (.int .i64 x3), (.int .i64 x4), (.int .i64 x5), (.int .i64 x6), (.int .i64 x7)] 83)) := by kernel_rfl
theorem bu_ConfLaw_105_0_1_2 (x0 : Int) (x1 : Int) (x2 : Int) (w : World) : (Instr.build 105 #[(0, (.int .i64 x0)), (1, (.int .i64 x1)), (2, (.int .i64 x2))]).run Try.prog w = .ok (.agg #[(.int .i64 x0), (.int .i64 x1), (.int .i64 x2)]) w := by kernel_rfl
theorem bu_ConfLaw_42_0 (x0 : Option Addr) (x0n x0c : Nat) (w : World) : (Instr.build 42 #[(0, (.slice x0 x0n x0c))]).run Try.prog w = .ok (.agg #[(.slice x0 x0n x0c), (.slice none 0 0)]) w := by kernel_rfl
theorem bu_ConfLaw_42_0_1 (x0 : Option Addr) (x0n x0c : Nat) (x1 : Option Addr) (x1n x1c : Nat) (w : World) : (Instr.build 42 #[(0, (.slice x0 x0n x0c)), (1, (.slice x1 x1n x1c))]).run Try.prog w = .ok (.agg #[(.slice x0 x0n x0c), (.slice x1 x1n x1c)]) w := by kernel_rfl
theorem bu_ConfLaw_68_  (w : World) : (Instr.build 68 #[]).run Try.prog w = .ok (.agg #[(.slice none 0 0), (.slice none 0 0), (.slice none 0 0)]) w := by kernel_rfl
theorem bu_ConfLaw_68_0_1_2 (x0 : Option Addr) (x0n x0c : Nat) (x1 : Option Addr) (x1n x1c : Nat) (x2 : Option Addr) (x2n x2c : Nat) (w : World) : (Instr.build 68 #[(0, (.slice x0 x0n x0c)), (1, (.slice x1 x1n x1c)), (2, (.slice x2 x2n x2c))]).run Try.prog w = .ok (.agg #[(.slice x0 x0n x0c), (.slice x1 x1n x1c), (.slice x2 x2n x2c)]) w := by kernel_rfl
theorem bu_ConfLaw_83_0_1 (x0 : Int) (x1 : Int) (w : World) : (Instr.build 83 #[(0, (.int .i64 x0)), (1, (.int .i64 x1))]).run Try.prog w = .ok (.agg #[(.int .i64 x0), (.int .i64 x1)]) w := by kernel_rfl
theorem bu_ConfLaw_95_0 (x0 : Int) (w : World) : (Instr.build 95 #[(0, (.int .i64 x0))]).run Try.prog w = .ok (.agg #[(.int .i64 x0), (.int .i64 0), (.int .i64 0), (.int .i64 0)]) w := by kernel_rfl
theorem bu_ConfLaw_95_0_1_3 (x0 : Int) (x1 : Int) (x2 : Int) (w : World) : (Instr.build 95 #[(0, (.int .i64 x0)), (1, (.int .i64 x1)), (3, (.int .i64 x2))]).run Try.prog w = .ok (.agg #[(.int .i64 x0), (.int .i64 x1), (.int .i64 0), (.int .i64 x2)]) w := by kernel_rfl
theorem bu_ConfLaw_95_0_2_3 (x0 : Int) (x1 : Int) (x2 : Int) (w : World) : (Instr.build 95 #[(0, (.int .i64 x0)), (2, (.int .i64 x1)), (3, (.int .i64 x2))]).run Try.prog w = .ok (.agg #[(.int .i64 x0), (.int .i64 0), (.int .i64 x1), (.int .i64 x2)]) w := by kernel_rfl
theorem bu_ConfLaw_95_0_3 (x0 : Int) (x1 : Int) (w : World) : (Instr.build 95 #[(0, (.int .i64 x0)), (3, (.int .i64 x1))]).run Try.prog w = .ok (.agg #[(.int .i64 x0), (.int .i64 0), (.int .i64 0), (.int .i64 x1)]) w := by kernel_rfl
set_option maxRecDepth 100000

theorem Rd.flatQ {P : Program} {w : World} {t e : TypeId} {cs : List Value} {d : Nat} {α : Type} {enc : α → List Value} {size : Nat} {Q : α → Prop} (hu : P.underlying t = some (.slice e)) (hce : P.cellsOf e = size) (hs : ∀ a, (enc a).length = size) (hd : ∀ r, Rd P w d e r → ∃ a, r = enc a ∧ Q a) (h : Rd P w (d + 1) t cs) : ∃ v l, cs = [v] ∧ Flat enc size w v l ∧ ∀ a, a ∈ l → Q a := by
  obtain ⟨v, l, h1, h2⟩ := Rd.flatS (α := {a // Q a}) (enc := fun a => enc a.1) hu hce (fun a => hs a.1) (fun r hr => by obtain ⟨a, ha, hq⟩ := hd r hr; exact ⟨⟨a, hq⟩, ha⟩) h
  refine ⟨v, l.map Subtype.val, h1, ?_, fun a ha => ?_⟩
  · obtain ⟨A, c, e, h3, h4, h5⟩ := h2
    exact ⟨A, c, by simpa using e, by simpa using h3, h4, by simpa [List.flatMap_map] using h5⟩
  · obtain ⟨⟨b, hb⟩, _, rfl⟩ := List.mem_map.1 ha
    exact hb
section
variable {H : Type} {enc : TypeId × Value → H} {w : World} {base base' : Nat} {r : Reach} {spare : Nat → Bool} {held : Bool} {v : Value} {d : DataW H} {p : List MemPlace}
theorem chn_rd {u : World} {n : Nat} {cs : List Value} (h : Rd Try.prog u (n + 2) 105 cs) : ∃ i : Chn, cs = i.cells := by
  obtain ⟨l, rfl, hl⟩ := h.ints_of_fields Try.underlying105 (by kernel_rfl) (by kernel_rfl) (by kernel_rfl)
  match l, hl with
  | [a, b, c], _ => exact ⟨⟨a, b, c⟩, rfl⟩
theorem slt_rd {u : World} {n : Nat} {cs : List Value} (h : Rd Try.prog u (n + 2) 83 cs) : ∃ i : Slt, cs = i.cells := by
  obtain ⟨l, rfl, hl⟩ := h.ints_of_fields Try.underlying83 (by kernel_rfl) (by kernel_rfl) (by kernel_rfl)
  match l, hl with
  | [a, b], _ => exact ⟨⟨a, b⟩, rfl⟩
theorem pp_rd {u : World} {n : Nat} {cs : List Value} (h : Rd Try.prog u (n + 4) 42 cs) : ∃ q : PP, cs = encP q ∧ q.At u := by
  obtain ⟨cv, iv, p, rfl, h1, h2⟩ := part_rd h
  obtain ⟨A, c, rfl⟩ := h1.form rfl
  obtain ⟨A2, c2, rfl⟩ := h2.form rfl
  exact ⟨(p, ⟨A, c, A2, c2⟩), rfl, h1, h2⟩
theorem sys_rd {u : World} {n : Nat} {cs : List Value} (h : Rd Try.prog u (n + 6) 68 cs) : ∃ x : SysD, cs = [.slice x.pa x.parts.length x.pc, .slice x.ha x.chans.length x.hc, .slice x.sa x.slots.length x.sc] ∧ x.At u := by
  obtain ⟨hl, -⟩ := h.struct Try.underlying68
  have h3 : Try.prog.cellsOf 68 = 3 := by kernel_rfl
  have h1 : Try.prog.cellsOf 64 = 1 := by kernel_rfl
  have h1' : Try.prog.cellsOf 65 = 1 := by kernel_rfl
  have h1'' : Try.prog.cellsOf 66 = 1 := by kernel_rfl
  rw [h3] at hl
  match cs, hl with
  | [a, b, c], _ =>
    have g0 := h.fld Try.underlying68 0 rfl rfl rfl h1 rfl
    have g1 := h.fld Try.underlying68 1 rfl rfl rfl h1' rfl
    have g2 := h.fld Try.underlying68 2 rfl rfl rfl h1'' rfl
    obtain ⟨v0, l0, e0, k0, q0⟩ := Rd.flatQ Try.underlying64 (by kernel_rfl) encP_len (fun _ h => pp_rd h) g0
    obtain ⟨v1, l1, e1, k1⟩ := Rd.flatS Try.underlying65 (by kernel_rfl) Chn.cells_len (fun _ h => chn_rd h) g1
    obtain ⟨v2, l2, e2, k2⟩ := Rd.flatS Try.underlying66 (by kernel_rfl) Slt.cells_len (fun _ h => slt_rd h) g2
    obtain rfl : a = v0 := by simpa using e0
    obtain rfl : b = v1 := by simpa using e1
    obtain rfl : c = v2 := by simpa using e2
    obtain ⟨A0, c0, rfl⟩ := k0.form rfl
    obtain ⟨A1, c1, rfl⟩ := k1.form rfl
    obtain ⟨A2, c2, rfl⟩ := k2.form rfl
    exact ⟨⟨l0, A0, c0, l1, A1, c1, l2, A2, c2⟩, rfl, k0, q0, k1, k2⟩
theorem sys_open (hv : Value.okWide Try.prog w r base' 68 v) (h : DataW.Trod enc Try.prog w base spare held 68 v d p) : ∃ x : SysD, v = x.val ∧ x.At w := by
  obtain ⟨cs, rfl, _⟩ := okWide_struct Try.underlying68 hv
  obtain ⟨x, e, h1⟩ := sys_rd (n := 0) (rd_of 6 h)
  exact ⟨x, agg_toList e, h1⟩
end

/-! ### relay -/
def relayP : List Prt := [⟨[⟨10, 0, 0, 0⟩, ⟨12, 0, 0, 0⟩, ⟨15, 0, 0, 0⟩], [6]⟩, ⟨tellerL, []⟩, ⟨[⟨13, 0, 1, 1⟩, ⟨9, 1, 0, 0⟩, ⟨11, 0, 0, 0⟩, ⟨15, 0, 0, 0⟩], []⟩, ⟨[⟨11, 0, 0, 0⟩, ⟨8, 0, 0, 0⟩], []⟩]
def relayC : List Chn := [⟨2, 0, 1⟩, ⟨1, 1, 2⟩]
def relayS : List Slt := [⟨0, 3⟩, ⟨1, 4⟩, ⟨3, 1⟩, ⟨2, 4⟩]
def RelayR (L : List PP) (pa sa : Option Addr) (u : World) : Prop := Flat encP 2 u (.slice pa 4 4) L ∧ (∀ q, q ∈ L → q.At u) ∧ Flat Slt.cells 2 u (.slice sa 4 4) relayS
def Relay (w : World) (e : Ending) (w' : World) : Prop :=
  ∃ (L : List PP) (pa : Option Addr) (b : Nat) (sa : Option Addr), e = .returned (.agg #[.slice pa 4 4, .slice (some ⟨b, 0, none⟩) 2 2, .slice sa 4 4]) ∧ L.map Prod.fst = relayP ∧
    Wd w NoB [.res (RelayR L pa sa), .blk b 105 [.int .i64 2, .int .i64 0, .int .i64 1, .int .i64 1, .int .i64 1, .int .i64 2]] w'
theorem relay_any (w : World) : Calls Try.prog 63 #[] w (Relay w) := by
  refine enter Try.func63 rfl Try.ntmps63 rfl (fun a hF => ?_)
  have hW := Wd.start w NoB
  refine c_sr ?_
  refine pe (e_alloc hF hW ze_68 rfl rfl rfl ?_)
  intro b1 a wc hF hW
  refine l_nil ?_
  refine t_n ?_
  refine c_sr ?_
  refine pv hF hW (y_build hF rfl (fun w => bu_ConfLaw_95_0 _ w)) (fun a hF => ?_)
  refine pv hF hW (y_build hF rfl (fun w => bu_ConfLaw_95_0_3 _ _ w)) (fun a hF => ?_)
  refine pv hF hW (y_build hF rfl (fun w => bu_ConfLaw_95_0 _ w)) (fun a hF => ?_)
  refine pe (e_buildSlice hF hW rfl (fun w => bs_ConfLaw_40_3_0_1_2 _ _ _ _ _ _ _ _ _ _ _ _ w) rfl rfl rfl ?_)
  intro b2 a wc hF hW
  refine pe (e_buildSlice hF hW rfl (fun w => bs_ConfLaw_22_1_0 _ w) rfl rfl rfl ?_)
  intro b3 a wc hF hW
  refine pv hF hW (y_build hF rfl (fun w => bu_ConfLaw_42_0_1 _ _ _ _ _ _ w)) (fun a hF => ?_)
  refine pe (e_call hF rfl rfl en_51 (by rfl) rfl rfl (teller_any _) ?_)
  rintro e w1 ⟨A1, rfl, hr, hb⟩
  replace hW := hW.gotR hb hr
  refine ⟨_, rfl, fun a hF => ?_⟩
  refine pv hF hW (y_build hF rfl (fun w => bu_ConfLaw_42_0 _ _ _ w)) (fun a hF => ?_)
  refine pv hF hW (y_build hF rfl (fun w => bu_ConfLaw_95_0_2_3 _ _ _ w)) (fun a hF => ?_)
  refine pv hF hW (y_build hF rfl (fun w => bu_ConfLaw_95_0_1_3 _ _ _ w)) (fun a hF => ?_)
  refine pv hF hW (y_build hF rfl (fun w => bu_ConfLaw_95_0 _ w)) (fun a hF => ?_)
  refine pv hF hW (y_build hF rfl (fun w => bu_ConfLaw_95_0 _ w)) (fun a hF => ?_)
  refine pe (e_buildSlice hF hW rfl (fun w => bs_ConfLaw_40_4_0_1_2_3 _ _ _ _ _ _ _ _ _ _ _ _ _ _ _ _ w) rfl rfl rfl ?_)
  intro b4 a wc hF hW
  refine pv hF hW (y_build hF rfl (fun w => bu_ConfLaw_42_0 _ _ _ w)) (fun a hF => ?_)
  refine pv hF hW (y_build hF rfl (fun w => bu_ConfLaw_95_0 _ w)) (fun a hF => ?_)
  refine pv hF hW (y_build hF rfl (fun w => bu_ConfLaw_95_0 _ w)) (fun a hF => ?_)
  refine pe (e_buildSlice hF hW rfl (fun w => bs_ConfLaw_40_2_0_1 _ _ _ _ _ _ _ _ w) rfl rfl rfl ?_)
  intro b5 a wc hF hW
  refine pv hF hW (y_build hF rfl (fun w => bu_ConfLaw_42_0 _ _ _ w)) (fun a hF => ?_)
  refine pe (e_buildSlice hF hW rfl (fun w => bs_ConfLaw_64_4_0_1_2_3 _ _ _ _ _ _ _ _ _ _ _ _ _ _ _ _ _ _ _ _ _ _ _ _ w) rfl rfl rfl ?_)
  intro b6 a wc hF hW
  refine pv hF hW (y_build hF rfl (fun w => bu_ConfLaw_105_0_1_2 _ _ _ w)) (fun a hF => ?_)
  refine pv hF hW (y_build hF rfl (fun w => bu_ConfLaw_105_0_1_2 _ _ _ w)) (fun a hF => ?_)
  refine pe (e_buildSlice hF hW rfl (fun w => bs_ConfLaw_65_2_0_1 _ _ _ _ _ _ w) rfl rfl rfl ?_)
  intro b7 a wc hF hW
  refine pv hF hW (y_build hF rfl (fun w => bu_ConfLaw_83_0_1 _ _ w)) (fun a hF => ?_)
  refine pv hF hW (y_build hF rfl (fun w => bu_ConfLaw_83_0_1 _ _ w)) (fun a hF => ?_)
  refine pv hF hW (y_build hF rfl (fun w => bu_ConfLaw_83_0_1 _ _ w)) (fun a hF => ?_)
  refine pv hF hW (y_build hF rfl (fun w => bu_ConfLaw_83_0_1 _ _ w)) (fun a hF => ?_)
  refine pe (e_buildSlice hF hW rfl (fun w => bs_ConfLaw_66_4_0_1_2_3 _ _ _ _ _ _ _ _ w) rfl rfl rfl ?_)
  intro b8 a wc hF hW
  refine pv hF hW (y_build hF rfl (fun w => bu_ConfLaw_68_0_1_2 _ _ _ _ _ _ _ _ _ w)) (fun a hF => ?_)
  refine pe (e_storeAll rfl hF hW rfl rfl 8 rfl rfl rfl (by kernel_rfl) sz_68 ?_)
  intro wc hW
  refine l_nil ?_
  replace hF := (hF.k 0 rfl hF.nil)
  refine t_n ?_
  refine wp_ret ?_
  refine ret1 Try.results63 hF (rv_c hF rfl hW 8 rfl Try.underlying68 rfl sz_68) ?_
  replace hW := hW.del 8 rfl
  replace hW := hW.front 1 rfl rfl
  replace hW := hW.front 1 rfl rfl
  replace hW := hW.front 2 rfl rfl
  replace hW := hW.front 3 rfl rfl
  replace hW := hW.front 4 rfl rfl
  replace hW := hW.front 5 rfl rfl
  replace hW := hW.front 6 rfl rfl
  replace hW := hW.front 7 rfl rfl
  have h7 := (((((((((((hW.blk_res 0 rfl).blk_res 1 rfl).blk_res 3 rfl).blk_res 4 rfl).blk_res 5 rfl).blk_res 6 rfl).join rfl).join rfl).join rfl).join rfl).join rfl).join rfl
  refine ⟨[(⟨[⟨10, 0, 0, 0⟩, ⟨12, 0, 0, 0⟩, ⟨15, 0, 0, 0⟩], [6]⟩, PX.mk (some ⟨b2, 0, none⟩) 3 (some ⟨b3, 0, none⟩) 1), (⟨tellerL, []⟩, PX.mk A1 5 none 0), (⟨[⟨13, 0, 1, 1⟩, ⟨9, 1, 0, 0⟩, ⟨11, 0, 0, 0⟩, ⟨15, 0, 0, 0⟩], []⟩, PX.mk (some ⟨b4, 0, none⟩) 4 none 0), (⟨[⟨11, 0, 0, 0⟩, ⟨8, 0, 0, 0⟩], []⟩, PX.mk (some ⟨b5, 0, none⟩) 2 none 0)], _, _, _, rfl, rfl, h7.weak 0 rfl fun u h => ?_⟩
  obtain ⟨⟨⟨⟨⟨⟨h4, h5⟩, ht⟩, h12⟩, h16⟩, h18⟩, h26⟩ := h
  refine ⟨flat_blk h18 rfl rfl rfl (show 4 ≤ maxLen by decide), fun q hq => ?_, flat_blk h26 rfl rfl rfl (show 4 ≤ maxLen by decide)⟩
  simp only [List.mem_cons, List.not_mem_nil, or_false] at hq
  rcases hq with rfl | rfl | rfl | rfl
  · exact ⟨flat_blk h4 rfl rfl rfl (show 3 ≤ maxLen by decide), ints_blk h5 rfl rfl (show 1 ≤ maxLen by decide)⟩
  · exact ⟨ht, Ints.nil_⟩
  · exact ⟨flat_blk h12 rfl rfl rfl (show 4 ≤ maxLen by decide), Ints.nil_⟩
  · exact ⟨flat_blk h16 rfl rfl rfl (show 2 ≤ maxLen by decide), Ints.nil_⟩
section
variable {L : List PP} {pa sa : Option Addr} {b : Nat} {T : TypeId} {u : World} {cs : List Chn}
def relayD (L : List PP) (pa : Option Addr) (b : Nat) (sa : Option Addr) (cs : List Chn) : SysD := ⟨L, pa, 4, cs, some ⟨b, 0, none⟩, 2, relayS, sa, 4⟩
theorem relay_len (hL : L.map Prod.fst = relayP) : L.length = 4 := by
  have := congrArg List.length hL
  simpa [relayP] using this
theorem relay_sys (hL : L.map Prod.fst = relayP) : (relayD L pa b sa cs).sys = ⟨relayP, cs, relayS⟩ := by
  simp only [SysD.sys, relayD, hL]
theorem relay_val (hL : L.map Prod.fst = relayP) (hc : cs.length = 2) : (relayD L pa b sa cs).val = .agg #[.slice pa 4 4, .slice (some ⟨b, 0, none⟩) 2 2, .slice sa 4 4] := by
  simp only [SysD.val, relayD, relay_len hL, hc]
  rfl
theorem relay_at (hL : L.map Prod.fst = relayP) (hc : cs.length = 2) (hB : Blk u b T (cs.flatMap Chn.cells)) (h : RelayR L pa sa u) : (relayD L pa b sa cs).At u := by
  refine ⟨?_, h.2.1, ?_, h.2.2⟩
  · have := h.1
    show Flat encP 2 u (.slice pa L.length 4) L
    rw [relay_len hL]
    exact this
  · show Flat Chn.cells 3 u (.slice (some ⟨b, 0, none⟩) cs.length 2) cs
    rw [hc]
    have hl : (cs.flatMap Chn.cells).length = 2 * 3 := by
      match cs, hc with
      | [_, _], _ => rfl
    exact flat_blk hB hc.symm rfl hl (show 2 ≤ maxLen by decide)
theorem relay_calm (hL : L.map Prod.fst = relayP) (hB : Blk u b T (relayC.flatMap Chn.cells)) (h : RelayR L pa sa u) (p E : Int) (hE : thereErr ⟨relayP, relayC, relayS⟩ p = E) :
    Calls Try.prog 31 #[.agg #[.slice pa 4 4, .slice (some ⟨b, 0, none⟩) 2 2, .slice sa 4 4], .int .i64 p] u (SysErr u (calmOr ⟨relayP, relayC, relayS⟩ p) E) := by
  have := confCalm_any (relay_at hL rfl hB h) p
  rwa [relay_val hL rfl, relay_sys hL, hE] at this
theorem relay_check (hL : L.map Prod.fst = relayP) (hc : cs.length = 2) (hB : Blk u b T (cs.flatMap Chn.cells)) (h : RelayR L pa sa u) (E : Int) (hE : chkSys ⟨relayP, cs, relayS⟩ = E) :
    Calls Try.prog 35 #[.agg #[.slice pa 4 4, .slice (some ⟨b, 0, none⟩) 2 2, .slice sa 4 4]] u fun e w' => e = .returned (.int .i64 E) ∧ Below u.heap.size u w' := by
  have := confCheck_any (relay_at hL hc hB h)
  rwa [relay_val hL hc, relay_sys hL, hE] at this
end
theorem zero_check (u : World) : Calls Try.prog 35 #[.agg #[.slice none 0 0, .slice none 0 0, .slice none 0 0]] u fun e w' => e = .returned (.int .i64 2) ∧ Below u.heap.size u w' := confCheck_any (SysD.zero_at u)
theorem calm_third {y : SysD} (hy : y.sys = calmOr ⟨relayP, relayC, relayS⟩ 3) : 3 < y.parts.length ∧ (y.parts.getD 3 P0).1 = calmP := by
  rw [calmOr_ok (by kernel_rfl)] at hy
  have h1 : (y.parts.map Prod.fst) = relayP.set 3 calmP := congrArg Sys.parts hy
  have h2 := congrArg List.length h1
  have h3 : (y.parts.map Prod.fst).getD 3 P0.1 = calmP := by rw [h1]; rfl
  rw [getD_map] at h3
  exact ⟨by simp [relayP] at h2; omega, h3⟩
theorem confBegun_any (w : World) : Calls Try.prog 34 #[] w fun e w' => e = .returned (.bool true) ∧ Below w.heap.size w w' := by
  refine enter Try.func34 rfl Try.ntmps34 rfl (fun a hF => ?_)
  have hW := Wd.start w NoB
  refine c_sr ?_
  refine pv hF hW (y_assign hF rfl) (fun a hF => ?_)
  refine l_nil ?_
  refine t_n ?_
  refine c_sr ?_
  refine pe (e_call hF rfl rfl en_63 (by rfl) rfl rfl (relay_any _) ?_)
  rintro e w1 ⟨L1, pa1, b1, sa1, rfl, hL1, hN⟩
  replace hW := hW.comb2 hN
  refine ⟨_, rfl, fun a hF => ?_⟩
  refine pe (e_call hF rfl rfl en_31 (by rfl) rfl rfl (relay_calm hL1 (hW.blk 1 rfl) (hW.res 0 rfl) 3 0 (by kernel_rfl)) ?_)
  rintro e w1 ⟨y, rfl, hy, hb, hr⟩
  replace hW := hW.gotR hb hr
  refine ⟨_, rfl, fun a hF => ?_⟩
  replace hF := Fr.cast (v' := .tuple #[.agg #[.slice y.pa y.parts.length y.pc, .slice y.ha y.chans.length y.hc, .slice y.sa y.slots.length y.sc], .int .i64 0]) rfl hF
  obtain ⟨hk3, h3⟩ := calm_third hy
  refine pv hF hW (y_move hF rfl) (fun a hF => ?_)
  refine pv hF hW (y_extract hF rfl rfl) (fun a hF => ?_)
  refine pv hF hW (y_extract hF rfl rfl) (fun a hF => ?_)
  refine pe (e_alloc hF hW ze_68 rfl rfl rfl ?_)
  intro b1 a wc hF hW
  refine pe (e_storeAll rfl hF hW rfl rfl 0 rfl rfl rfl (by kernel_rfl) sz_68 ?_)
  intro wc hW
  refine pv hF hW (y_assign hF rfl) (fun a hF => ?_)
  refine l_nil ?_
  replace hF := (hF.k 0 rfl (hF.k 1 rfl (hF.k 2 rfl hF.nil)))
  refine t_n ?_
  refine c_sr ?_
  refine pe (e_call hF rfl rfl en_63 (by rfl) rfl rfl (relay_any _) ?_)
  rintro e w1 ⟨L2, pa2, b2, sa2, rfl, hL2, hN⟩
  replace hW := hW.comb2 hN
  refine ⟨_, rfl, fun a hF => ?_⟩
  refine pe (e_call hF rfl rfl en_31 (by rfl) rfl rfl (relay_calm hL2 (hW.blk 1 rfl) (hW.res 0 rfl) 4 5 (by kernel_rfl)) ?_)
  rintro e w1 ⟨y2, rfl, hy2, hb, hr⟩
  replace hW := hW.gotR hb hr
  refine ⟨_, rfl, fun a hF => ?_⟩
  replace hF := Fr.cast (v' := .tuple #[.agg #[.slice y2.pa y2.parts.length y2.pc, .slice y2.ha y2.chans.length y2.hc, .slice y2.sa y2.slots.length y2.sc], .int .i64 5]) rfl hF
  refine pv hF hW (y_move hF rfl) (fun a hF => ?_)
  refine pv hF hW (y_extract hF rfl rfl) (fun a hF => ?_)
  refine pv hF hW (y_extract hF rfl rfl) (fun a hF => ?_)
  refine pe (e_alloc hF hW ze_68 rfl rfl rfl ?_)
  intro b2 a wc hF hW
  refine pe (e_storeAll rfl hF hW rfl rfl 0 rfl rfl rfl (by kernel_rfl) sz_68 ?_)
  intro wc hW
  refine pv hF hW (y_assign hF rfl) (fun a hF => ?_)
  refine l_nil ?_
  replace hF := (hF.k 0 rfl (hF.k 1 rfl (hF.k 2 rfl (hF.k 4 rfl hF.nil))))
  refine t_n ?_
  refine c_sr ?_
  refine pe (e_call hF rfl rfl en_63 (by rfl) rfl rfl (relay_any _) ?_)
  rintro e w1 ⟨L3, pa3, b3, sa3, rfl, hL3, hN⟩
  replace hW := hW.comb2 hN
  refine ⟨_, rfl, fun a hF => ?_⟩
  refine pe (e_alloc hF hW ze_68 rfl rfl rfl ?_)
  intro b3 a wc hF hW
  refine pe (e_storeAll rfl hF hW rfl rfl 0 rfl rfl rfl (by kernel_rfl) sz_68 ?_)
  intro wc hW
  refine l_nil ?_
  replace hF := (hF.k 0 rfl (hF.k 1 rfl (hF.k 2 rfl (hF.k 4 rfl (hF.k 5 rfl hF.nil)))))
  refine t_n ?_
  refine c_sr ?_
  refine pv hF hW (y_fieldOwn hF rfl fa_68_1) (fun a hF => ?_)
  refine pv hF hW (y_loadOwn hF rfl 0 rfl rfl Try.underlying65 rfl) (fun a hF => ?_)
  refine pv hF hW (y_indexOwnS hF rfl rfl (by first | omega | decide) Try.underlying65 sz_105) (fun a hF => ?_)
  refine pv hF hW (y_fieldOwn hF rfl fa_105_2) (fun a hF => ?_)
  refine pe (e_store rfl hF hW rfl rfl 2 rfl rfl rfl sz_3 ?_)
  intro wc hW
  refine l_nil ?_
  replace hF := (hF.k 0 rfl (hF.k 1 rfl (hF.k 2 rfl (hF.k 4 rfl (hF.k 5 rfl hF.nil)))))
  refine t_n ?_
  refine c_sr ?_
  refine pe (e_call hF rfl rfl en_63 (by rfl) rfl rfl (relay_any _) ?_)
  rintro e w1 ⟨L4, pa4, b4, sa4, rfl, hL4, hN⟩
  replace hW := hW.comb2 hN
  refine ⟨_, rfl, fun a hF => ?_⟩
  refine pe (e_call hF rfl rfl en_35 (by rfl) rfl rfl (relay_check hL4 (cs := relayC) rfl (hW.blk 1 rfl) (hW.res 0 rfl) 0 (by kernel_rfl)) ?_)
  rintro e w1 ⟨rfl, hb⟩
  replace hW := hW.kept hb
  clear hb
  refine ⟨_, rfl, fun a hF => ?_⟩
  refine pv hF hW (y_eql hF rfl rfl) (fun a hF => ?_)
  replace hF := Fr.bool (t := true) (by first | decide | (simp; done) | rfl) hF
  refine pv hF hW (y_move hF rfl) (fun a hF => ?_)
  replace hF := Fr.bool (t := true) (by first | decide | (simp; done) | rfl) hF
  refine pv hF hW (y_build hF rfl (fun w => bu_ConfLaw_68_  w)) (fun a hF => ?_) (ws hF rfl rfl)
  refine pe (e_call hF rfl rfl en_35 (by rfl) rfl rfl (zero_check _) ?_) (ws hF rfl rfl)
  rintro e w1 ⟨rfl, hb⟩
  replace hW := hW.kept hb
  clear hb
  refine ⟨_, rfl, fun a hF => ?_⟩
  refine pv hF hW (y_eql hF rfl rfl) (fun a hF => ?_) (ws hF rfl rfl)
  replace hF := Fr.bool (t := true) (by first | decide | (simp; done) | rfl) hF
  refine pv hF hW (y_pick hF rfl rfl) (fun a hF => ?_)
  replace hF := Fr.bool (t := true) (by first | decide | (simp; done) | rfl) hF
  refine pv hF hW (y_move hF rfl) (fun a hF => ?_)
  replace hF := Fr.bool (t := true) (by first | decide | (simp; done) | rfl) hF
  refine pv hF hW (y_loadAll hF rfl 2 rfl Try.underlying68 rfl sz_68) (fun a hF => ?_) (ws hF rfl rfl)
  refine pe (e_call hF rfl rfl en_35 (by rfl) rfl rfl (relay_check hL3 (cs := [⟨2, 0, 2⟩, ⟨1, 1, 2⟩]) rfl (hW.blk 4 rfl) (hW.res 3 rfl) 1 (by kernel_rfl)) ?_) (ws hF rfl rfl)
  rintro e w1 ⟨rfl, hb⟩
  replace hW := hW.kept hb
  clear hb
  refine ⟨_, rfl, fun a hF => ?_⟩
  refine pv hF hW (y_eql hF rfl rfl) (fun a hF => ?_) (ws hF rfl rfl)
  replace hF := Fr.bool (t := true) (by first | decide | (simp; done) | rfl) hF
  refine pv hF hW (y_pick hF rfl rfl) (fun a hF => ?_)
  replace hF := Fr.bool (t := true) (by first | decide | (simp; done) | rfl) hF
  refine pv hF hW (y_move hF rfl) (fun a hF => ?_)
  replace hF := Fr.bool (t := true) (by first | decide | (simp; done) | rfl) hF
  refine pv hF hW (y_move hF rfl) (fun a hF => ?_) (ws hF rfl rfl)
  refine pv hF hW (y_eql hF rfl rfl) (fun a hF => ?_) (ws hF rfl rfl)
  replace hF := Fr.bool (t := true) (by first | decide | (simp; done) | rfl) hF
  refine pv hF hW (y_pick hF rfl rfl) (fun a hF => ?_)
  replace hF := Fr.bool (t := true) (by first | decide | (simp; done) | rfl) hF
  refine pv hF hW (y_move hF rfl) (fun a hF => ?_)
  replace hF := Fr.bool (t := true) (by first | decide | (simp; done) | rfl) hF
  refine pv hF hW (y_move hF rfl) (fun a hF => ?_) (ws hF rfl rfl)
  refine pv hF hW (y_eql hF rfl rfl) (fun a hF => ?_) (ws hF rfl rfl)
  replace hF := Fr.bool (t := true) (by first | decide | (simp; done) | rfl) hF
  refine pv hF hW (y_pick hF rfl rfl) (fun a hF => ?_)
  replace hF := Fr.bool (t := true) (by first | decide | (simp; done) | rfl) hF
  refine pv hF hW (y_move hF rfl) (fun a hF => ?_)
  replace hF := Fr.bool (t := true) (by first | decide | (simp; done) | rfl) hF
  refine pv hF hW (y_fieldOwn hF rfl fa_68_0) (fun a hF => ?_) (ws hF rfl rfl)
  refine pv hF hW (y_loadOwn hF rfl 9 rfl rfl Try.underlying64 rfl) (fun a hF => ?_) (ws hF rfl rfl)
  refine pv hF hW (y_indexS hF rfl rfl (by exact hk3) Try.underlying64 sz_42 (fun w h => (h.res 10 rfl).partsR)) (fun a hF => ?_) (ws hF rfl rfl)
  refine pv hF hW (y_fieldRow hF rfl fa_42_0) (fun a hF => ?_) (ws hF rfl rfl)
  refine pv hF hW (y_loadRow hF rfl (fun w h => (h.res 10 rfl).partsR) (by exact hk3) rfl Try.underlying40 rfl) (fun a hF => ?_) (ws hF rfl rfl)
  refine pv hF hW (y_len hF rfl Try.underlying40) (fun a hF => ?_) (ws hF rfl rfl)
  refine pv hF hW (y_eql hF rfl rfl) (fun a hF => ?_) (ws hF rfl rfl)
  refine Fr.splitD hF ?_ ?_
  · intro h4 hF
    refine pv hF hW (y_pick hF rfl rfl) (fun a hF => ?_)
    refine pv hF hW (y_move hF rfl) (fun a hF => ?_)
    refine pv hF hW (y_fieldOwn hF rfl fa_68_0) (fun a hF => ?_) (ws hF rfl rfl)
    refine pv hF hW (y_loadOwn hF rfl 9 rfl rfl Try.underlying64 rfl) (fun a hF => ?_) (ws hF rfl rfl)
    refine pv hF hW (y_indexS hF rfl rfl (by exact hk3) Try.underlying64 sz_42 (fun w h => (h.res 10 rfl).partsR)) (fun a hF => ?_) (ws hF rfl rfl)
    refine pv hF hW (y_fieldRow hF rfl fa_42_0) (fun a hF => ?_) (ws hF rfl rfl)
    refine pv hF hW (y_loadRow hF rfl (fun w h => (h.res 10 rfl).partsR) (by exact hk3) rfl Try.underlying40 rfl) (fun a hF => ?_) (ws hF rfl rfl)
    refine pv hF hW (y_indexS hF rfl rfl (by rw [h3]; decide) Try.underlying40 sz_95 (fun w h => (h.res 10 rfl).codeR (k := 3) hk3)) (fun a hF => ?_) (ws hF rfl rfl)
    refine pv hF hW (y_fieldRow hF rfl fa_95_0) (fun a hF => ?_) (ws hF rfl rfl)
    refine pv hF hW (y_loadRow hF rfl (fun w h => (h.res 10 rfl).codeR (k := 3) hk3) (by rw [h3]; decide) rfl Try.underlying3 rfl) (fun a hF => ?_) (ws hF rfl rfl)
    refine pv hF hW (y_eql hF rfl rfl) (fun a hF => ?_) (ws hF rfl rfl)
    refine Fr.splitD hF ?_ ?_
    · intro h5 hF
      refine pv hF hW (y_pick hF rfl rfl) (fun a hF => ?_)
      replace hF := hF.drop 0
      refine pv hF hW (y_assign hF rfl) (fun a hF => ?_)
      refine l_nil ?_
      replace hF := (hF.k 0 rfl (hF.k 1 rfl (hF.k 2 rfl (hF.k 4 rfl (hF.k 5 rfl hF.nil)))))
      refine t_n ?_
      refine wp_ret ?_
      refine ret1 Try.results34 hF (rv_t hF rfl) ?_
      exact ⟨rfl, hW.below⟩
    · intro h5 hF
      exfalso
      exact h5 (by rw [h3]; rfl)
  · intro h4 hF
    exfalso
    exact h4 (by rw [h3]; rfl)
end Go.Proofs.Ytebklpbbglojmaa
