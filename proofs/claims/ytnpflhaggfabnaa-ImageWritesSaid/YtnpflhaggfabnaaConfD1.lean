/- conf.There, conf.Own and conf.Calm: what they give. conf.Calm: what it gives. What is so of calmed systems, in plain words; Calm and SameSystems where the answer is known. relay; systems among a law's arguments. -/
import Derived.Test.YtnpflhaggfabnaaConfC1
import Derived.Test.YtnpflhaggfabnaaSysB
namespace Go.Proofs.Ytnpflhaggfabnaa
section
set_option linter.unusedVariables false
set_option linter.unusedSimpArgs false
open Go.ChangeShapes Go.WideShapes Go.ChangeAt Go.RowKit

set_option maxRecDepth 100000
end

section
set_option linter.unusedVariables false
set_option linter.unusedSimpArgs false
open Go.ChangeShapes Go.WideShapes Go.ChangeAt Go.RowKit

set_option maxRecDepth 100000


def calmOr (s : Sys) (p : Int) : Sys := if thereErr s p = 0 then calmSys s p.toNat else Sys.zero
theorem calmOr_ok {s : Sys} {p : Int} (h : thereErr s p = 0) : calmOr s p = calmSys s p.toNat := if_pos h
theorem calmOr_no {s : Sys} {p : Int} (h : thereErr s p ≠ 0) : calmOr s p = Sys.zero := if_neg h
theorem calm_range {x : SysD} {p : Int} (hp : 0 ≤ p ∧ p < x.parts.length) : (⟨(List.range x.parts.length).map (fun k : Nat => if (k : Int) = p then calmP else (x.parts.getD k P0).1), x.chans, x.slots⟩ : Sys) = calmSys x.sys p.toNat := by
  have e : (List.range x.parts.length).map (fun k : Nat => if (k : Int) = p then calmP else (x.parts.getD k P0).1) = (x.parts.map Prod.fst).set p.toNat calmP := by
    apply List.ext_getElem
    · simp
    · intro i h1 h2
      simp only [List.length_map, List.length_range] at h1
      simp only [List.getElem_map, List.getElem_range, List.getElem_set]
      by_cases hi : (i : Int) = p
      · rw [if_pos hi, if_pos (by omega)]
      · rw [if_neg hi, if_neg (by omega), List.getD, List.getElem?_eq_getElem h1]
        rfl
  simp only [calmSys, SysD.sys, e]
theorem calm_lens {x : SysD} {p : Int} (hfc : firstCode x.sys.parts = 0) (h6 : ∀ k, k < x.parts.length → (x.parts.getD k P0).1.inp.length ≤ 12) : ∀ k, k < x.parts.length → (if (k : Int) = p then calmP else (x.parts.getD k P0).1).code.length * 32 ≤ 140737488355328 ∧ (if (k : Int) = p then calmP else (x.parts.getD k P0).1).inp.length * 8 ≤ 140737488355328 := fun k hk => by
  have h1 := code_le hfc hk
  have h2 := h6 k hk
  split
  · exact ⟨by decide, by decide⟩
  · omega
/-- a system comes back in memory of its own, and an error -/
def SysErr (w : World) (s : Sys) (x : Int) (e : Ending) (w' : World) : Prop :=
  ∃ y : SysD, e = .returned (.tuple #[y.val, .int .i64 x]) ∧ y.sys = s ∧ Below w.heap.size w w' ∧ OwnRes w w' y.At
end

section
set_option linter.unusedVariables false
set_option linter.unusedSimpArgs false
open Go.ChangeShapes Go.WideShapes Go.ChangeAt Go.RowKit
set_option maxRecDepth 100000

theorem firstCode_zero : ∀ {l : List Prt}, firstCode l = 0 ↔ ∀ p, p ∈ l → chkCode p.code = 0
  | [] => by simp [firstCode]
  | q :: r => by
    unfold firstCode
    constructor
    · intro h p hp
      split at h
      · rcases List.mem_cons.1 hp with rfl | hp
        · assumption
        · exact firstCode_zero.1 h p hp
      · exact absurd h (by assumption)
    · intro h
      rw [if_pos (h q List.mem_cons_self)]
      exact firstCode_zero.2 fun p hp => h p (List.mem_cons_of_mem _ hp)
theorem getD_set {α : Type} {l : List α} {n k : Nat} {c d : α} (hk : k < l.length) : (l.set n c).getD k d = if n = k then c else l.getD k d := by
  simp only [List.getD, List.getElem?_set]
  split
  · rename_i h
    subst h
    rw [if_pos hk]
    rfl
  · rfl
/-- a part put in the place of another one, in a right system: is it right? -/
theorem chkSys_put {s : Sys} {n : Nat} {c : Prt} (h : chkSys s = 0) (hc : chkCode c.code = 0) (hi : c.inp.length ≤ 12) (hn : c.code.all (insOk s.chans n) = true) : chkSys ⟨s.parts.set n c, s.chans, s.slots⟩ = 0 := by
  obtain ⟨h1, h2, h3, h4, h5, h6⟩ := chkSys_zero h
  have hlen : (s.parts.set n c).length = s.parts.length := by simp
  refine chkSys_0 ?_ ?_ h3 (by simpa only [hlen] using h4) (by simpa only [hlen] using h5) ?_
  · simp only [sizesOk, hlen, Bool.and_eq_true] at h1 ⊢
    refine ⟨h1.1, List.all_eq_true.2 fun p hp => ?_⟩
    rcases List.mem_or_eq_of_mem_set hp with h7 | rfl
    · exact List.all_eq_true.1 h1.2 p h7
    · exact decide_eq_true hi
  · refine firstCode_zero.2 fun p hp => ?_
    rcases List.mem_or_eq_of_mem_set hp with h7 | rfl
    · exact firstCode_zero.1 h2 p h7
    · exact hc
  · refine (namesFrom_iff _ _ _).2 fun k hk => ?_
    simp only [hlen] at hk
    rw [getD_set hk]
    split
    · rename_i h7
      subst h7
      simpa using hn
    · exact (namesFrom_iff _ _ _).1 h6 k hk
theorem chkSys_calm {s : Sys} {n : Nat} (h : chkSys s = 0) : chkSys (calmSys s n) = 0 := chkSys_put h (by kernel_rfl) (by decide) (by
  simp only [calmP, List.all_cons, List.all_nil, Bool.and_true]
  rfl)
theorem there_calm {s : Sys} {n : Nat} {p : Int} (h : thereErr s p = 0) : thereErr (calmSys s n) p = 0 := by
  obtain ⟨h1, h2⟩ := there_zero h
  exact there_0 (chkSys_calm h1) (by simpa [calmSys] using h2)
theorem calm_calm {s : Sys} {n : Nat} : calmSys (calmSys s n) n = calmSys s n := by simp [calmSys]
theorem calm_comm {s : Sys} {n m : Nat} : calmSys (calmSys s n) m = calmSys (calmSys s m) n := by
  unfold calmSys
  dsimp only
  by_cases h : n = m
  · subst h; rfl
  · rw [List.set_comm _ _ h]
end

section
set_option linter.unusedVariables false
set_option linter.unusedSimpArgs false
open Go.ChangeShapes Go.WideShapes Go.ChangeAt Go.RowKit
theorem bs_Relay_22_4_0_1_2_3 (x0 : Option Addr) (x0n x0c : Nat) (x1 : Option Addr) (x1n x1c : Nat) (x2 : Option Addr) (x2n x2c : Nat) (x3 : Option Addr) (x3n x3c : Nat) (x4 : Option Addr) (x4n x4c : Nat) (x5 : Option Addr) (x5n x5c : Nat) (x6 : Option Addr) (x6n x6c : Nat) (x7 : Option Addr) (x7n x7c : Nat) (w : World) : (Instr.buildSlice 22 4 #[(0, (.agg #[(.slice x0 x0n x0c), (.slice x1 x1n x1c)])), (1, (.agg #[(.slice x2 x2n x2c), (.slice x3 x3n x3c)])), (2, (.agg #[(.slice x4 x4n x4c), (.slice x5 x5n x5c)])), (3, (.agg #[(.slice x6 x6n x6c), (.slice x7 x7n x7c)]))]).run Try.prog w = .ok (.slice (some ⟨w.heap.size, 0, none⟩) 4 4) (w.alloc (.cells #[(.slice x0 x0n x0c), (.slice x1 x1n x1c), (.slice x2 x2n x2c), (.slice x3 x3n x3c), (.slice x4 x4n x4c), (.slice x5 x5n x5c), (.slice x6 x6n x6c), (.slice x7 x7n x7c)] 47)) := by kernel_rfl
theorem bs_Relay_23_2_0_1 (x0 : Int) (x1 : Int) (x2 : Int) (x3 : Int) (x4 : Int) (x5 : Int) (w : World) : (Instr.buildSlice 23 2 #[(0, (.agg #[(.int .i64 x0), (.int .i64 x1), (.int .i64 x2)])), (1, (.agg #[(.int .i64 x3), (.int .i64 x4), (.int .i64 x5)]))]).run Try.prog w = .ok (.slice (some ⟨w.heap.size, 0, none⟩) 2 2) (w.alloc (.cells #[(.int .i64 x0), (.int .i64 x1), (.int .i64 x2), (.int .i64 x3), (.int .i64 x4), (.int .i64 x5)] 52)) := by kernel_rfl
theorem bs_Relay_24_4_0_1_2_3 (x0 : Int) (x1 : Int) (x2 : Int) (x3 : Int) (x4 : Int) (x5 : Int) (x6 : Int) (x7 : Int) (w : World) : (Instr.buildSlice 24 4 #[(0, (.agg #[(.int .i64 x0), (.int .i64 x1)])), (1, (.agg #[(.int .i64 x2), (.int .i64 x3)])), (2, (.agg #[(.int .i64 x4), (.int .i64 x5)])), (3, (.agg #[(.int .i64 x6), (.int .i64 x7)]))]).run Try.prog w = .ok (.slice (some ⟨w.heap.size, 0, none⟩) 4 4) (w.alloc (.cells #[(.int .i64 x0), (.int .i64 x1), (.int .i64 x2), (.int .i64 x3), (.int .i64 x4), (.int .i64 x5), (.int .i64 x6), (.int .i64 x7)] 54)) := by kernel_rfl
theorem bs_Relay_44_2_0_1 (x0 : Int) (x1 : Int) (x2 : Int) (x3 : Int) (x4 : Int) (x5 : Int) (x6 : Int) (x7 : Int) (w : World) : (Instr.buildSlice 44 2 #[(0, (.agg #[(.int .i64 x0), (.int .i64 x1), (.int .i64 x2), (.int .i64 x3)])), (1, (.agg #[(.int .i64 x4), (.int .i64 x5), (.int .i64 x6), (.int .i64 x7)]))]).run Try.prog w = .ok (.slice (some ⟨w.heap.size, 0, none⟩) 2 2) (w.alloc (.cells #[(.int .i64 x0), (.int .i64 x1), (.int .i64 x2), (.int .i64 x3), (.int .i64 x4), (.int .i64 x5), (.int .i64 x6), (.int .i64 x7)] 49)) := by kernel_rfl
theorem bs_Relay_44_3_0_1_2 (x0 : Int) (x1 : Int) (x2 : Int) (x3 : Int) (x4 : Int) (x5 : Int) (x6 : Int) (x7 : Int) (x8 : Int) (x9 : Int) (x10 : Int) (x11 : Int) (w : World) : (Instr.buildSlice 44 3 #[(0, (.agg #[(.int .i64 x0), (.int .i64 x1), (.int .i64 x2), (.int .i64 x3)])), (1, (.agg #[(.int .i64 x4), (.int .i64 x5), (.int .i64 x6), (.int .i64 x7)])), (2, (.agg #[(.int .i64 x8), (.int .i64 x9), (.int .i64 x10), (.int .i64 x11)]))]).run Try.prog w = .ok (.slice (some ⟨w.heap.size, 0, none⟩) 3 3) (w.alloc (.cells #[(.int .i64 x0), (.int .i64 x1), (.int .i64 x2), (.int .i64 x3), (.int .i64 x4), (.int .i64 x5), (.int .i64 x6), (.int .i64 x7), (.int .i64 x8), (.int .i64 x9), (.int .i64 x10), (.int .i64 x11)] 49)) := by kernel_rfl
theorem bs_Relay_44_4_0_1_2_3 (x0 : Int) (x1 : Int) (x2 : Int) (x3 : Int) (x4 : Int) (x5 : Int) (x6 : Int) (x7 : Int) (x8 : Int) (x9 : Int) (x10 : Int) (x11 : Int) (x12 : Int) (x13 : Int) (x14 : Int) (x15 : Int) (w : World) : (Instr.buildSlice 44 4 #[(0, (.agg #[(.int .i64 x0), (.int .i64 x1), (.int .i64 x2), (.int .i64 x3)])), (1, (.agg #[(.int .i64 x4), (.int .i64 x5), (.int .i64 x6), (.int .i64 x7)])), (2, (.agg #[(.int .i64 x8), (.int .i64 x9), (.int .i64 x10), (.int .i64 x11)])), (3, (.agg #[(.int .i64 x12), (.int .i64 x13), (.int .i64 x14), (.int .i64 x15)]))]).run Try.prog w = .ok (.slice (some ⟨w.heap.size, 0, none⟩) 4 4) (w.alloc (.cells #[(.int .i64 x0), (.int .i64 x1), (.int .i64 x2), (.int .i64 x3), (.int .i64 x4), (.int .i64 x5), (.int .i64 x6), (.int .i64 x7), (.int .i64 x8), (.int .i64 x9), (.int .i64 x10), (.int .i64 x11), (.int .i64 x12), (.int .i64 x13), (.int .i64 x14), (.int .i64 x15)] 49)) := by kernel_rfl
theorem bs_Relay_45_1_0 (x0 : Int) (w : World) : (Instr.buildSlice 45 1 #[(0, (.int .i64 x0))]).run Try.prog w = .ok (.slice (some ⟨w.heap.size, 0, none⟩) 1 1) (w.alloc (.cells #[(.int .i64 x0)] 3)) := by kernel_rfl
theorem bu_Relay_26_0_1_2 (x0 : Option Addr) (x0n x0c : Nat) (x1 : Option Addr) (x1n x1c : Nat) (x2 : Option Addr) (x2n x2c : Nat) (w : World) : (Instr.build 26 #[(0, (.slice x0 x0n x0c)), (1, (.slice x1 x1n x1c)), (2, (.slice x2 x2n x2c))]).run Try.prog w = .ok (.agg #[(.slice x0 x0n x0c), (.slice x1 x1n x1c), (.slice x2 x2n x2c)]) w := by kernel_rfl
theorem bu_Relay_47_0 (x0 : Option Addr) (x0n x0c : Nat) (w : World) : (Instr.build 47 #[(0, (.slice x0 x0n x0c))]).run Try.prog w = .ok (.agg #[(.slice x0 x0n x0c), (.slice none 0 0)]) w := by kernel_rfl
theorem bu_Relay_47_0_1 (x0 : Option Addr) (x0n x0c : Nat) (x1 : Option Addr) (x1n x1c : Nat) (w : World) : (Instr.build 47 #[(0, (.slice x0 x0n x0c)), (1, (.slice x1 x1n x1c))]).run Try.prog w = .ok (.agg #[(.slice x0 x0n x0c), (.slice x1 x1n x1c)]) w := by kernel_rfl
theorem bu_Relay_49_0 (x0 : Int) (w : World) : (Instr.build 49 #[(0, (.int .i64 x0))]).run Try.prog w = .ok (.agg #[(.int .i64 x0), (.int .i64 0), (.int .i64 0), (.int .i64 0)]) w := by kernel_rfl
theorem bu_Relay_49_0_1_3 (x0 : Int) (x1 : Int) (x2 : Int) (w : World) : (Instr.build 49 #[(0, (.int .i64 x0)), (1, (.int .i64 x1)), (3, (.int .i64 x2))]).run Try.prog w = .ok (.agg #[(.int .i64 x0), (.int .i64 x1), (.int .i64 0), (.int .i64 x2)]) w := by kernel_rfl
theorem bu_Relay_49_0_2_3 (x0 : Int) (x1 : Int) (x2 : Int) (w : World) : (Instr.build 49 #[(0, (.int .i64 x0)), (2, (.int .i64 x1)), (3, (.int .i64 x2))]).run Try.prog w = .ok (.agg #[(.int .i64 x0), (.int .i64 0), (.int .i64 x1), (.int .i64 x2)]) w := by kernel_rfl
theorem bu_Relay_49_0_3 (x0 : Int) (x1 : Int) (w : World) : (Instr.build 49 #[(0, (.int .i64 x0)), (3, (.int .i64 x1))]).run Try.prog w = .ok (.agg #[(.int .i64 x0), (.int .i64 0), (.int .i64 0), (.int .i64 x1)]) w := by kernel_rfl
theorem bu_Relay_52_0_1_2 (x0 : Int) (x1 : Int) (x2 : Int) (w : World) : (Instr.build 52 #[(0, (.int .i64 x0)), (1, (.int .i64 x1)), (2, (.int .i64 x2))]).run Try.prog w = .ok (.agg #[(.int .i64 x0), (.int .i64 x1), (.int .i64 x2)]) w := by kernel_rfl
theorem bu_Relay_54_0_1 (x0 : Int) (x1 : Int) (w : World) : (Instr.build 54 #[(0, (.int .i64 x0)), (1, (.int .i64 x1))]).run Try.prog w = .ok (.agg #[(.int .i64 x0), (.int .i64 x1)]) w := by kernel_rfl
set_option maxRecDepth 100000

theorem Rd.flatQ {P : Program} {w : World} {t e : TypeId} {cs : List Value} {d : Nat} {α : Type} {enc : α → List Value} {size : Nat} {Q : α → Prop} (hu : P.underlying t = some (.slice e)) (hce : P.cellsOf e = size) (hs : ∀ a, (enc a).length = size) (hd : ∀ r, Rd P w d e r → ∃ a, r = enc a ∧ Q a) (h : Rd P w (d + 1) t cs) : ∃ v l, cs = [v] ∧ Flat enc size w v l ∧ ∀ a, a ∈ l → Q a := by
  obtain ⟨v, l, h1, h2⟩ := Rd.flatS (α := {a // Q a}) (enc := fun a => enc a.1) hu hce (fun a => hs a.1) (fun r hr => by obtain ⟨a, ha, hq⟩ := hd r hr; exact ⟨⟨a, hq⟩, ha⟩) h
  refine ⟨v, l.map Subtype.val, h1, ?_, fun a ha => ?_⟩
  · obtain ⟨A, c, e, h3, h4, h5⟩ := h2
    exact ⟨A, c, by simpa using e, by simpa using h3, h4, by simpa [List.flatMap_map] using h5⟩
  · obtain ⟨⟨b, hb⟩, _, rfl⟩ := List.mem_map.1 ha
    exact hb
section
variable {H : Type} {enc : TypeId × Value → H} {w : World} {base base' : Nat} {r : Reach} {spare : Nat → Bool} {held : Bool} {v : Value} {d : DataW H} {p : List MemPlace}
theorem chn_rd {u : World} {n : Nat} {cs : List Value} (h : Rd Try.prog u (n + 2) 52 cs) : ∃ i : Chn, cs = i.cells := by
  obtain ⟨l, rfl, hl⟩ := h.ints_of_fields Try.underlying52 (by kernel_rfl) (by kernel_rfl) (by kernel_rfl)
  match l, hl with
  | [a, b, c], _ => exact ⟨⟨a, b, c⟩, rfl⟩
theorem slt_rd {u : World} {n : Nat} {cs : List Value} (h : Rd Try.prog u (n + 2) 54 cs) : ∃ i : Slt, cs = i.cells := by
  obtain ⟨l, rfl, hl⟩ := h.ints_of_fields Try.underlying54 (by kernel_rfl) (by kernel_rfl) (by kernel_rfl)
  match l, hl with
  | [a, b], _ => exact ⟨⟨a, b⟩, rfl⟩
theorem pp_rd {u : World} {n : Nat} {cs : List Value} (h : Rd Try.prog u (n + 4) 47 cs) : ∃ q : PP, cs = encP q ∧ q.At u := by
  obtain ⟨cv, iv, p, rfl, h1, h2⟩ := part_rd h
  obtain ⟨A, c, rfl⟩ := h1.form rfl
  obtain ⟨A2, c2, rfl⟩ := h2.form rfl
  exact ⟨(p, ⟨A, c, A2, c2⟩), rfl, h1, h2⟩
theorem sys_rd {u : World} {n : Nat} {cs : List Value} (h : Rd Try.prog u (n + 6) 26 cs) : ∃ x : SysD, cs = [.slice x.pa x.parts.length x.pc, .slice x.ha x.chans.length x.hc, .slice x.sa x.slots.length x.sc] ∧ x.At u := by
  obtain ⟨hl, -⟩ := h.struct Try.underlying26
  have h3 : Try.prog.cellsOf 26 = 3 := by kernel_rfl
  have h1 : Try.prog.cellsOf 22 = 1 := by kernel_rfl
  have h1' : Try.prog.cellsOf 23 = 1 := by kernel_rfl
  have h1'' : Try.prog.cellsOf 24 = 1 := by kernel_rfl
  rw [h3] at hl
  match cs, hl with
  | [a, b, c], _ =>
    have g0 := h.fld Try.underlying26 0 rfl rfl rfl h1 rfl
    have g1 := h.fld Try.underlying26 1 rfl rfl rfl h1' rfl
    have g2 := h.fld Try.underlying26 2 rfl rfl rfl h1'' rfl
    obtain ⟨v0, l0, e0, k0, q0⟩ := Rd.flatQ Try.underlying22 (by kernel_rfl) encP_len (fun _ h => pp_rd h) g0
    obtain ⟨v1, l1, e1, k1⟩ := Rd.flatS Try.underlying23 (by kernel_rfl) Chn.cells_len (fun _ h => chn_rd h) g1
    obtain ⟨v2, l2, e2, k2⟩ := Rd.flatS Try.underlying24 (by kernel_rfl) Slt.cells_len (fun _ h => slt_rd h) g2
    obtain rfl : a = v0 := by simpa using e0
    obtain rfl : b = v1 := by simpa using e1
    obtain rfl : c = v2 := by simpa using e2
    obtain ⟨A0, c0, rfl⟩ := k0.form rfl
    obtain ⟨A1, c1, rfl⟩ := k1.form rfl
    obtain ⟨A2, c2, rfl⟩ := k2.form rfl
    exact ⟨⟨l0, A0, c0, l1, A1, c1, l2, A2, c2⟩, rfl, k0, q0, k1, k2⟩
theorem sys_open (hv : Value.okWide Try.prog w r base' 26 v) (h : DataW.Trod enc Try.prog w base spare held 26 v d p) : ∃ x : SysD, v = x.val ∧ x.At w := by
  obtain ⟨cs, rfl, _⟩ := okWide_struct Try.underlying26 hv
  obtain ⟨x, e, h1⟩ := sys_rd (n := 0) (rd_of 6 h)
  exact ⟨x, agg_toList e, h1⟩
end

/-! ### relay -/
def relayP : List Prt := [⟨[⟨10, 0, 0, 0⟩, ⟨12, 0, 0, 0⟩, ⟨15, 0, 0, 0⟩], [6]⟩, ⟨tellerL, []⟩, ⟨[⟨13, 0, 1, 1⟩, ⟨9, 1, 0, 0⟩, ⟨11, 0, 0, 0⟩, ⟨15, 0, 0, 0⟩], []⟩, ⟨[⟨11, 0, 0, 0⟩, ⟨8, 0, 0, 0⟩], []⟩]
def relayC : List Chn := [⟨2, 0, 1⟩, ⟨1, 1, 2⟩]
def relayS : List Slt := [⟨0, 3⟩, ⟨1, 4⟩, ⟨3, 1⟩, ⟨2, 4⟩]
def RelayR (L : List PP) (pa sa : Option Addr) (u : World) : Prop := Flat encP 2 u (.slice pa 4 4) L ∧ (∀ q, q ∈ L → q.At u) ∧ Flat Slt.cells 2 u (.slice sa 4 4) relayS
def Relay (w : World) (e : Ending) (w' : World) : Prop :=
  ∃ (L : List PP) (pa : Option Addr) (b : Nat) (sa : Option Addr), e = .returned (.agg #[.slice pa 4 4, .slice (some ⟨b, 0, none⟩) 2 2, .slice sa 4 4]) ∧ L.map Prod.fst = relayP ∧
    Wd w NoB [.res (RelayR L pa sa), .blk b 52 [.int .i64 2, .int .i64 0, .int .i64 1, .int .i64 1, .int .i64 1, .int .i64 2]] w'
theorem relay_any (w : World) : Calls Try.prog 32 #[] w (Relay w) := by
  refine enter Try.func32 rfl Try.ntmps32 rfl fun a hF => ?_
  have hW := Wd.start w NoB
  refine c_sr ?_; refine pe (e_alloc hF hW ze_26 rfl rfl rfl ?_); intro b1 a wc hF hW; refine l_nil <| t_n <| c_sr <| pv hF hW (y_build hF rfl (fun w => bu_Relay_49_0 _ w)) fun a hF => pv hF hW (y_build hF rfl (fun w => bu_Relay_49_0_3 _ _ w)) fun a hF => pv hF hW (y_build hF rfl (fun w => bu_Relay_49_0 _ w)) fun a hF => ?_; refine pe (e_buildSlice hF hW rfl (fun w => bs_Relay_44_3_0_1_2 _ _ _ _ _ _ _ _ _ _ _ _ w) rfl rfl rfl ?_); intro b2 a wc hF hW; refine pe (e_buildSlice hF hW rfl (fun w => bs_Relay_45_1_0 _ w) rfl rfl rfl ?_); intro b3 a wc hF hW; refine pv hF hW (y_build hF rfl (fun w => bu_Relay_47_0_1 _ _ _ _ _ _ w)) fun a hF => ?_; refine pe (e_call hF rfl rfl en_52 (by rfl) rfl rfl (teller_any _) ?_); rintro e w1 ⟨A1, rfl, hr, hb⟩; replace hW := hW.gotR hb hr; refine ⟨_, rfl, fun a hF => ?_⟩; refine pv hF hW (y_build hF rfl (fun w => bu_Relay_47_0 _ _ _ w)) fun a hF => pv hF hW (y_build hF rfl (fun w => bu_Relay_49_0_2_3 _ _ _ w)) fun a hF => pv hF hW (y_build hF rfl (fun w => bu_Relay_49_0_1_3 _ _ _ w)) fun a hF => pv hF hW (y_build hF rfl (fun w => bu_Relay_49_0 _ w)) fun a hF => pv hF hW (y_build hF rfl (fun w => bu_Relay_49_0 _ w)) fun a hF => ?_; refine pe (e_buildSlice hF hW rfl (fun w => bs_Relay_44_4_0_1_2_3 _ _ _ _ _ _ _ _ _ _ _ _ _ _ _ _ w) rfl rfl rfl ?_); intro b4 a wc hF hW; refine pv hF hW (y_build hF rfl (fun w => bu_Relay_47_0 _ _ _ w)) fun a hF => pv hF hW (y_build hF rfl (fun w => bu_Relay_49_0 _ w)) fun a hF => pv hF hW (y_build hF rfl (fun w => bu_Relay_49_0 _ w)) fun a hF => ?_; refine pe (e_buildSlice hF hW rfl (fun w => bs_Relay_44_2_0_1 _ _ _ _ _ _ _ _ w) rfl rfl rfl ?_); intro b5 a wc hF hW; refine pv hF hW (y_build hF rfl (fun w => bu_Relay_47_0 _ _ _ w)) fun a hF => ?_; refine pe (e_buildSlice hF hW rfl (fun w => bs_Relay_22_4_0_1_2_3 _ _ _ _ _ _ _ _ _ _ _ _ _ _ _ _ _ _ _ _ _ _ _ _ w) rfl rfl rfl ?_); intro b6 a wc hF hW; refine pv hF hW (y_build hF rfl (fun w => bu_Relay_52_0_1_2 _ _ _ w)) fun a hF => pv hF hW (y_build hF rfl (fun w => bu_Relay_52_0_1_2 _ _ _ w)) fun a hF => ?_; refine pe (e_buildSlice hF hW rfl (fun w => bs_Relay_23_2_0_1 _ _ _ _ _ _ w) rfl rfl rfl ?_); intro b7 a wc hF hW; refine pv hF hW (y_build hF rfl (fun w => bu_Relay_54_0_1 _ _ w)) fun a hF => pv hF hW (y_build hF rfl (fun w => bu_Relay_54_0_1 _ _ w)) fun a hF => pv hF hW (y_build hF rfl (fun w => bu_Relay_54_0_1 _ _ w)) fun a hF => pv hF hW (y_build hF rfl (fun w => bu_Relay_54_0_1 _ _ w)) fun a hF => ?_; refine pe (e_buildSlice hF hW rfl (fun w => bs_Relay_24_4_0_1_2_3 _ _ _ _ _ _ _ _ w) rfl rfl rfl ?_); intro b8 a wc hF hW; refine pv hF hW (y_build hF rfl (fun w => bu_Relay_26_0_1_2 _ _ _ _ _ _ _ _ _ w)) fun a hF => ?_; refine pe (e_storeAll rfl hF hW rfl rfl 8 rfl rfl rfl (by kernel_rfl) sz_26 ?_); intro wc hW; refine l_nil ?_
  replace hF := hF.ks [0] rfl; refine t_n <| wp_ret <| ret1 Try.results32 hF (rv_c hF rfl hW 8 rfl Try.underlying26 rfl sz_26) ?_; replace hW := hW.del 8 rfl; replace hW := hW.front 1 rfl rfl; replace hW := hW.front 1 rfl rfl; replace hW := hW.front 2 rfl rfl; replace hW := hW.front 3 rfl rfl; replace hW := hW.front 4 rfl rfl; replace hW := hW.front 5 rfl rfl; replace hW := hW.front 6 rfl rfl; replace hW := hW.front 7 rfl rfl
  have h7 := (((((((((((hW.blk_res 0 rfl).blk_res 1 rfl).blk_res 3 rfl).blk_res 4 rfl).blk_res 5 rfl).blk_res 6 rfl).join rfl).join rfl).join rfl).join rfl).join rfl).join rfl
  refine ⟨[(⟨[⟨10, 0, 0, 0⟩, ⟨12, 0, 0, 0⟩, ⟨15, 0, 0, 0⟩], [6]⟩, PX.mk (some ⟨b2, 0, none⟩) 3 (some ⟨b3, 0, none⟩) 1), (⟨tellerL, []⟩, PX.mk A1 5 none 0), (⟨[⟨13, 0, 1, 1⟩, ⟨9, 1, 0, 0⟩, ⟨11, 0, 0, 0⟩, ⟨15, 0, 0, 0⟩], []⟩, PX.mk (some ⟨b4, 0, none⟩) 4 none 0), (⟨[⟨11, 0, 0, 0⟩, ⟨8, 0, 0, 0⟩], []⟩, PX.mk (some ⟨b5, 0, none⟩) 2 none 0)], _, _, _, rfl, rfl, h7.weak 0 rfl fun u h => ?_⟩
  obtain ⟨⟨⟨⟨⟨⟨h4, h5⟩, ht⟩, h12⟩, h16⟩, h18⟩, h26⟩ := h
  refine ⟨flat_blk h18 rfl rfl rfl (show 4 ≤ maxLen by decide), fun q hq => ?_, flat_blk h26 rfl rfl rfl (show 4 ≤ maxLen by decide)⟩
  simp only [List.mem_cons, List.not_mem_nil, or_false] at hq
  rcases hq with rfl | rfl | rfl | rfl
  · exact ⟨flat_blk h4 rfl rfl rfl (show 3 ≤ maxLen by decide), ints_blk h5 rfl rfl (show 1 ≤ maxLen by decide)⟩
  · exact ⟨ht, Ints.nil_⟩
  · exact ⟨flat_blk h12 rfl rfl rfl (show 4 ≤ maxLen by decide), Ints.nil_⟩
  · exact ⟨flat_blk h16 rfl rfl rfl (show 2 ≤ maxLen by decide), Ints.nil_⟩
section
variable {L : List PP} {pa sa : Option Addr} {b : Nat} {T : TypeId} {u : World} {cs : List Chn}
def relayD (L : List PP) (pa : Option Addr) (b : Nat) (sa : Option Addr) (cs : List Chn) : SysD := ⟨L, pa, 4, cs, some ⟨b, 0, none⟩, 2, relayS, sa, 4⟩
theorem relay_len (hL : L.map Prod.fst = relayP) : L.length = 4 := by
  have := congrArg List.length hL
  simpa [relayP] using this
theorem relay_sys (hL : L.map Prod.fst = relayP) : (relayD L pa b sa cs).sys = ⟨relayP, cs, relayS⟩ := by
  simp only [SysD.sys, relayD, hL]
theorem relay_val (hL : L.map Prod.fst = relayP) (hc : cs.length = 2) : (relayD L pa b sa cs).val = .agg #[.slice pa 4 4, .slice (some ⟨b, 0, none⟩) 2 2, .slice sa 4 4] := by
  simp only [SysD.val, relayD, relay_len hL, hc]
  rfl
theorem relay_at (hL : L.map Prod.fst = relayP) (hc : cs.length = 2) (hB : Blk u b T (cs.flatMap Chn.cells)) (h : RelayR L pa sa u) : (relayD L pa b sa cs).At u := by
  refine ⟨?_, h.2.1, ?_, h.2.2⟩
  · have := h.1
    show Flat encP 2 u (.slice pa L.length 4) L
    rw [relay_len hL]
    exact this
  · show Flat Chn.cells 3 u (.slice (some ⟨b, 0, none⟩) cs.length 2) cs
    rw [hc]
    have hl : (cs.flatMap Chn.cells).length = 2 * 3 := by
      match cs, hc with
      | [_, _], _ => rfl
    exact flat_blk hB hc.symm rfl hl (show 2 ≤ maxLen by decide)
theorem relay_check (hL : L.map Prod.fst = relayP) (hc : cs.length = 2) (hB : Blk u b T (cs.flatMap Chn.cells)) (h : RelayR L pa sa u) (E : Int) (hE : chkSys ⟨relayP, cs, relayS⟩ = E) :
    Calls Try.prog 12 #[.agg #[.slice pa 4 4, .slice (some ⟨b, 0, none⟩) 2 2, .slice sa 4 4]] u fun e w' => e = .returned (.int .i64 E) ∧ Below u.heap.size u w' := by
  have := confCheck_any (relay_at hL hc hB h)
  rwa [relay_val hL hc, relay_sys hL, hE] at this
end
theorem zero_check (u : World) : Calls Try.prog 12 #[.agg #[.slice none 0 0, .slice none 0 0, .slice none 0 0]] u fun e w' => e = .returned (.int .i64 2) ∧ Below u.heap.size u w' := confCheck_any (SysD.zero_at u)
end
end Go.Proofs.Ytnpflhaggfabnaa
