/- The worker's do, an instruction at a time. -/
import Derived.Test.YtebklpbbglojmaaCellSpec
import Derived.Test.YtebklpbbglojmaaProg
import Derived.Test.YtebklpbbglojmaaIsaRef
import Derived.Test.YtebklpbbglojmaaClone
import Derived.Deep.RegionHeld3
namespace Go.Proofs.Ytebklpbbglojmaa
set_option linter.unusedVariables false
set_option linter.unusedSimpArgs false
open Go.RowKit

/-- integers in memory that was there before block B was made -/
def Old (w : World) (B : Nat) (v : Value) (l : List Int) : Prop := ∃ w0 : World, w0.heap.size ≤ B ∧ Ints w0 v l ∧ Below w0.heap.size w0 w
theorem Old.on {w w' : World} {B : Nat} {v : Value} {l : List Int} (h : Old w B v l) (hb : Below B w w') : Old w' B v l := by
  obtain ⟨w0, h1, h2, h3⟩ := h
  exact ⟨w0, h1, h2, h3.trans (hb.mono h1)⟩
theorem Old.ints {w : World} {B : Nat} {v : Value} {l : List Int} (h : Old w B v l) : Ints w v l := by
  obtain ⟨w0, h1, h2, h3⟩ := h
  exact h2.below h3
theorem Below.set_ {B b o : Nat} {w W : World} (h : Below B w W) (hb : B ≤ b) (v : Value) : Below B w (W.setCell ⟨b, o, none⟩ v) := h.setCell hb v
theorem Below.alloc_ {B : Nat} {w W : World} (h : Below B w W) (hB : B ≤ W.heap.size) (o : Obj) : Below B w (W.alloc o) := h.alloc hB o

/-- the worker in its block: a cell, what comes in, a want -/
structure Work (w : World) (B : Nat) (c : Cel) (ov iv : Value) (k : Wnt) (inp : List Int) : Prop where
  blk : Blk w B 91 (workL c ov iv k)
  wf : c.wf
  out : OwnAs 3 w (B + 1) ov c.out
  inp : Old w B iv inp
section
variable {w : World} {B : Nat} {c : Cel} {ov iv : Value} {k : Wnt} {inp : List Int}
theorem Work.alloc (h : Work w B c ov iv k inp) (o : Obj) : Work (w.alloc o) B c ov iv k inp :=
  ⟨h.blk.alloc o, h.wf, h.out.below ((Below.refl _ _).alloc (Nat.le_refl _) _), h.inp.on ((Below.refl _ _).alloc (Nat.le_of_lt h.blk.lt) _)⟩
theorem Work.drewN (h : Work w B c ov iv k inp) (n : Nat) : Work (w.drewN n) B c ov iv k inp :=
  ⟨h.blk.drewN n, h.wf, h.out.below (below_drewN (Below.refl _ _) n), h.inp.on (below_drewN (Below.refl _ _) n)⟩
theorem Work.put (h : Work w B c ov iv k inp) {o : Nat} {u : Value} {c' : Cel} {k' : Wnt} (he : (workL c ov iv k).set o u = workL c' ov iv k') (hf : c'.wf) (ho : c'.out = c.out) : Work (w.setCell ⟨B, o, none⟩ u) B c' ov iv k' inp :=
  ⟨(h.blk.set o u).same he, hf, by rw [ho]; exact h.out.set (by simp) u, h.inp.on (Below.set_ (Below.refl B w) (Nat.le_refl B) u)⟩
theorem Work.setAt (h : Work w B c ov iv k inp) (v : Int) : Work (w.setCell ⟨B, 0, none⟩ (.int .i64 v)) B { c with at_ := v } ov iv k inp := h.put (set_at v) h.wf rfl
theorem Work.setReg (h : Work w B c ov iv k inp) {a : Nat} (ha : a < 4) (v : Int) : Work (w.setCell ⟨B, 1 + a, none⟩ (.int .i64 v)) B { c with regs := c.regs.set a v } ov iv k inp :=
  h.put (set_reg h.wf ha v) ⟨by simpa using h.wf.1, h.wf.2⟩ rfl
theorem Work.setMem (h : Work w B c ov iv k inp) {a : Nat} (ha : a < 8) (v : Int) : Work (w.setCell ⟨B, 5 + a, none⟩ (.int .i64 v)) B { c with mem := c.mem.set a v } ov iv k inp :=
  h.put (set_mem h.wf ha v) ⟨h.wf.1, by simpa using h.wf.2⟩ rfl
theorem Work.setRead (h : Work w B c ov iv k inp) (v : Int) : Work (w.setCell ⟨B, 13, none⟩ (.int .i64 v)) B { c with read := v } ov iv k inp := h.put (set_read h.wf v) h.wf rfl
theorem Work.setEnd (h : Work w B c ov iv k inp) (v : Int) : Work (w.setCell ⟨B, 15, none⟩ (.int .i64 v)) B { c with end_ := v } ov iv k inp := h.put (set_end h.wf v) h.wf rfl
end
/-- what do does: it comes back with the cell changed, or it throws -/
def Did (w : World) (B : Nat) (iv : Value) (inp : List Int) (r : Option (Cel × Wnt)) (c : Cel) (ov : Value) (k : Wnt) (e : Ending) (w' : World) : Prop :=
  Below B w w' ∧ match r with
    | some (c', k') => e = .returned (.tuple #[]) ∧ ∃ ov', Work w' B c' ov' iv k' inp
    | none => e = .panicked [{ v := .iface 122 (.agg #[]), recovered := false }] ∧ Work w' B c ov iv k inp ∧ Below w.heap.size w w'
theorem Did.ok {w : World} {B : Nat} {iv ov : Value} {inp : List Int} {c c' : Cel} {k k' : Wnt} {w' : World} {r : Option (Cel × Wnt)} (hr : r = some (c', k')) (hb : Below B w w') (ov' : Value) (hw : Work w' B c' ov' iv k' inp) :
    Did w B iv inp r c ov k (.returned (.tuple #[])) w' := by
  subst hr
  exact ⟨hb, rfl, ov', hw⟩
theorem Did.no {w : World} {B : Nat} {iv ov : Value} {inp : List Int} {c : Cel} {k : Wnt} {w' : World} {r : Option (Cel × Wnt)} (hr : r = none) (hlt : B < w.heap.size) (hb : Below w.heap.size w w') (hw : Work w' B c ov iv k inp) :
    Did w B iv inp r c ov k (.panicked [{ v := .iface 122 (.agg #[]), recovered := false }]) w' := by
  subst hr
  exact ⟨hb.mono (Nat.le_of_lt hlt), rfl, hw, hb⟩

set_option maxRecDepth 100000 in
set_option maxHeartbeats 1000000 in
theorem do_1 (B a b : Nat) (n : Int) (ha : a < 4) (hb : b < 4) (c : Cel) (ov iv : Value) (inp : List Int) (w : World) (hw : Work w B c ov iv Wnt.zero inp) (h0 : 0 ≤ c.at_) (h1 : c.at_ ≤ 20) :
    Calls Try.prog 83 #[.pointer (some ⟨B, 0, none⟩), .agg #[.int .i64 1, .int .i64 a, .int .i64 b, .int .i64 n]] w (Did w B iv inp (doOf ⟨1, a, b, n⟩ c inp) c ov Wnt.zero) := by
  have hblk := hw.blk
  have hwf := hw.wf
  have c0 : w.cell? ⟨B, 0, none⟩ = some (.int .i64 c.at_) := (hblk.cell 0).trans work_at
  have ca : w.cell? ⟨B, 1 + a, none⟩ = some (.int .i64 (c.regs.getD a 0)) := (hblk.cell _).trans (work_reg hwf ha)
  have cb : w.cell? ⟨B, 1 + b, none⟩ = some (.int .i64 (c.regs.getD b 0)) := (hblk.cell _).trans (work_reg hwf hb)
  have fz := hblk.frozen
  have hlt := hblk.lt
  have a0 : (0 : Int) ≤ (a : Int) := by omega
  have a4 : (a : Int) < 4 := by omega
  have b0 : (0 : Int) ≤ (b : Int) := by omega
  have b4 : (b : Int) < 4 := by omega
  have HW := hide hw
  clear hw hblk hwf
  obtain ⟨ra, hra⟩ : ∃ r, c.regs.getD a 0 = r := ⟨_, rfl⟩
  obtain ⟨rb, hrb⟩ : ∃ r, c.regs.getD b 0 = r := ⟨_, rfl⟩
  rw [hra] at ca
  rw [hrb] at cb
  have HRA := hide hra
  have HRB := hide hrb
  clear hra hrb
  go_enter Try.func83, Try.ntmps83
  go_wp2_with fail
  go_quiet (fail)
  go_wp2_with fail
  go_end0
  exact Did.ok (c' := { c with regs := c.regs.set a (n), at_ := c.at_ + 1 }) (k' := Wnt.zero) (by (first | rfl | (rw [← HRB.out]; rfl) | (rw [← HRA.out]; rfl) | (rw [← HRA.out, ← HRB.out]; rfl))) (by repeat' (first | with_reducible exact Below.refl _ _ | with_reducible refine below_drewN ?_ _ | with_reducible refine Below.set_ ?_ (Nat.le_refl _) _ | with_reducible refine Below.alloc_ ?_ (Nat.le_of_lt hlt) _)) ov ((((HW.out.alloc _).setReg ha (n)).setAt _).drewN _)
set_option maxRecDepth 100000 in
set_option maxHeartbeats 1000000 in
theorem do_2 (B a b : Nat) (n : Int) (ha : a < 4) (hb : b < 4) (c : Cel) (ov iv : Value) (inp : List Int) (w : World) (hw : Work w B c ov iv Wnt.zero inp) (h0 : 0 ≤ c.at_) (h1 : c.at_ ≤ 20) :
    Calls Try.prog 83 #[.pointer (some ⟨B, 0, none⟩), .agg #[.int .i64 2, .int .i64 a, .int .i64 b, .int .i64 n]] w (Did w B iv inp (doOf ⟨2, a, b, n⟩ c inp) c ov Wnt.zero) := by
  have hblk := hw.blk
  have hwf := hw.wf
  have c0 : w.cell? ⟨B, 0, none⟩ = some (.int .i64 c.at_) := (hblk.cell 0).trans work_at
  have ca : w.cell? ⟨B, 1 + a, none⟩ = some (.int .i64 (c.regs.getD a 0)) := (hblk.cell _).trans (work_reg hwf ha)
  have cb : w.cell? ⟨B, 1 + b, none⟩ = some (.int .i64 (c.regs.getD b 0)) := (hblk.cell _).trans (work_reg hwf hb)
  have fz := hblk.frozen
  have hlt := hblk.lt
  have a0 : (0 : Int) ≤ (a : Int) := by omega
  have a4 : (a : Int) < 4 := by omega
  have b0 : (0 : Int) ≤ (b : Int) := by omega
  have b4 : (b : Int) < 4 := by omega
  have HW := hide hw
  clear hw hblk hwf
  obtain ⟨ra, hra⟩ : ∃ r, c.regs.getD a 0 = r := ⟨_, rfl⟩
  obtain ⟨rb, hrb⟩ : ∃ r, c.regs.getD b 0 = r := ⟨_, rfl⟩
  rw [hra] at ca
  rw [hrb] at cb
  have HRA := hide hra
  have HRB := hide hrb
  clear hra hrb
  go_enter Try.func83, Try.ntmps83
  go_wp2_with fail
  go_quiet (fail)
  go_wp2_with fail
  go_end0
  exact Did.ok (c' := { c with regs := c.regs.set a (rb), at_ := c.at_ + 1 }) (k' := Wnt.zero) (by (first | rfl | (rw [← HRB.out]; rfl) | (rw [← HRA.out]; rfl) | (rw [← HRA.out, ← HRB.out]; rfl))) (by repeat' (first | with_reducible exact Below.refl _ _ | with_reducible refine below_drewN ?_ _ | with_reducible refine Below.set_ ?_ (Nat.le_refl _) _ | with_reducible refine Below.alloc_ ?_ (Nat.le_of_lt hlt) _)) ov ((((HW.out.alloc _).setReg ha (rb)).setAt _).drewN _)
set_option maxRecDepth 100000 in
set_option maxHeartbeats 1000000 in
theorem do_3 (B a b : Nat) (n : Int) (ha : a < 4) (hb : b < 4) (c : Cel) (ov iv : Value) (inp : List Int) (w : World) (hw : Work w B c ov iv Wnt.zero inp) (h0 : 0 ≤ c.at_) (h1 : c.at_ ≤ 20) :
    Calls Try.prog 83 #[.pointer (some ⟨B, 0, none⟩), .agg #[.int .i64 3, .int .i64 a, .int .i64 b, .int .i64 n]] w (Did w B iv inp (doOf ⟨3, a, b, n⟩ c inp) c ov Wnt.zero) := by
  have hblk := hw.blk
  have hwf := hw.wf
  have c0 : w.cell? ⟨B, 0, none⟩ = some (.int .i64 c.at_) := (hblk.cell 0).trans work_at
  have ca : w.cell? ⟨B, 1 + a, none⟩ = some (.int .i64 (c.regs.getD a 0)) := (hblk.cell _).trans (work_reg hwf ha)
  have cb : w.cell? ⟨B, 1 + b, none⟩ = some (.int .i64 (c.regs.getD b 0)) := (hblk.cell _).trans (work_reg hwf hb)
  have fz := hblk.frozen
  have hlt := hblk.lt
  have a0 : (0 : Int) ≤ (a : Int) := by omega
  have a4 : (a : Int) < 4 := by omega
  have b0 : (0 : Int) ≤ (b : Int) := by omega
  have b4 : (b : Int) < 4 := by omega
  have HW := hide hw
  clear hw hblk hwf
  obtain ⟨ra, hra⟩ : ∃ r, c.regs.getD a 0 = r := ⟨_, rfl⟩
  obtain ⟨rb, hrb⟩ : ∃ r, c.regs.getD b 0 = r := ⟨_, rfl⟩
  rw [hra] at ca
  rw [hrb] at cb
  have HRA := hide hra
  have HRB := hide hrb
  clear hra hrb
  go_enter Try.func83, Try.ntmps83
  go_wp2_with fail
  go_quiet (fail)
  go_wp2_with fail
  go_end0
  exact Did.ok (c' := { c with regs := c.regs.set a (wrap64 (ra + rb)), at_ := c.at_ + 1 }) (k' := Wnt.zero) (by (first | rfl | (rw [← HRB.out]; rfl) | (rw [← HRA.out]; rfl) | (rw [← HRA.out, ← HRB.out]; rfl))) (by repeat' (first | with_reducible exact Below.refl _ _ | with_reducible refine below_drewN ?_ _ | with_reducible refine Below.set_ ?_ (Nat.le_refl _) _ | with_reducible refine Below.alloc_ ?_ (Nat.le_of_lt hlt) _)) ov ((((HW.out.alloc _).setReg ha (wrap64 (ra + rb))).setAt _).drewN _)
set_option maxRecDepth 100000 in
set_option maxHeartbeats 1000000 in
theorem do_4 (B a b : Nat) (n : Int) (ha : a < 4) (hb : b < 4) (c : Cel) (ov iv : Value) (inp : List Int) (w : World) (hw : Work w B c ov iv Wnt.zero inp) (h0 : 0 ≤ c.at_) (h1 : c.at_ ≤ 20) :
    Calls Try.prog 83 #[.pointer (some ⟨B, 0, none⟩), .agg #[.int .i64 4, .int .i64 a, .int .i64 b, .int .i64 n]] w (Did w B iv inp (doOf ⟨4, a, b, n⟩ c inp) c ov Wnt.zero) := by
  have hblk := hw.blk
  have hwf := hw.wf
  have c0 : w.cell? ⟨B, 0, none⟩ = some (.int .i64 c.at_) := (hblk.cell 0).trans work_at
  have ca : w.cell? ⟨B, 1 + a, none⟩ = some (.int .i64 (c.regs.getD a 0)) := (hblk.cell _).trans (work_reg hwf ha)
  have cb : w.cell? ⟨B, 1 + b, none⟩ = some (.int .i64 (c.regs.getD b 0)) := (hblk.cell _).trans (work_reg hwf hb)
  have fz := hblk.frozen
  have hlt := hblk.lt
  have a0 : (0 : Int) ≤ (a : Int) := by omega
  have a4 : (a : Int) < 4 := by omega
  have b0 : (0 : Int) ≤ (b : Int) := by omega
  have b4 : (b : Int) < 4 := by omega
  have HW := hide hw
  clear hw hblk hwf
  obtain ⟨ra, hra⟩ : ∃ r, c.regs.getD a 0 = r := ⟨_, rfl⟩
  obtain ⟨rb, hrb⟩ : ∃ r, c.regs.getD b 0 = r := ⟨_, rfl⟩
  rw [hra] at ca
  rw [hrb] at cb
  have HRA := hide hra
  have HRB := hide hrb
  clear hra hrb
  go_enter Try.func83, Try.ntmps83
  go_wp2_with fail
  go_quiet (fail)
  go_wp2_with fail
  go_end0
  exact Did.ok (c' := { c with regs := c.regs.set a (wrap64 (ra - rb)), at_ := c.at_ + 1 }) (k' := Wnt.zero) (by (first | rfl | (rw [← HRB.out]; rfl) | (rw [← HRA.out]; rfl) | (rw [← HRA.out, ← HRB.out]; rfl))) (by repeat' (first | with_reducible exact Below.refl _ _ | with_reducible refine below_drewN ?_ _ | with_reducible refine Below.set_ ?_ (Nat.le_refl _) _ | with_reducible refine Below.alloc_ ?_ (Nat.le_of_lt hlt) _)) ov ((((HW.out.alloc _).setReg ha (wrap64 (ra - rb))).setAt _).drewN _)
set_option maxRecDepth 100000 in
set_option maxHeartbeats 1000000 in
theorem do_8 (B a b : Nat) (n : Int) (ha : a < 4) (hb : b < 4) (c : Cel) (ov iv : Value) (inp : List Int) (w : World) (hw : Work w B c ov iv Wnt.zero inp) (h0 : 0 ≤ c.at_) (h1 : c.at_ ≤ 20) :
    Calls Try.prog 83 #[.pointer (some ⟨B, 0, none⟩), .agg #[.int .i64 8, .int .i64 a, .int .i64 b, .int .i64 n]] w (Did w B iv inp (doOf ⟨8, a, b, n⟩ c inp) c ov Wnt.zero) := by
  have hblk := hw.blk
  have hwf := hw.wf
  have c0 : w.cell? ⟨B, 0, none⟩ = some (.int .i64 c.at_) := (hblk.cell 0).trans work_at
  have ca : w.cell? ⟨B, 1 + a, none⟩ = some (.int .i64 (c.regs.getD a 0)) := (hblk.cell _).trans (work_reg hwf ha)
  have cb : w.cell? ⟨B, 1 + b, none⟩ = some (.int .i64 (c.regs.getD b 0)) := (hblk.cell _).trans (work_reg hwf hb)
  have fz := hblk.frozen
  have hlt := hblk.lt
  have a0 : (0 : Int) ≤ (a : Int) := by omega
  have a4 : (a : Int) < 4 := by omega
  have b0 : (0 : Int) ≤ (b : Int) := by omega
  have b4 : (b : Int) < 4 := by omega
  have HW := hide hw
  clear hw hblk hwf
  obtain ⟨ra, hra⟩ : ∃ r, c.regs.getD a 0 = r := ⟨_, rfl⟩
  obtain ⟨rb, hrb⟩ : ∃ r, c.regs.getD b 0 = r := ⟨_, rfl⟩
  rw [hra] at ca
  rw [hrb] at cb
  have HRA := hide hra
  have HRB := hide hrb
  clear hra hrb
  go_enter Try.func83, Try.ntmps83
  go_wp2_with fail
  go_quiet (fail)
  go_wp2_with fail
  go_end0
  exact Did.ok (c' := { c with at_ := n }) (k' := Wnt.zero) rfl (by repeat' (first | with_reducible exact Below.refl _ _ | with_reducible refine below_drewN ?_ _ | with_reducible refine Below.set_ ?_ (Nat.le_refl _) _ | with_reducible refine Below.alloc_ ?_ (Nat.le_of_lt hlt) _)) ov (((HW.out.alloc _).setAt _).drewN _)
set_option maxRecDepth 100000 in
set_option maxHeartbeats 1000000 in
theorem do_14 (B a b : Nat) (n : Int) (ha : a < 4) (hb : b < 4) (c : Cel) (ov iv : Value) (inp : List Int) (w : World) (hw : Work w B c ov iv Wnt.zero inp) (h0 : 0 ≤ c.at_) (h1 : c.at_ ≤ 20) :
    Calls Try.prog 83 #[.pointer (some ⟨B, 0, none⟩), .agg #[.int .i64 14, .int .i64 a, .int .i64 b, .int .i64 n]] w (Did w B iv inp (doOf ⟨14, a, b, n⟩ c inp) c ov Wnt.zero) := by
  have hblk := hw.blk
  have hwf := hw.wf
  have c0 : w.cell? ⟨B, 0, none⟩ = some (.int .i64 c.at_) := (hblk.cell 0).trans work_at
  have ca : w.cell? ⟨B, 1 + a, none⟩ = some (.int .i64 (c.regs.getD a 0)) := (hblk.cell _).trans (work_reg hwf ha)
  have cb : w.cell? ⟨B, 1 + b, none⟩ = some (.int .i64 (c.regs.getD b 0)) := (hblk.cell _).trans (work_reg hwf hb)
  have fz := hblk.frozen
  have hlt := hblk.lt
  have a0 : (0 : Int) ≤ (a : Int) := by omega
  have a4 : (a : Int) < 4 := by omega
  have b0 : (0 : Int) ≤ (b : Int) := by omega
  have b4 : (b : Int) < 4 := by omega
  have HW := hide hw
  clear hw hblk hwf
  obtain ⟨ra, hra⟩ : ∃ r, c.regs.getD a 0 = r := ⟨_, rfl⟩
  obtain ⟨rb, hrb⟩ : ∃ r, c.regs.getD b 0 = r := ⟨_, rfl⟩
  rw [hra] at ca
  rw [hrb] at cb
  have HRA := hide hra
  have HRB := hide hrb
  clear hra hrb
  go_enter Try.func83, Try.ntmps83
  go_wp2_with fail
  go_quiet (fail)
  go_wp2_with fail
  go_end0
  exact Did.ok (c' := { c with at_ := c.at_ + 1 }) (k' := Wnt.zero) rfl (by repeat' (first | with_reducible exact Below.refl _ _ | with_reducible refine below_drewN ?_ _ | with_reducible refine Below.set_ ?_ (Nat.le_refl _) _ | with_reducible refine Below.alloc_ ?_ (Nat.le_of_lt hlt) _)) ov (((HW.out.alloc _).setAt _).drewN _)
end Go.Proofs.Ytebklpbbglojmaa
