/- The worker's do: Save, Zero, Put, Get, Stop. -/
import Derived.Test.YtebklpbbglojmaaCellDoB
import Derived.Deep.RegionWith
import Derived.RegionDies
namespace Go.Proofs.Ytebklpbbglojmaa
set_option linter.unusedVariables false
set_option linter.unusedSimpArgs false
open Go.RowKit

set_option maxRecDepth 100000 in
set_option maxHeartbeats 1000000 in
theorem do_7 (B a b : Nat) (n : Int) (ha : a < 4) (hb : b < 4) (c : Cel) (ov iv : Value) (inp : List Int) (w : World) (hw : Work w B c ov iv Wnt.zero inp) (h0 : 0 ≤ c.at_) (h1 : c.at_ ≤ 20) :
    Calls Try.prog 83 #[.pointer (some ⟨B, 0, none⟩), .agg #[.int .i64 7, .int .i64 a, .int .i64 b, .int .i64 n]] w (Did w B iv inp (doOf ⟨7, a, b, n⟩ c inp) c ov Wnt.zero) := by
  have hblk := hw.blk
  have hwf := hw.wf
  have c0 : w.cell? ⟨B, 0, none⟩ = some (.int .i64 c.at_) := (hblk.cell 0).trans work_at
  have ca : w.cell? ⟨B, 1 + a, none⟩ = some (.int .i64 (c.regs.getD a 0)) := (hblk.cell _).trans (work_reg hwf ha)
  have cb : w.cell? ⟨B, 1 + b, none⟩ = some (.int .i64 (c.regs.getD b 0)) := (hblk.cell _).trans (work_reg hwf hb)
  have fz := hblk.frozen
  have hlt := hblk.lt
  have a0 : (0 : Int) ≤ (a : Int) := by omega
  have a4 : (a : Int) < 4 := by omega
  have b0 : (0 : Int) ≤ (b : Int) := by omega
  have b4 : (b : Int) < 4 := by omega
  have HW := hide hw
  clear hw hblk hwf
  obtain ⟨ra, hra⟩ : ∃ r, c.regs.getD a 0 = r := ⟨_, rfl⟩
  obtain ⟨rb, hrb⟩ : ∃ r, c.regs.getD b 0 = r := ⟨_, rfl⟩
  rw [hra] at ca
  rw [hrb] at cb
  have HRA := hide hra
  have HRB := hide hrb
  clear hra hrb
  by_cases hr : 0 ≤ rb ∧ rb < 8
  · have cm : w.cell? ⟨B, 5 + rb.toNat, none⟩ = some (.int .i64 (c.mem.getD rb.toNat 0)) := (HW.out.blk.cell _).trans (work_mem HW.out.wf (by omega))
    have HWD := hide (word_ok B rb hr.1 hr.2)
    have HR := hide hr
    clear hr
    go_enter Try.func83, Try.ntmps83
    go_wp2_with fail
    go_quiet (fail)
    go_wp2_with fail
    go_region_with (go_at_call 97; refine (HWD.out _).mono ?_; rintro e w' ⟨rfl, rfl⟩)
    all_goals
      go_wp2_with fail
      go_end0
      exact Did.ok (c' := { c with mem := c.mem.set rb.toNat ra, at_ := c.at_ + 1 }) (k' := Wnt.zero) (by have h := HR.out; rw [← HRB.out] at h ⊢; rw [← HRA.out]; exact if_pos h) (by repeat' (first | with_reducible exact Below.refl _ _ | with_reducible refine below_drewN ?_ _ | with_reducible refine Below.set_ ?_ (Nat.le_refl _) _ | with_reducible refine Below.alloc_ ?_ (Nat.le_of_lt hlt) _)) ov ((((HW.out.alloc _).setMem (by have h := HR.out; omega) ra).setAt _).drewN _)
  · have HWD := hide (word_bad B rb hr)
    have HR := hide hr
    clear hr
    go_enter Try.func83, Try.ntmps83
    go_wp2_with fail
    go_quiet (fail)
    go_wp2_with fail
    go_region_dies
    all_goals
      go_wp2_with (go_at_call 97; refine (HWD.out _).mono ?_; rintro e w' ⟨rfl, rfl⟩)
      refine ⟨rfl, ?_⟩
      exact Did.no (by have h := HR.out; rw [← HRB.out] at h; exact if_neg h) hlt (by repeat' (first | exact Below.refl _ _ | assumption | refine Below.alloc1 ?_ _ | refine Below.drewN1 ?_ _ | refine Below.drew ?_ | refine Below.setCell1 ?_ ?_ _ | refine Below.via ?_ (by assumption) | refine Below.viaD ?_ (by assumption) | omega | (simp; done) | (simp; omega))) ((HW.out.alloc _).drewN _)

set_option maxRecDepth 100000 in
set_option maxHeartbeats 1000000 in
theorem do_9 (B a b : Nat) (n : Int) (ha : a < 4) (hb : b < 4) (c : Cel) (ov iv : Value) (inp : List Int) (w : World) (hw : Work w B c ov iv Wnt.zero inp) (h0 : 0 ≤ c.at_) (h1 : c.at_ ≤ 20) :
    Calls Try.prog 83 #[.pointer (some ⟨B, 0, none⟩), .agg #[.int .i64 9, .int .i64 a, .int .i64 b, .int .i64 n]] w (Did w B iv inp (doOf ⟨9, a, b, n⟩ c inp) c ov Wnt.zero) := by
  have hblk := hw.blk
  have hwf := hw.wf
  have c0 : w.cell? ⟨B, 0, none⟩ = some (.int .i64 c.at_) := (hblk.cell 0).trans work_at
  have ca : w.cell? ⟨B, 1 + a, none⟩ = some (.int .i64 (c.regs.getD a 0)) := (hblk.cell _).trans (work_reg hwf ha)
  have cb : w.cell? ⟨B, 1 + b, none⟩ = some (.int .i64 (c.regs.getD b 0)) := (hblk.cell _).trans (work_reg hwf hb)
  have fz := hblk.frozen
  have hlt := hblk.lt
  have a0 : (0 : Int) ≤ (a : Int) := by omega
  have a4 : (a : Int) < 4 := by omega
  have b0 : (0 : Int) ≤ (b : Int) := by omega
  have b4 : (b : Int) < 4 := by omega
  have HW := hide hw
  clear hw hblk hwf
  obtain ⟨ra, hra⟩ : ∃ r, c.regs.getD a 0 = r := ⟨_, rfl⟩
  obtain ⟨rb, hrb⟩ : ∃ r, c.regs.getD b 0 = r := ⟨_, rfl⟩
  rw [hra] at ca
  rw [hrb] at cb
  have HRA := hide hra
  have HRB := hide hrb
  clear hra hrb
  by_cases hz : ra = 0
  · have hz' : (ra == 0) = true := by simpa using hz
    have HZ := hide hz
    clear hz
    go_enter Try.func83, Try.ntmps83
    go_wp2_with fail
    go_quiet (fail)
    go_wp2_with fail
    go_end0
    exact Did.ok (c' := { c with at_ := n }) (k' := Wnt.zero) (by have h := HZ.out; rw [← HRA.out] at h; show some ({ c with at_ := if c.regs.getD a 0 = 0 then n else c.at_ + 1 }, Wnt.zero) = _; rw [if_pos h]) (by repeat' (first | with_reducible exact Below.refl _ _ | with_reducible refine below_drewN ?_ _ | with_reducible refine Below.set_ ?_ (Nat.le_refl _) _ | with_reducible refine Below.alloc_ ?_ (Nat.le_of_lt hlt) _)) ov (((HW.out.alloc _).setAt _).drewN _)
  · have hz' : (ra == 0) = false := by simpa using hz
    have HZ := hide hz
    clear hz
    go_enter Try.func83, Try.ntmps83
    go_wp2_with fail
    go_quiet (fail)
    go_wp2_with fail
    go_end0
    exact Did.ok (c' := { c with at_ := c.at_ + 1 }) (k' := Wnt.zero) (by have h := HZ.out; rw [← HRA.out] at h; show some ({ c with at_ := if c.regs.getD a 0 = 0 then n else c.at_ + 1 }, Wnt.zero) = _; rw [if_neg h]) (by repeat' (first | with_reducible exact Below.refl _ _ | with_reducible refine below_drewN ?_ _ | with_reducible refine Below.set_ ?_ (Nat.le_refl _) _ | with_reducible refine Below.alloc_ ?_ (Nat.le_of_lt hlt) _)) ov (((HW.out.alloc _).setAt _).drewN _)

theorem Work.setWant {w : World} {B : Nat} {c : Cel} {ov iv : Value} {k : Wnt} {inp : List Int} (h : Work w B c ov iv k inp) (x y z u v : Int) :
    Work (((((w.setCell ⟨B, 17, none⟩ (.int .i64 x)).setCell ⟨B, 18, none⟩ (.int .i64 y)).setCell ⟨B, 19, none⟩ (.int .i64 z)).setCell ⟨B, 20, none⟩ (.int .i64 u)).setCell ⟨B, 21, none⟩ (.int .i64 v)) B c ov iv ⟨x, y, z, u, v⟩ inp :=
  ⟨(((((h.blk.set 17 _).set 18 _).set 19 _).set 20 _).set 21 _).same (set_want h.wf x y z u v), h.wf, ((((h.out.set (by simp) _).set (by simp) _).set (by simp) _).set (by simp) _).set (by simp) _,
    h.inp.on (Below.set_ (Below.set_ (Below.set_ (Below.set_ (Below.set_ (Below.refl B w) (Nat.le_refl B) _) (Nat.le_refl B) _) (Nat.le_refl B) _) (Nat.le_refl B) _) (Nat.le_refl B) _)⟩

set_option maxRecDepth 100000 in
set_option maxHeartbeats 1000000 in
theorem do_13 (B a b : Nat) (n : Int) (ha : a < 4) (hb : b < 4) (c : Cel) (ov iv : Value) (inp : List Int) (w : World) (hw : Work w B c ov iv Wnt.zero inp) (h0 : 0 ≤ c.at_) (h1 : c.at_ ≤ 20) :
    Calls Try.prog 83 #[.pointer (some ⟨B, 0, none⟩), .agg #[.int .i64 13, .int .i64 a, .int .i64 b, .int .i64 n]] w (Did w B iv inp (doOf ⟨13, a, b, n⟩ c inp) c ov Wnt.zero) := by
  have hblk := hw.blk
  have hwf := hw.wf
  have c0 : w.cell? ⟨B, 0, none⟩ = some (.int .i64 c.at_) := (hblk.cell 0).trans work_at
  have ca : w.cell? ⟨B, 1 + a, none⟩ = some (.int .i64 (c.regs.getD a 0)) := (hblk.cell _).trans (work_reg hwf ha)
  have cb : w.cell? ⟨B, 1 + b, none⟩ = some (.int .i64 (c.regs.getD b 0)) := (hblk.cell _).trans (work_reg hwf hb)
  have fz := hblk.frozen
  have hlt := hblk.lt
  have a0 : (0 : Int) ≤ (a : Int) := by omega
  have a4 : (a : Int) < 4 := by omega
  have b0 : (0 : Int) ≤ (b : Int) := by omega
  have b4 : (b : Int) < 4 := by omega
  have HW := hide hw
  clear hw hblk hwf
  obtain ⟨ra, hra⟩ : ∃ r, c.regs.getD a 0 = r := ⟨_, rfl⟩
  obtain ⟨rb, hrb⟩ : ∃ r, c.regs.getD b 0 = r := ⟨_, rfl⟩
  rw [hra] at ca
  rw [hrb] at cb
  have HRA := hide hra
  have HRB := hide hrb
  clear hra hrb
  have k17 : w.cell? ⟨B, 17, none⟩ = some (.int .i64 0) := (HW.out.blk.cell _).trans (work_want HW.out.wf 0)
  have k18 : w.cell? ⟨B, 18, none⟩ = some (.int .i64 0) := (HW.out.blk.cell _).trans (work_want HW.out.wf 1)
  have k19 : w.cell? ⟨B, 19, none⟩ = some (.int .i64 0) := (HW.out.blk.cell _).trans (work_want HW.out.wf 2)
  have k20 : w.cell? ⟨B, 20, none⟩ = some (.int .i64 0) := (HW.out.blk.cell _).trans (work_want HW.out.wf 3)
  have k21 : w.cell? ⟨B, 21, none⟩ = some (.int .i64 0) := (HW.out.blk.cell _).trans (work_want HW.out.wf 4)
  go_enter Try.func83, Try.ntmps83
  go_wp2_with fail
  go_quiet (fail)
  go_wp2_with fail
  go_end0
  exact Did.ok (c' := { c with at_ := c.at_ + 1 }) (k' := ⟨13, n, a, b, 0⟩) rfl (by repeat' (first | with_reducible exact Below.refl _ _ | with_reducible refine below_drewN ?_ _ | with_reducible refine Below.set_ ?_ (Nat.le_refl _) _ | with_reducible refine Below.alloc_ ?_ (Nat.le_of_lt hlt) _)) ov ((((HW.out.alloc _).drewN _).setWant 13 n a b 0).setAt _)
set_option maxRecDepth 100000 in
set_option maxHeartbeats 1000000 in
theorem do_15 (B a b : Nat) (n : Int) (ha : a < 4) (hb : b < 4) (c : Cel) (ov iv : Value) (inp : List Int) (w : World) (hw : Work w B c ov iv Wnt.zero inp) (h0 : 0 ≤ c.at_) (h1 : c.at_ ≤ 20) :
    Calls Try.prog 83 #[.pointer (some ⟨B, 0, none⟩), .agg #[.int .i64 15, .int .i64 a, .int .i64 b, .int .i64 n]] w (Did w B iv inp (doOf ⟨15, a, b, n⟩ c inp) c ov Wnt.zero) := by
  have hblk := hw.blk
  have hwf := hw.wf
  have c0 : w.cell? ⟨B, 0, none⟩ = some (.int .i64 c.at_) := (hblk.cell 0).trans work_at
  have ca : w.cell? ⟨B, 1 + a, none⟩ = some (.int .i64 (c.regs.getD a 0)) := (hblk.cell _).trans (work_reg hwf ha)
  have cb : w.cell? ⟨B, 1 + b, none⟩ = some (.int .i64 (c.regs.getD b 0)) := (hblk.cell _).trans (work_reg hwf hb)
  have fz := hblk.frozen
  have hlt := hblk.lt
  have a0 : (0 : Int) ≤ (a : Int) := by omega
  have a4 : (a : Int) < 4 := by omega
  have b0 : (0 : Int) ≤ (b : Int) := by omega
  have b4 : (b : Int) < 4 := by omega
  have HW := hide hw
  clear hw hblk hwf
  obtain ⟨ra, hra⟩ : ∃ r, c.regs.getD a 0 = r := ⟨_, rfl⟩
  obtain ⟨rb, hrb⟩ : ∃ r, c.regs.getD b 0 = r := ⟨_, rfl⟩
  rw [hra] at ca
  rw [hrb] at cb
  have HRA := hide hra
  have HRB := hide hrb
  clear hra hrb
  have k15 : w.cell? ⟨B, 15, none⟩ = some (.int .i64 c.end_) := (HW.out.blk.cell _).trans (work_end HW.out.wf)
  go_enter Try.func83, Try.ntmps83
  go_wp2_with fail
  go_quiet (fail)
  go_wp2_with fail
  go_end0
  exact Did.ok (c' := { c with end_ := 1 }) (k' := Wnt.zero) rfl (by repeat' (first | with_reducible exact Below.refl _ _ | with_reducible refine below_drewN ?_ _ | with_reducible refine Below.set_ ?_ (Nat.le_refl _) _ | with_reducible refine Below.alloc_ ?_ (Nat.le_of_lt hlt) _)) ov ((((HW.out.alloc _).setEnd 1).setAt _).drewN _)
end Go.Proofs.Ytebklpbbglojmaa
