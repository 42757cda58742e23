/- The worker's do: Put, In, Out. -/
import Derived.Test.YtebklpbbglojmaaCellDoC
namespace Go.Proofs.Ytebklpbbglojmaa
set_option linter.unusedVariables false
set_option linter.unusedSimpArgs false
open Go.RowKit

set_option maxRecDepth 100000 in
set_option maxHeartbeats 1000000 in
theorem do_12 (B a b : Nat) (n : Int) (ha : a < 4) (hb : b < 4) (c : Cel) (ov iv : Value) (inp : List Int) (w : World) (hw : Work w B c ov iv Wnt.zero inp) (h0 : 0 ≤ c.at_) (h1 : c.at_ ≤ 20) :
    Calls Try.prog 83 #[.pointer (some ⟨B, 0, none⟩), .agg #[.int .i64 12, .int .i64 a, .int .i64 b, .int .i64 n]] w (Did w B iv inp (doOf ⟨12, a, b, n⟩ c inp) c ov Wnt.zero) := by
  have hblk := hw.blk
  have hwf := hw.wf
  have c0 : w.cell? ⟨B, 0, none⟩ = some (.int .i64 c.at_) := (hblk.cell 0).trans work_at
  have ca : w.cell? ⟨B, 1 + a, none⟩ = some (.int .i64 (c.regs.getD a 0)) := (hblk.cell _).trans (work_reg hwf ha)
  have cb : w.cell? ⟨B, 1 + b, none⟩ = some (.int .i64 (c.regs.getD b 0)) := (hblk.cell _).trans (work_reg hwf hb)
  have fz := hblk.frozen
  have hlt := hblk.lt
  have a0 : (0 : Int) ≤ (a : Int) := by omega
  have a4 : (a : Int) < 4 := by omega
  have b0 : (0 : Int) ≤ (b : Int) := by omega
  have b4 : (b : Int) < 4 := by omega
  have HW := hide hw
  clear hw hblk hwf
  obtain ⟨ra, hra⟩ : ∃ r, c.regs.getD a 0 = r := ⟨_, rfl⟩
  obtain ⟨rb, hrb⟩ : ∃ r, c.regs.getD b 0 = r := ⟨_, rfl⟩
  rw [hra] at ca
  rw [hrb] at cb
  have HRA := hide hra
  have HRB := hide hrb
  clear hra hrb
  have k17 : w.cell? ⟨B, 17, none⟩ = some (.int .i64 0) := (HW.out.blk.cell _).trans (work_want HW.out.wf 0)
  have k18 : w.cell? ⟨B, 18, none⟩ = some (.int .i64 0) := (HW.out.blk.cell _).trans (work_want HW.out.wf 1)
  have k19 : w.cell? ⟨B, 19, none⟩ = some (.int .i64 0) := (HW.out.blk.cell _).trans (work_want HW.out.wf 2)
  have k20 : w.cell? ⟨B, 20, none⟩ = some (.int .i64 0) := (HW.out.blk.cell _).trans (work_want HW.out.wf 3)
  have k21 : w.cell? ⟨B, 21, none⟩ = some (.int .i64 0) := (HW.out.blk.cell _).trans (work_want HW.out.wf 4)
  go_enter Try.func83, Try.ntmps83
  go_wp2_with fail
  go_quiet (fail)
  go_wp2_with fail
  go_region
  all_goals
    go_wp2_with fail
    go_end0
    exact Did.ok (c' := { c with at_ := c.at_ + 1 }) (k' := ⟨12, n, a, 0, ra⟩) (by rw [← HRA.out]; rfl) (by repeat' (first | with_reducible exact Below.refl _ _ | with_reducible refine below_drewN ?_ _ | with_reducible refine Below.set_ ?_ (Nat.le_refl _) _ | with_reducible refine Below.alloc_ ?_ (Nat.le_of_lt hlt) _)) ov ((((HW.out.alloc _).drewN _).setWant 12 n a 0 ra).setAt _)

theorem draw_set (w : World) (p : Addr) (v : Value) (a b : Nat) : ((w.drewN a).setCell p v).drewN b = (w.setCell p v).drewN (a + b) := by
  simp [World.drewN, World.setCell, Nat.add_assoc]
/-- the next number that comes in -/
def Nexted (w : World) (B : Nat) (c : Cel) (inp : List Int) (e : Ending) (w' : World) : Prop :=
  ∃ q, e = .returned (.int .i64 (inp.getD c.read.toNat 0)) ∧ w' = (w.setCell ⟨B, 13, none⟩ (.int .i64 (c.read + 1))).drewN q
set_option maxRecDepth 100000 in
set_option maxHeartbeats 1000000 in
theorem next_some (B : Nat) (c : Cel) (ov iv : Value) (k : Wnt) (inp : List Int) (w : World) (hw : Work w B c ov iv k inp) (h0 : 0 ≤ c.read) (h1 : c.read < inp.length) (h2 : c.read ≤ 12) :
    Calls Try.prog 98 #[.pointer (some ⟨B, 0, none⟩)] w (Nexted w B c inp) := by
  obtain ⟨w0, hB, ⟨A, cc, rfl, hc, hm, hr⟩, hbel⟩ := hw.inp
  have k13 : w.cell? ⟨B, 13, none⟩ = some (.int .i64 c.read) := (hw.blk.cell _).trans (work_read hw.wf)
  have k16 : w.cell? ⟨B, 16, none⟩ = some (.slice A inp.length cc) := (hw.blk.cell _).trans (work_in hw.wf)
  have fz := hw.blk.frozen
  obtain ⟨r, hrr⟩ := Int.eq_ofNat_of_zero_le h0
  rw [hrr] at h1 h2 k13
  have hrl : r < inp.length := by omega
  obtain ⟨ad, rfl, hx⟩ := ints_at hr hrl
  obtain ⟨x, hxx⟩ : ∃ x, inp[r] = x := ⟨_, rfl⟩
  rw [hxx] at hx
  have HX := hide (show inp.getD c.read.toNat 0 = x by rw [hrr]; simp [hxx, hrl])
  have HN := hide (show Nexted w B c inp = fun e w' => ∃ q, e = .returned (.int .i64 x) ∧ w' = (w.setCell ⟨B, 13, none⟩ (.int .i64 ((r : Int) + 1))).drewN q by unfold Nexted; rw [HX.out, hrr])
  rw [HN.out]
  have hadB : (ad.add r).block < B := Nat.lt_of_lt_of_le (World.block_lt_of_cell? w0 _ hx) hB
  have hne : ¬ (⟨B, 13, none⟩ : Addr) = ad.add r := fun e => by rw [← e] at hadB; exact absurd hadB (Nat.lt_irrefl _)
  have hx' := cell_below hbel hx
  obtain ⟨m, hm'⟩ : ∃ m, inp.length = m := ⟨_, rfl⟩
  rw [hm'] at k16 h1
  have hb : ((r : Int) == (m : Int)) = false := by simp; omega
  have r0 : (0 : Int) ≤ r := by omega
  have HM := hide hm'
  clear hrr h0 hxx hr hw hc hx hadB hm' hrl hbel
  go_enter Try.func98, Try.ntmps98
  go_wp2_with fail
  go_quiet (fail)
  go_wp2_with fail
  go_quiet (fail)
  go_wp2_with fail
  go_ret
  exact ⟨_, rfl, draw_set _ _ _ _ _⟩

def NextedNo (w : World) (e : Ending) (w' : World) : Prop := ∃ q, e = .returned (.int .i64 0) ∧ w' = w.drewN q
set_option maxRecDepth 100000 in
set_option maxHeartbeats 1000000 in
theorem next_none (B : Nat) (c : Cel) (ov iv : Value) (k : Wnt) (inp : List Int) (w : World) (hw : Work w B c ov iv k inp) (h1 : c.read = inp.length) :
    Calls Try.prog 98 #[.pointer (some ⟨B, 0, none⟩)] w (NextedNo w) := by
  obtain ⟨A, cc, rfl, hc, hm, hr⟩ := hw.inp.ints
  have k13 : w.cell? ⟨B, 13, none⟩ = some (.int .i64 c.read) := (hw.blk.cell _).trans (work_read hw.wf)
  have k16 : w.cell? ⟨B, 16, none⟩ = some (.slice A inp.length cc) := (hw.blk.cell _).trans (work_in hw.wf)
  rw [h1] at k13
  obtain ⟨m, hm'⟩ : ∃ m, inp.length = m := ⟨_, rfl⟩
  rw [hm'] at k13 k16
  clear h1 hr hc hm' hw
  go_enter Try.func98, Try.ntmps98
  go_wp2_with fail
  go_quiet (fail)
  go_wp2_with fail
  go_ret
  exact ⟨_, rfl, rfl⟩

set_option maxRecDepth 100000 in
set_option maxHeartbeats 1000000 in
theorem do_10 (B a b : Nat) (n : Int) (ha : a < 4) (hb : b < 4) (c : Cel) (ov iv : Value) (inp : List Int) (w : World) (hw : Work w B c ov iv Wnt.zero inp) (h0 : 0 ≤ c.at_) (h1 : c.at_ ≤ 20) (hr0 : 0 ≤ c.read) (hr1 : c.read ≤ inp.length) (hr2 : c.read ≤ 12) :
    Calls Try.prog 83 #[.pointer (some ⟨B, 0, none⟩), .agg #[.int .i64 10, .int .i64 a, .int .i64 b, .int .i64 n]] w (Did w B iv inp (doOf ⟨10, a, b, n⟩ c inp) c ov Wnt.zero) := by
  have hblk := hw.blk
  have hwf := hw.wf
  have c0 : w.cell? ⟨B, 0, none⟩ = some (.int .i64 c.at_) := (hblk.cell 0).trans work_at
  have ca : w.cell? ⟨B, 1 + a, none⟩ = some (.int .i64 (c.regs.getD a 0)) := (hblk.cell _).trans (work_reg hwf ha)
  have cb : w.cell? ⟨B, 1 + b, none⟩ = some (.int .i64 (c.regs.getD b 0)) := (hblk.cell _).trans (work_reg hwf hb)
  have fz := hblk.frozen
  have hlt := hblk.lt
  have a0 : (0 : Int) ≤ (a : Int) := by omega
  have a4 : (a : Int) < 4 := by omega
  have b0 : (0 : Int) ≤ (b : Int) := by omega
  have b4 : (b : Int) < 4 := by omega
  have HW := hide hw
  clear hw hblk hwf
  obtain ⟨ra, hra⟩ : ∃ r, c.regs.getD a 0 = r := ⟨_, rfl⟩
  obtain ⟨rb, hrb⟩ : ∃ r, c.regs.getD b 0 = r := ⟨_, rfl⟩
  rw [hra] at ca
  rw [hrb] at cb
  have HRA := hide hra
  have HRB := hide hrb
  clear hra hrb
  by_cases hlt2 : c.read < inp.length
  · have HNX := hide (fun W (h : Work W B c ov iv Wnt.zero inp) => next_some B c ov iv Wnt.zero inp W h hr0 hlt2 hr2)
    have HLT := hide hlt2
    clear hlt2 hr0 hr1 hr2
    go_enter Try.func83, Try.ntmps83
    go_wp2_with fail
    go_quiet (fail)
    go_wp2_with (go_at_call 98; refine (HNX.out _ (by exact (HW.out.alloc _).drewN _)).mono ?_; rintro e w' ⟨q, rfl, rfl⟩)
    go_end0
    refine Did.ok (c' := { c with regs := c.regs.set a (inp.getD c.read.toNat 0), read := c.read + 1, at_ := c.at_ + 1 }) (k' := Wnt.zero) (by have h := HLT.out; exact if_pos h) (by repeat' (first | with_reducible exact Below.refl _ _ | with_reducible refine below_drewN ?_ _ | with_reducible refine Below.set_ ?_ (Nat.le_refl _) _ | with_reducible refine Below.alloc_ ?_ (Nat.le_of_lt hlt) _)) ov ?_
    exact ((((((HW.out.alloc _).drewN _).setRead _).drewN _).setReg ha _).setAt _)
  · have HNX := hide (fun W (h : Work W B c ov iv Wnt.zero inp) => next_none B c ov iv Wnt.zero inp W h (by omega))
    have HLT := hide hlt2
    clear hlt2 hr0 hr1 hr2
    go_enter Try.func83, Try.ntmps83
    go_wp2_with fail
    go_quiet (fail)
    go_wp2_with (go_at_call 98; refine (HNX.out _ (by exact (HW.out.alloc _).drewN _)).mono ?_; rintro e w' ⟨q, rfl, rfl⟩)
    go_end0
    refine Did.ok (c' := { c with regs := c.regs.set a 0, at_ := c.at_ + 1 }) (k' := Wnt.zero) (by have h := HLT.out; exact if_neg (by omega)) (by repeat' (first | with_reducible exact Below.refl _ _ | with_reducible refine below_drewN ?_ _ | with_reducible refine Below.set_ ?_ (Nat.le_refl _) _ | with_reducible refine Below.alloc_ ?_ (Nat.le_of_lt hlt) _)) ov ?_
    exact ((((HW.out.alloc _).drewN _).setReg ha _).setAt _)
end Go.Proofs.Ytebklpbbglojmaa
