/- The worker's do: a comparison, memory. -/
import Derived.Test.YtebklpbbglojmaaCellDo
namespace Go.Proofs.Ytebklpbbglojmaa
set_option linter.unusedVariables false
set_option linter.unusedSimpArgs false
open Go.RowKit

theorem bit_any (b : Bool) (w : World) : Calls Try.prog 53 #[.bool b] w fun e w' => e = .returned (.int .i64 (bitI b)) ∧ w = w' := by
  cases b
  all_goals
    go_enter Try.func53, Try.ntmps53
    go_wp2_with fail
    go_ret
    exact ⟨rfl, rfl⟩

theorem word_ok (B : Nat) (k : Int) (h0 : 0 ≤ k) (h8 : k < 8) (w : World) :
    Calls Try.prog 97 #[.pointer (some ⟨B, 0, none⟩), .int .i64 k] w fun e w' => e = .returned (.pointer (some ⟨B, 5 + k.toNat, none⟩)) ∧ w = w' := by
  obtain ⟨n, rfl⟩ := Int.eq_ofNat_of_zero_le h0
  have d1 : decide ((n : Int) < 0) = false := by simp <;> omega
  have d2 : decide (8 ≤ (n : Int)) = false := by simp <;> omega
  go_enter Try.func97, Try.ntmps97
  go_wp2_with fail
  go_ret
  exact ⟨rfl, rfl⟩
theorem word_bad (B : Nat) (k : Int) (h : ¬ (0 ≤ k ∧ k < 8)) (w : World) :
    Calls Try.prog 97 #[.pointer (some ⟨B, 0, none⟩), .int .i64 k] w fun e w' => e = .panicked [{ v := .iface 122 (.agg #[]), recovered := false }] ∧ w = w' := by
  rcases Int.lt_or_le k 0 with h0 | h0
  · have d1 : decide (k < 0) = true := by simpa using h0
    clear h
    go_enter Try.func97, Try.ntmps97
    go_wp2_with fail
    exact ⟨rfl, rfl, rfl⟩
  · have d1 : decide (k < 0) = false := by simp <;> omega
    have d2 : decide (8 ≤ k) = true := by simp <;> omega
    clear h
    go_enter Try.func97, Try.ntmps97
    go_wp2_with fail
    exact ⟨rfl, rfl, rfl⟩

set_option maxRecDepth 100000 in
set_option maxHeartbeats 1000000 in
theorem do_5 (B a b : Nat) (n : Int) (ha : a < 4) (hb : b < 4) (c : Cel) (ov iv : Value) (inp : List Int) (w : World) (hw : Work w B c ov iv Wnt.zero inp) (h0 : 0 ≤ c.at_) (h1 : c.at_ ≤ 20) :
    Calls Try.prog 83 #[.pointer (some ⟨B, 0, none⟩), .agg #[.int .i64 5, .int .i64 a, .int .i64 b, .int .i64 n]] w (Did w B iv inp (doOf ⟨5, a, b, n⟩ c inp) c ov Wnt.zero) := by
  have hblk := hw.blk
  have hwf := hw.wf
  have c0 : w.cell? ⟨B, 0, none⟩ = some (.int .i64 c.at_) := (hblk.cell 0).trans work_at
  have ca : w.cell? ⟨B, 1 + a, none⟩ = some (.int .i64 (c.regs.getD a 0)) := (hblk.cell _).trans (work_reg hwf ha)
  have cb : w.cell? ⟨B, 1 + b, none⟩ = some (.int .i64 (c.regs.getD b 0)) := (hblk.cell _).trans (work_reg hwf hb)
  have fz := hblk.frozen
  have hlt := hblk.lt
  have a0 : (0 : Int) ≤ (a : Int) := by omega
  have a4 : (a : Int) < 4 := by omega
  have b0 : (0 : Int) ≤ (b : Int) := by omega
  have b4 : (b : Int) < 4 := by omega
  have HW := hide hw
  clear hw hblk hwf
  obtain ⟨ra, hra⟩ : ∃ r, c.regs.getD a 0 = r := ⟨_, rfl⟩
  obtain ⟨rb, hrb⟩ : ∃ r, c.regs.getD b 0 = r := ⟨_, rfl⟩
  rw [hra] at ca
  rw [hrb] at cb
  have HRA := hide hra
  have HRB := hide hrb
  clear hra hrb
  go_enter Try.func83, Try.ntmps83
  go_wp2_with fail
  go_quiet (fail)
  go_wp2_with (go_at_call 53; refine (bit_any _ _).mono ?_; rintro e w' ⟨rfl, rfl⟩)
  go_end0
  exact Did.ok (c' := { c with regs := c.regs.set a (bitI (decide (ra < rb))), at_ := c.at_ + 1 }) (k' := Wnt.zero) (by (first | rfl | (rw [← HRB.out]; rfl) | (rw [← HRA.out]; rfl) | (rw [← HRA.out, ← HRB.out]; rfl))) (by repeat' (first | with_reducible exact Below.refl _ _ | with_reducible refine below_drewN ?_ _ | with_reducible refine Below.set_ ?_ (Nat.le_refl _) _ | with_reducible refine Below.alloc_ ?_ (Nat.le_of_lt hlt) _)) ov ((((HW.out.alloc _).setReg ha (bitI (decide (ra < rb)))).setAt _).drewN _)

set_option maxRecDepth 100000 in
set_option maxHeartbeats 1000000 in
theorem do_6ok (B a b : Nat) (n : Int) (ha : a < 4) (hb : b < 4) (c : Cel) (ov iv : Value) (inp : List Int) (w : World) (hw : Work w B c ov iv Wnt.zero inp) (h0 : 0 ≤ c.at_) (h1 : c.at_ ≤ 20) :
    Calls Try.prog 83 #[.pointer (some ⟨B, 0, none⟩), .agg #[.int .i64 6, .int .i64 a, .int .i64 b, .int .i64 n]] w (Did w B iv inp (doOf ⟨6, a, b, n⟩ c inp) c ov Wnt.zero) := by
  have hblk := hw.blk
  have hwf := hw.wf
  have c0 : w.cell? ⟨B, 0, none⟩ = some (.int .i64 c.at_) := (hblk.cell 0).trans work_at
  have ca : w.cell? ⟨B, 1 + a, none⟩ = some (.int .i64 (c.regs.getD a 0)) := (hblk.cell _).trans (work_reg hwf ha)
  have cb : w.cell? ⟨B, 1 + b, none⟩ = some (.int .i64 (c.regs.getD b 0)) := (hblk.cell _).trans (work_reg hwf hb)
  have fz := hblk.frozen
  have hlt := hblk.lt
  have a0 : (0 : Int) ≤ (a : Int) := by omega
  have a4 : (a : Int) < 4 := by omega
  have b0 : (0 : Int) ≤ (b : Int) := by omega
  have b4 : (b : Int) < 4 := by omega
  have HW := hide hw
  clear hw hblk hwf
  obtain ⟨ra, hra⟩ : ∃ r, c.regs.getD a 0 = r := ⟨_, rfl⟩
  obtain ⟨rb, hrb⟩ : ∃ r, c.regs.getD b 0 = r := ⟨_, rfl⟩
  rw [hra] at ca
  rw [hrb] at cb
  have HRA := hide hra
  have HRB := hide hrb
  clear hra hrb
  by_cases hr : 0 ≤ rb ∧ rb < 8
  · have cm : w.cell? ⟨B, 5 + rb.toNat, none⟩ = some (.int .i64 (c.mem.getD rb.toNat 0)) := (HW.out.blk.cell _).trans (work_mem HW.out.wf (by omega))
    obtain ⟨mv, hmv⟩ : ∃ r, c.mem.getD rb.toNat 0 = r := ⟨_, rfl⟩
    rw [hmv] at cm
    have HMV := hide hmv
    have HWD := hide (word_ok B rb hr.1 hr.2)
    have HR := hide hr
    clear hmv hr
    go_enter Try.func83, Try.ntmps83
    go_wp2_with fail
    go_quiet (fail)
    go_wp2_with (go_at_call 97; refine (HWD.out _).mono ?_; rintro e w' ⟨rfl, rfl⟩)
    go_end0
    exact Did.ok (c' := { c with regs := c.regs.set a mv, at_ := c.at_ + 1 }) (k' := Wnt.zero) (by have h := HR.out; subst mv; rw [← HRB.out] at h ⊢; exact if_pos h) (by repeat' (first | with_reducible exact Below.refl _ _ | with_reducible refine below_drewN ?_ _ | with_reducible refine Below.set_ ?_ (Nat.le_refl _) _ | with_reducible refine Below.alloc_ ?_ (Nat.le_of_lt hlt) _)) ov ((((HW.out.alloc _).setReg ha mv).setAt _).drewN _)
  · have HWD := hide (word_bad B rb hr)
    have HR := hide hr
    clear hr
    go_enter Try.func83, Try.ntmps83
    go_wp2_with fail
    go_quiet (fail)
    go_wp2_with (go_at_call 97; refine (HWD.out _).mono ?_; rintro e w' ⟨rfl, rfl⟩)
    refine ⟨rfl, ?_⟩
    exact Did.no (by have h := HR.out; rw [← HRB.out] at h; exact if_neg h) hlt (by repeat' (first | exact Below.refl _ _ | assumption | refine Below.alloc1 ?_ _ | refine Below.drewN1 ?_ _ | refine Below.drew ?_ | refine Below.setCell1 ?_ ?_ _ | refine Below.via ?_ (by assumption) | refine Below.viaD ?_ (by assumption) | omega | (simp; done) | (simp; omega))) ((HW.out.alloc _).drewN _)
end Go.Proofs.Ytebklpbbglojmaa
