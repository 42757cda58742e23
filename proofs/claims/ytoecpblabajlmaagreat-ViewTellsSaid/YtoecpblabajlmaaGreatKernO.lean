/- Worlds among a law's arguments; calls whose answer is known. -/
import Derived.Test.YtoecpblabajlmaaGreatKernBg
import Derived.Test.YtoecpblabajlmaaGreatEngX
namespace Go.Proofs.YtoecpblabajlmaaGreat
set_option linter.unusedVariables false
set_option linter.unusedSimpArgs false
open Go.ChangeShapes Go.WideShapes Go.ChangeAt Go.RowKit
set_option maxRecDepth 100000

section
variable {H : Type} {enc : TypeId × Value → H} {w : World} {base base' : Nat} {r : Reach} {spare : Nat → Bool} {held : Bool} {v : Value} {d : DataW H} {p : List MemPlace}
theorem cd_rd {u : World} {n : Nat} {cs : List Value} (h : Rd Tryz.prog u (n + 3) 47 cs) : ∃ q : CD, cs = encC q ∧ q.At u := by
  obtain ⟨c, ov, rfl, hwf, ho⟩ := cell_rd h
  obtain ⟨A, k, rfl⟩ := ho.form rfl
  exact ⟨⟨c, hwf, A, k⟩, rfl, ho⟩
theorem ld_rd {u : World} {n : Nat} {cs : List Value} (h : Rd Tryz.prog u (n + 3) 68 cs) : ∃ q : LD, cs = encL q ∧ q.At u := by
  obtain ⟨hl, -⟩ := h.struct Tryz.underlying68
  have h1 : Tryz.prog.cellsOf 68 = 1 := by kernel_rfl
  have h1' : Tryz.prog.cellsOf 45 = 1 := by kernel_rfl
  rw [h1] at hl
  match cs, hl with
  | [x], _ =>
    have g0 := h.fld Tryz.underlying68 0 rfl rfl rfl h1' rfl
    obtain ⟨v, l, e, k⟩ := Rd.intsS Tryz.underlying45 Tryz.underlying3 (by kernel_rfl) g0
    obtain rfl : x = v := by simpa using e
    obtain ⟨A, c, rfl⟩ := k.form rfl
    exact ⟨⟨l, A, c⟩, rfl, k⟩
theorem wrl_rd {u : World} {n : Nat} {cs : List Value} (h : Rd Tryz.prog u (n + 5) 30 cs) : ∃ x : WD, cs = [.int .i64 x.tick, .slice x.ca x.cells.length x.cc, .slice x.la x.lines.length x.lc] ∧ x.At u := by
  obtain ⟨hl, -⟩ := h.struct Tryz.underlying30
  have h3 : Tryz.prog.cellsOf 30 = 3 := by kernel_rfl
  have h1 : Tryz.prog.cellsOf 3 = 1 := by kernel_rfl
  have h1' : Tryz.prog.cellsOf 27 = 1 := by kernel_rfl
  have h1'' : Tryz.prog.cellsOf 28 = 1 := by kernel_rfl
  rw [h3] at hl
  match cs, hl with
  | [a, b, c], _ =>
    have g0 := h.fld Tryz.underlying30 0 rfl rfl rfl h1 rfl
    have g1 := h.fld Tryz.underlying30 1 rfl rfl rfl h1' rfl
    have g2 := h.fld Tryz.underlying30 2 rfl rfl rfl h1'' rfl
    obtain ⟨t, rfl⟩ := one_int g0
    obtain ⟨v1, l1, e1, k1, q1⟩ := Rd.flatQ Tryz.underlying27 (by kernel_rfl) encC_len (fun _ h => cd_rd h) g1
    obtain ⟨v2, l2, e2, k2, q2⟩ := Rd.flatQ Tryz.underlying28 (by kernel_rfl) encL_len (fun _ h => ld_rd h) g2
    obtain rfl : b = v1 := by simpa using e1
    obtain rfl : c = v2 := by simpa using e2
    obtain ⟨A1, c1, rfl⟩ := k1.form rfl
    obtain ⟨A2, c2, rfl⟩ := k2.form rfl
    exact ⟨⟨t, l1, A1, c1, l2, A2, c2⟩, rfl, k1, q1, k2, q2⟩
theorem wrl_open (hv : Value.okWide Tryz.prog w r base' 30 v) (h : DataW.Trod enc Tryz.prog w base spare held 30 v d p) : ∃ x : WD, v = x.val ∧ x.At w := by
  obtain ⟨cs, rfl, _⟩ := okWide_struct Tryz.underlying30 hv
  obtain ⟨x, e, h1⟩ := wrl_rd (n := 0) (rd_of 5 h)
  exact ⟨x, agg_toList e, h1⟩
end
theorem same_worlds {x y : WD} {w : World} (hx : x.At w) (hy : y.At w) (h : x.wrl = y.wrl) : Calls Tryz.prog 13 #[x.val, y.val] w fun e w' => e = .returned (.bool true) ∧ Below w.heap.size w w' := by
  have := sameWorlds_any hx hy
  rwa [decide_eq_true h] at this
theorem run_ok {x : SysD} {w : World} (hx : x.At w) {n : Int} {k : Nat} (hn : n = k) (hk : chkSys x.sys = 0) (hl : k ≤ 300) : Calls Tryz.prog 14 #[x.val, .int .i64 n] w (WrlErr w (runW x.sys k) 0) := by
  subst hn
  have := kernRun_any hx (k : Int)
  have h0 : runErr x.sys k = 0 := runErr_0 hk (by omega)
  rwa [h0, show runOr x.sys k = runW x.sys k from if_pos h0] at this
theorem run_no {x : SysD} {w : World} (hx : x.At w) {n E : Int} (hE : runErr x.sys n = E) (h0 : E ≠ 0) : Calls Tryz.prog 14 #[x.val, .int .i64 n] w (WrlErr w Wrl.zero E) := by
  subst hE
  have := kernRun_any hx n
  rwa [show runOr x.sys n = Wrl.zero from if_neg h0] at this
theorem step_ok {x : SysD} {y : WD} {w : World} (hx : x.At w) (hy : y.At w) {W : Wrl} (hW : y.wrl = W) (h0 : stepErrW x.sys W = 0) : Calls Tryz.prog 9 #[x.val, y.val] w (WrlErr w (stepW x.sys W) 0) := by
  subst hW
  have := kernStep_any hx hy
  rwa [h0, show stepOrW x.sys y.wrl = stepW x.sys y.wrl from if_pos h0] at this
theorem step_no {x : SysD} {y : WD} {w : World} (hx : x.At w) (hy : y.At w) {E : Int} (hE : stepErrW x.sys y.wrl = E) (h0 : E ≠ 0) : Calls Tryz.prog 9 #[x.val, y.val] w (WrlErr w Wrl.zero E) := by
  subst hE
  have := kernStep_any hx hy
  rwa [show stepOrW x.sys y.wrl = Wrl.zero from if_neg h0] at this
/-- a run's world may be stepped on -/
theorem run_step {s : Sys} (hk : chkSys s = 0) {n : Nat} (hn : n < 300) : stepErrW s (runW s n) = 0 ∧ stepW s (runW s n) = runW s (n + 1) := by
  obtain ⟨hr, ht⟩ := runW_right hk n (by omega)
  exact ⟨stepErrW_0 (chkWorld_0 hk (right_iff.2 hr)) (by omega), rfl⟩
theorem run_chk {s : Sys} (hk : chkSys s = 0) {n : Nat} (hn : n ≤ 300) : chkWorld s (runW s n) = 0 := chkWorld_0 hk (right_iff.2 (runW_right hk n hn).1)
end Go.Proofs.YtoecpblabajlmaaGreat
