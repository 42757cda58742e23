/- Runs and steps that are right, and that are not. -/
import Derived.Test.YtnpflhaggfabnaaGreatKernG
namespace Go.Proofs.YtnpflhaggfabnaaGreat
set_option linter.unusedVariables false
set_option linter.unusedSimpArgs false
open Go.ChangeShapes Go.WideShapes Go.ChangeAt Go.RowKit
set_option maxRecDepth 100000

theorem run_ok {x : SysD} {w : World} (hx : x.At w) {n : Int} {k : Nat} (hn : n = k) (hk : chkSys x.sys = 0) (hl : k ≤ 300) : Calls Tryz.prog 44 #[x.val, .int .i64 n] w (WrlErr w (runW x.sys k) 0) := by
  subst hn
  have := kernRun_any hx (k : Int)
  have h0 : runErr x.sys k = 0 := runErr_0 hk (by omega)
  rwa [h0, show runOr x.sys k = runW x.sys k from if_pos h0] at this
theorem run_no {x : SysD} {w : World} (hx : x.At w) {n E : Int} (hE : runErr x.sys n = E) (h0 : E ≠ 0) : Calls Tryz.prog 44 #[x.val, .int .i64 n] w (WrlErr w Wrl.zero E) := by
  subst hE
  have := kernRun_any hx n
  rwa [show runOr x.sys n = Wrl.zero from if_neg h0] at this
theorem step_ok {x : SysD} {y : WD} {w : World} (hx : x.At w) (hy : y.At w) {W : Wrl} (hW : y.wrl = W) (h0 : stepErrW x.sys W = 0) : Calls Tryz.prog 21 #[x.val, y.val] w (WrlErr w (stepW x.sys W) 0) := by
  subst hW
  have := kernStep_any hx hy
  rwa [h0, show stepOrW x.sys y.wrl = stepW x.sys y.wrl from if_pos h0] at this
theorem step_no {x : SysD} {y : WD} {w : World} (hx : x.At w) (hy : y.At w) {E : Int} (hE : stepErrW x.sys y.wrl = E) (h0 : E ≠ 0) : Calls Tryz.prog 21 #[x.val, y.val] w (WrlErr w Wrl.zero E) := by
  subst hE
  have := kernStep_any hx hy
  rwa [show stepOrW x.sys y.wrl = Wrl.zero from if_neg h0] at this
/-- a run's world may be stepped on -/
theorem run_step {s : Sys} (hk : chkSys s = 0) {n : Nat} (hn : n < 300) : stepErrW s (runW s n) = 0 ∧ stepW s (runW s n) = runW s (n + 1) := by
  obtain ⟨hr, ht⟩ := runW_right hk n (by omega)
  exact ⟨stepErrW_0 (chkWorld_0 hk (right_iff.2 hr)) (by omega), rfl⟩
theorem run_chk {s : Sys} (hk : chkSys s = 0) {n : Nat} (hn : n ≤ 300) : chkWorld s (runW s n) = 0 := chkWorld_0 hk (right_iff.2 (runW_right hk n hn).1)
end Go.Proofs.YtnpflhaggfabnaaGreat
