/- flow.Path where the partitions are there, and where not. -/
import Derived.Test.YtlkkdpoioedacaaFlowD
namespace Go.Proofs.Ytlkkdpoioedacaa
set_option linter.unusedVariables false
set_option linter.unusedSimpArgs false
open Go.ChangeShapes Go.WideShapes Go.ChangeAt Go.RowKit
set_option maxRecDepth 100000

theorem ints_rf {w : World} {A : Option Addr} {c : Nat} {l : List Int} (h : Ints w (.slice A l.length c) l) : RF w A l.length 1 (fun i => [.int .i64 (l.getD i 0)]) := by
  obtain ⟨A', c', e, _, _, h⟩ := RF.of_ints h
  simp only [Value.slice.injEq] at e
  rw [e.1]
  exact h
theorem path_no {x : SysD} {w : World} (hx : x.At w) {f t E : Int} (hE : pathErr x.sys f t = E) (h0 : E ≠ 0) : Calls Try.prog 19 #[x.val, .int .i64 f, .int .i64 t] w fun e w' => ∃ A c, e = .returned (.tuple #[.slice A 0 c, .bool false, .int .i64 E]) ∧ Below w.heap.size w w' ∧ OwnRes w w' (fun u => Ints u (.slice A 0 c) []) := by
  refine (flowPath_any hx f t).mono ?_
  rintro e w' ⟨L, A, c, rfl, hL, hb, hr⟩
  have hn : pathOr x.sys f t = none := if_neg (by rw [hE]; exact h0)
  rw [hn] at hL
  subst hL
  rw [hn, hE]
  exact ⟨A, c, rfl, hb, hr⟩
theorem path_yes {x : SysD} {w : World} (hx : x.At w) {f t : Nat} (hE : pathErr x.sys f t = 0) : Calls Try.prog 19 #[x.val, .int .i64 f, .int .i64 t] w fun e w' => ∃ (L : List Int) (A : Option Addr) (c : Nat), e = .returned (.tuple #[.slice A L.length c, .bool (pathOf x.chans x.parts.length f t).isSome, .int .i64 0]) ∧ L = ((pathOf x.chans x.parts.length f t).getD []).map Int.ofNat ∧ Below w.heap.size w w' ∧ OwnRes w w' (fun u => Ints u (.slice A L.length c) L) := by
  refine (flowPath_any hx f t).mono ?_
  rintro e w' ⟨L, A, c, rfl, hL, hb, hr⟩
  have hpo : pathOr x.sys f t = pathOf x.chans x.parts.length f t := (if_pos hE).trans (by rw [sys_parts_len]; rfl)
  rw [hpo] at hL
  rw [hpo, hE]
  exact ⟨L, A, c, rfl, hL, hb, hr⟩
end Go.Proofs.Ytlkkdpoioedacaa
