/- The reference's CheckInstr answers chkI. -/
import Derived.Test.YtebklpbbglojmaaIsaRef
namespace Go.Proofs.Ytebklpbbglojmaa
set_option linter.unusedVariables false
set_option linter.unusedSimpArgs false
open Go.RowKit

set_option maxHeartbeats 2000000 in
theorem checkInstr_13 (a b n : Int) (w : World) : Calls Try.prog 84 #[.agg #[.int .i64 13, .int .i64 a, .int .i64 b, .int .i64 n]] w fun e w' => e = .returned (.int .i64 (chkI 13 a b n)) ∧ Below w.heap.size w w' := by
  have eA : hasA 13 = true := rfl
  have eB : hasB 13 = true := rfl
  have eN : hasN 13 = true := rfl
  cases ra : regOk a <;> cases rb : regOk b <;> cases d0 : decide (0 ≤ n) <;> cases d1 : decide (n ≤ 5)
  all_goals
    go_enter Try.func84, Try.ntmps84
    go_wp2_with (first
      | (go_at_call 50; refine (within_any _ _ _ _).mono ?_; rintro e w' ⟨rfl, rfl⟩)
      | (go_at_call 99; refine (has_13 _).mono ?_; rintro e w' ⟨rfl, rfl⟩)
      | (go_at_call 54; refine (registerR_any _ _).mono ?_; rintro e w' ⟨rfl, rfl⟩))
    go_ret
    refine ⟨?_, (by repeat' (first | exact Below.refl _ _ | assumption | refine Below.alloc1 ?_ _ | refine Below.drewN1 ?_ _ | refine Below.drew ?_ | refine Below.setCell1 ?_ ?_ _ | refine Below.via ?_ (by assumption) | refine Below.viaD ?_ (by assumption) | omega | (simp; done) | (simp; omega)))⟩
    simp only [chkI, eA, eB, eN, numOk]
    simp_all
    try omega
set_option maxHeartbeats 2000000 in
theorem checkInstr_14 (a b n : Int) (w : World) : Calls Try.prog 84 #[.agg #[.int .i64 14, .int .i64 a, .int .i64 b, .int .i64 n]] w fun e w' => e = .returned (.int .i64 (chkI 14 a b n)) ∧ Below w.heap.size w w' := by
  have eA : hasA 14 = false := rfl
  have eB : hasB 14 = false := rfl
  have eN : hasN 14 = false := rfl
  cases a0 : (a != 0) <;> cases b0 : (b != 0) <;> cases n0 : (n != 0)
  all_goals
    go_enter Try.func84, Try.ntmps84
    go_wp2_with (first
      | (go_at_call 50; refine (within_any _ _ _ _).mono ?_; rintro e w' ⟨rfl, rfl⟩)
      | (go_at_call 99; refine (has_14 _).mono ?_; rintro e w' ⟨rfl, rfl⟩)
      | (go_at_call 54; refine (registerR_any _ _).mono ?_; rintro e w' ⟨rfl, rfl⟩))
    go_ret
    refine ⟨?_, (by repeat' (first | exact Below.refl _ _ | assumption | refine Below.alloc1 ?_ _ | refine Below.drewN1 ?_ _ | refine Below.drew ?_ | refine Below.setCell1 ?_ ?_ _ | refine Below.via ?_ (by assumption) | refine Below.viaD ?_ (by assumption) | omega | (simp; done) | (simp; omega)))⟩
    simp only [chkI, eA, eB, eN, numOk]
    simp_all
    try omega
set_option maxHeartbeats 2000000 in
theorem checkInstr_15 (a b n : Int) (w : World) : Calls Try.prog 84 #[.agg #[.int .i64 15, .int .i64 a, .int .i64 b, .int .i64 n]] w fun e w' => e = .returned (.int .i64 (chkI 15 a b n)) ∧ Below w.heap.size w w' := by
  have eA : hasA 15 = false := rfl
  have eB : hasB 15 = false := rfl
  have eN : hasN 15 = false := rfl
  cases a0 : (a != 0) <;> cases b0 : (b != 0) <;> cases n0 : (n != 0)
  all_goals
    go_enter Try.func84, Try.ntmps84
    go_wp2_with (first
      | (go_at_call 50; refine (within_any _ _ _ _).mono ?_; rintro e w' ⟨rfl, rfl⟩)
      | (go_at_call 99; refine (has_15 _).mono ?_; rintro e w' ⟨rfl, rfl⟩)
      | (go_at_call 54; refine (registerR_any _ _).mono ?_; rintro e w' ⟨rfl, rfl⟩))
    go_ret
    refine ⟨?_, (by repeat' (first | exact Below.refl _ _ | assumption | refine Below.alloc1 ?_ _ | refine Below.drewN1 ?_ _ | refine Below.drew ?_ | refine Below.setCell1 ?_ ?_ _ | refine Below.via ?_ (by assumption) | refine Below.viaD ?_ (by assumption) | omega | (simp; done) | (simp; omega)))⟩
    simp only [chkI, eA, eB, eN, numOk]
    simp_all
    try omega
end Go.Proofs.Ytebklpbbglojmaa
