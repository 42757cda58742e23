/- The reference's CheckInstr answers chkI. -/
import Derived.Test.YtebklpbbglojmaaIsaRef
namespace Go.Proofs.Ytebklpbbglojmaa
set_option linter.unusedVariables false
set_option linter.unusedSimpArgs false
open Go.RowKit

set_option maxHeartbeats 2000000 in
theorem checkInstr_9 (a b n : Int) (w : World) : Calls Try.prog 84 #[.agg #[.int .i64 9, .int .i64 a, .int .i64 b, .int .i64 n]] w fun e w' => e = .returned (.int .i64 (chkI 9 a b n)) ∧ Below w.heap.size w w' := by
  have eA : hasA 9 = true := rfl
  have eB : hasB 9 = false := rfl
  have eN : hasN 9 = true := rfl
  cases ra : regOk a <;> cases d0 : decide (0 ≤ n) <;> cases d1 : decide (n ≤ 19) <;> cases b0 : (b != 0)
  all_goals
    go_enter Try.func84, Try.ntmps84
    go_wp2_with (first
      | (go_at_call 50; refine (within_any _ _ _ _).mono ?_; rintro e w' ⟨rfl, rfl⟩)
      | (go_at_call 99; refine (has_9 _).mono ?_; rintro e w' ⟨rfl, rfl⟩)
      | (go_at_call 54; refine (registerR_any _ _).mono ?_; rintro e w' ⟨rfl, rfl⟩))
    go_ret
    refine ⟨?_, (by repeat' (first | exact Below.refl _ _ | assumption | refine Below.alloc1 ?_ _ | refine Below.drewN1 ?_ _ | refine Below.drew ?_ | refine Below.setCell1 ?_ ?_ _ | refine Below.via ?_ (by assumption) | refine Below.viaD ?_ (by assumption) | omega | (simp; done) | (simp; omega)))⟩
    simp only [chkI, eA, eB, eN, numOk]
    simp_all
    try omega
set_option maxHeartbeats 2000000 in
theorem checkInstr_10 (a b n : Int) (w : World) : Calls Try.prog 84 #[.agg #[.int .i64 10, .int .i64 a, .int .i64 b, .int .i64 n]] w fun e w' => e = .returned (.int .i64 (chkI 10 a b n)) ∧ Below w.heap.size w w' := by
  have eA : hasA 10 = true := rfl
  have eB : hasB 10 = false := rfl
  have eN : hasN 10 = false := rfl
  cases ra : regOk a <;> cases b0 : (b != 0) <;> cases n0 : (n != 0)
  all_goals
    go_enter Try.func84, Try.ntmps84
    go_wp2_with (first
      | (go_at_call 50; refine (within_any _ _ _ _).mono ?_; rintro e w' ⟨rfl, rfl⟩)
      | (go_at_call 99; refine (has_10 _).mono ?_; rintro e w' ⟨rfl, rfl⟩)
      | (go_at_call 54; refine (registerR_any _ _).mono ?_; rintro e w' ⟨rfl, rfl⟩))
    go_ret
    refine ⟨?_, (by repeat' (first | exact Below.refl _ _ | assumption | refine Below.alloc1 ?_ _ | refine Below.drewN1 ?_ _ | refine Below.drew ?_ | refine Below.setCell1 ?_ ?_ _ | refine Below.via ?_ (by assumption) | refine Below.viaD ?_ (by assumption) | omega | (simp; done) | (simp; omega)))⟩
    simp only [chkI, eA, eB, eN, numOk]
    simp_all
    try omega
set_option maxHeartbeats 2000000 in
theorem checkInstr_11 (a b n : Int) (w : World) : Calls Try.prog 84 #[.agg #[.int .i64 11, .int .i64 a, .int .i64 b, .int .i64 n]] w fun e w' => e = .returned (.int .i64 (chkI 11 a b n)) ∧ Below w.heap.size w w' := by
  have eA : hasA 11 = true := rfl
  have eB : hasB 11 = false := rfl
  have eN : hasN 11 = false := rfl
  cases ra : regOk a <;> cases b0 : (b != 0) <;> cases n0 : (n != 0)
  all_goals
    go_enter Try.func84, Try.ntmps84
    go_wp2_with (first
      | (go_at_call 50; refine (within_any _ _ _ _).mono ?_; rintro e w' ⟨rfl, rfl⟩)
      | (go_at_call 99; refine (has_11 _).mono ?_; rintro e w' ⟨rfl, rfl⟩)
      | (go_at_call 54; refine (registerR_any _ _).mono ?_; rintro e w' ⟨rfl, rfl⟩))
    go_ret
    refine ⟨?_, (by repeat' (first | exact Below.refl _ _ | assumption | refine Below.alloc1 ?_ _ | refine Below.drewN1 ?_ _ | refine Below.drew ?_ | refine Below.setCell1 ?_ ?_ _ | refine Below.via ?_ (by assumption) | refine Below.viaD ?_ (by assumption) | omega | (simp; done) | (simp; omega)))⟩
    simp only [chkI, eA, eB, eN, numOk]
    simp_all
    try omega
set_option maxHeartbeats 2000000 in
theorem checkInstr_12 (a b n : Int) (w : World) : Calls Try.prog 84 #[.agg #[.int .i64 12, .int .i64 a, .int .i64 b, .int .i64 n]] w fun e w' => e = .returned (.int .i64 (chkI 12 a b n)) ∧ Below w.heap.size w w' := by
  have eA : hasA 12 = true := rfl
  have eB : hasB 12 = false := rfl
  have eN : hasN 12 = true := rfl
  cases ra : regOk a <;> cases d0 : decide (0 ≤ n) <;> cases d1 : decide (n ≤ 5) <;> cases b0 : (b != 0)
  all_goals
    go_enter Try.func84, Try.ntmps84
    go_wp2_with (first
      | (go_at_call 50; refine (within_any _ _ _ _).mono ?_; rintro e w' ⟨rfl, rfl⟩)
      | (go_at_call 99; refine (has_12 _).mono ?_; rintro e w' ⟨rfl, rfl⟩)
      | (go_at_call 54; refine (registerR_any _ _).mono ?_; rintro e w' ⟨rfl, rfl⟩))
    go_ret
    refine ⟨?_, (by repeat' (first | exact Below.refl _ _ | assumption | refine Below.alloc1 ?_ _ | refine Below.drewN1 ?_ _ | refine Below.drew ?_ | refine Below.setCell1 ?_ ?_ _ | refine Below.via ?_ (by assumption) | refine Below.viaD ?_ (by assumption) | omega | (simp; done) | (simp; omega)))⟩
    simp only [chkI, eA, eB, eN, numOk]
    simp_all
    try omega
end Go.Proofs.Ytebklpbbglojmaa
