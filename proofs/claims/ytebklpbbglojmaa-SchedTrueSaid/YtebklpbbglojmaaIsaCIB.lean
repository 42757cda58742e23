/- The reference's CheckInstr answers chkI. -/
import Derived.Test.YtebklpbbglojmaaIsaRef
namespace Go.Proofs.Ytebklpbbglojmaa
set_option linter.unusedVariables false
set_option linter.unusedSimpArgs false
open Go.RowKit

set_option maxHeartbeats 2000000 in
theorem checkInstr_5 (a b n : Int) (w : World) : Calls Try.prog 84 #[.agg #[.int .i64 5, .int .i64 a, .int .i64 b, .int .i64 n]] w fun e w' => e = .returned (.int .i64 (chkI 5 a b n)) ∧ Below w.heap.size w w' := by
  have eA : hasA 5 = true := rfl
  have eB : hasB 5 = true := rfl
  have eN : hasN 5 = false := rfl
  cases ra : regOk a <;> cases rb : regOk b <;> cases n0 : (n != 0)
  all_goals
    go_enter Try.func84, Try.ntmps84
    go_wp2_with (first
      | (go_at_call 50; refine (within_any _ _ _ _).mono ?_; rintro e w' ⟨rfl, rfl⟩)
      | (go_at_call 99; refine (has_5 _).mono ?_; rintro e w' ⟨rfl, rfl⟩)
      | (go_at_call 54; refine (registerR_any _ _).mono ?_; rintro e w' ⟨rfl, rfl⟩))
    go_ret
    refine ⟨?_, (by repeat' (first | exact Below.refl _ _ | assumption | refine Below.alloc1 ?_ _ | refine Below.drewN1 ?_ _ | refine Below.drew ?_ | refine Below.setCell1 ?_ ?_ _ | refine Below.via ?_ (by assumption) | refine Below.viaD ?_ (by assumption) | omega | (simp; done) | (simp; omega)))⟩
    simp only [chkI, eA, eB, eN, numOk]
    simp_all
    try omega
set_option maxHeartbeats 2000000 in
theorem checkInstr_6 (a b n : Int) (w : World) : Calls Try.prog 84 #[.agg #[.int .i64 6, .int .i64 a, .int .i64 b, .int .i64 n]] w fun e w' => e = .returned (.int .i64 (chkI 6 a b n)) ∧ Below w.heap.size w w' := by
  have eA : hasA 6 = true := rfl
  have eB : hasB 6 = true := rfl
  have eN : hasN 6 = false := rfl
  cases ra : regOk a <;> cases rb : regOk b <;> cases n0 : (n != 0)
  all_goals
    go_enter Try.func84, Try.ntmps84
    go_wp2_with (first
      | (go_at_call 50; refine (within_any _ _ _ _).mono ?_; rintro e w' ⟨rfl, rfl⟩)
      | (go_at_call 99; refine (has_6 _).mono ?_; rintro e w' ⟨rfl, rfl⟩)
      | (go_at_call 54; refine (registerR_any _ _).mono ?_; rintro e w' ⟨rfl, rfl⟩))
    go_ret
    refine ⟨?_, (by repeat' (first | exact Below.refl _ _ | assumption | refine Below.alloc1 ?_ _ | refine Below.drewN1 ?_ _ | refine Below.drew ?_ | refine Below.setCell1 ?_ ?_ _ | refine Below.via ?_ (by assumption) | refine Below.viaD ?_ (by assumption) | omega | (simp; done) | (simp; omega)))⟩
    simp only [chkI, eA, eB, eN, numOk]
    simp_all
    try omega
set_option maxHeartbeats 2000000 in
theorem checkInstr_7 (a b n : Int) (w : World) : Calls Try.prog 84 #[.agg #[.int .i64 7, .int .i64 a, .int .i64 b, .int .i64 n]] w fun e w' => e = .returned (.int .i64 (chkI 7 a b n)) ∧ Below w.heap.size w w' := by
  have eA : hasA 7 = true := rfl
  have eB : hasB 7 = true := rfl
  have eN : hasN 7 = false := rfl
  cases ra : regOk a <;> cases rb : regOk b <;> cases n0 : (n != 0)
  all_goals
    go_enter Try.func84, Try.ntmps84
    go_wp2_with (first
      | (go_at_call 50; refine (within_any _ _ _ _).mono ?_; rintro e w' ⟨rfl, rfl⟩)
      | (go_at_call 99; refine (has_7 _).mono ?_; rintro e w' ⟨rfl, rfl⟩)
      | (go_at_call 54; refine (registerR_any _ _).mono ?_; rintro e w' ⟨rfl, rfl⟩))
    go_ret
    refine ⟨?_, (by repeat' (first | exact Below.refl _ _ | assumption | refine Below.alloc1 ?_ _ | refine Below.drewN1 ?_ _ | refine Below.drew ?_ | refine Below.setCell1 ?_ ?_ _ | refine Below.via ?_ (by assumption) | refine Below.viaD ?_ (by assumption) | omega | (simp; done) | (simp; omega)))⟩
    simp only [chkI, eA, eB, eN, numOk]
    simp_all
    try omega
set_option maxHeartbeats 2000000 in
theorem checkInstr_8 (a b n : Int) (w : World) : Calls Try.prog 84 #[.agg #[.int .i64 8, .int .i64 a, .int .i64 b, .int .i64 n]] w fun e w' => e = .returned (.int .i64 (chkI 8 a b n)) ∧ Below w.heap.size w w' := by
  have eA : hasA 8 = false := rfl
  have eB : hasB 8 = false := rfl
  have eN : hasN 8 = true := rfl
  cases d0 : decide (0 ≤ n) <;> cases d1 : decide (n ≤ 19) <;> cases a0 : (a != 0) <;> cases b0 : (b != 0)
  all_goals
    go_enter Try.func84, Try.ntmps84
    go_wp2_with (first
      | (go_at_call 50; refine (within_any _ _ _ _).mono ?_; rintro e w' ⟨rfl, rfl⟩)
      | (go_at_call 99; refine (has_8 _).mono ?_; rintro e w' ⟨rfl, rfl⟩)
      | (go_at_call 54; refine (registerR_any _ _).mono ?_; rintro e w' ⟨rfl, rfl⟩))
    go_ret
    refine ⟨?_, (by repeat' (first | exact Below.refl _ _ | assumption | refine Below.alloc1 ?_ _ | refine Below.drewN1 ?_ _ | refine Below.drew ?_ | refine Below.setCell1 ?_ ?_ _ | refine Below.via ?_ (by assumption) | refine Below.viaD ?_ (by assumption) | omega | (simp; done) | (simp; omega)))⟩
    simp only [chkI, eA, eB, eN, numOk]
    simp_all
    try omega
end Go.Proofs.Ytebklpbbglojmaa
