/- The reference's CheckInstr answers chkI. -/
import Derived.Test.YtebklpbbglojmaaIsaRef
namespace Go.Proofs.Ytebklpbbglojmaa
set_option linter.unusedVariables false
set_option linter.unusedSimpArgs false
open Go.RowKit

set_option maxHeartbeats 2000000 in
theorem checkInstr_1 (a b n : Int) (w : World) : Calls Try.prog 84 #[.agg #[.int .i64 1, .int .i64 a, .int .i64 b, .int .i64 n]] w fun e w' => e = .returned (.int .i64 (chkI 1 a b n)) ∧ Below w.heap.size w w' := by
  have eA : hasA 1 = true := rfl
  have eB : hasB 1 = false := rfl
  have eN : hasN 1 = true := rfl
  cases ra : regOk a <;> cases b0 : (b != 0)
  all_goals
    go_enter Try.func84, Try.ntmps84
    go_wp2_with (first
      | (go_at_call 50; refine (within_any _ _ _ _).mono ?_; rintro e w' ⟨rfl, rfl⟩)
      | (go_at_call 99; refine (has_1 _).mono ?_; rintro e w' ⟨rfl, rfl⟩)
      | (go_at_call 54; refine (registerR_any _ _).mono ?_; rintro e w' ⟨rfl, rfl⟩))
    go_ret
    refine ⟨?_, (by repeat' (first | exact Below.refl _ _ | assumption | refine Below.alloc1 ?_ _ | refine Below.drewN1 ?_ _ | refine Below.drew ?_ | refine Below.setCell1 ?_ ?_ _ | refine Below.via ?_ (by assumption) | refine Below.viaD ?_ (by assumption) | omega | (simp; done) | (simp; omega)))⟩
    simp only [chkI, eA, eB, eN, numOk]
    simp_all
    try omega
set_option maxHeartbeats 2000000 in
theorem checkInstr_2 (a b n : Int) (w : World) : Calls Try.prog 84 #[.agg #[.int .i64 2, .int .i64 a, .int .i64 b, .int .i64 n]] w fun e w' => e = .returned (.int .i64 (chkI 2 a b n)) ∧ Below w.heap.size w w' := by
  have eA : hasA 2 = true := rfl
  have eB : hasB 2 = true := rfl
  have eN : hasN 2 = false := rfl
  cases ra : regOk a <;> cases rb : regOk b <;> cases n0 : (n != 0)
  all_goals
    go_enter Try.func84, Try.ntmps84
    go_wp2_with (first
      | (go_at_call 50; refine (within_any _ _ _ _).mono ?_; rintro e w' ⟨rfl, rfl⟩)
      | (go_at_call 99; refine (has_2 _).mono ?_; rintro e w' ⟨rfl, rfl⟩)
      | (go_at_call 54; refine (registerR_any _ _).mono ?_; rintro e w' ⟨rfl, rfl⟩))
    go_ret
    refine ⟨?_, (by repeat' (first | exact Below.refl _ _ | assumption | refine Below.alloc1 ?_ _ | refine Below.drewN1 ?_ _ | refine Below.drew ?_ | refine Below.setCell1 ?_ ?_ _ | refine Below.via ?_ (by assumption) | refine Below.viaD ?_ (by assumption) | omega | (simp; done) | (simp; omega)))⟩
    simp only [chkI, eA, eB, eN, numOk]
    simp_all
    try omega
set_option maxHeartbeats 2000000 in
theorem checkInstr_3 (a b n : Int) (w : World) : Calls Try.prog 84 #[.agg #[.int .i64 3, .int .i64 a, .int .i64 b, .int .i64 n]] w fun e w' => e = .returned (.int .i64 (chkI 3 a b n)) ∧ Below w.heap.size w w' := by
  have eA : hasA 3 = true := rfl
  have eB : hasB 3 = true := rfl
  have eN : hasN 3 = false := rfl
  cases ra : regOk a <;> cases rb : regOk b <;> cases n0 : (n != 0)
  all_goals
    go_enter Try.func84, Try.ntmps84
    go_wp2_with (first
      | (go_at_call 50; refine (within_any _ _ _ _).mono ?_; rintro e w' ⟨rfl, rfl⟩)
      | (go_at_call 99; refine (has_3 _).mono ?_; rintro e w' ⟨rfl, rfl⟩)
      | (go_at_call 54; refine (registerR_any _ _).mono ?_; rintro e w' ⟨rfl, rfl⟩))
    go_ret
    refine ⟨?_, (by repeat' (first | exact Below.refl _ _ | assumption | refine Below.alloc1 ?_ _ | refine Below.drewN1 ?_ _ | refine Below.drew ?_ | refine Below.setCell1 ?_ ?_ _ | refine Below.via ?_ (by assumption) | refine Below.viaD ?_ (by assumption) | omega | (simp; done) | (simp; omega)))⟩
    simp only [chkI, eA, eB, eN, numOk]
    simp_all
    try omega
set_option maxHeartbeats 2000000 in
theorem checkInstr_4 (a b n : Int) (w : World) : Calls Try.prog 84 #[.agg #[.int .i64 4, .int .i64 a, .int .i64 b, .int .i64 n]] w fun e w' => e = .returned (.int .i64 (chkI 4 a b n)) ∧ Below w.heap.size w w' := by
  have eA : hasA 4 = true := rfl
  have eB : hasB 4 = true := rfl
  have eN : hasN 4 = false := rfl
  cases ra : regOk a <;> cases rb : regOk b <;> cases n0 : (n != 0)
  all_goals
    go_enter Try.func84, Try.ntmps84
    go_wp2_with (first
      | (go_at_call 50; refine (within_any _ _ _ _).mono ?_; rintro e w' ⟨rfl, rfl⟩)
      | (go_at_call 99; refine (has_4 _).mono ?_; rintro e w' ⟨rfl, rfl⟩)
      | (go_at_call 54; refine (registerR_any _ _).mono ?_; rintro e w' ⟨rfl, rfl⟩))
    go_ret
    refine ⟨?_, (by repeat' (first | exact Below.refl _ _ | assumption | refine Below.alloc1 ?_ _ | refine Below.drewN1 ?_ _ | refine Below.drew ?_ | refine Below.setCell1 ?_ ?_ _ | refine Below.via ?_ (by assumption) | refine Below.viaD ?_ (by assumption) | omega | (simp; done) | (simp; omega)))⟩
    simp only [chkI, eA, eB, eN, numOk]
    simp_all
    try omega
end Go.Proofs.Ytebklpbbglojmaa
