/- The reference's within, register, has and CheckInstr. -/
import Derived.Test.YtebklpbbglojmaaIsaOf
namespace Go.Proofs.Ytebklpbbglojmaa
set_option linter.unusedVariables false
set_option linter.unusedSimpArgs false
open Go.RowKit

set_option maxHeartbeats 400000 in
theorem within_any (n lo hi : Int) (w : World) :
    Calls Try.prog 50 #[.int .i64 n, .int .i64 lo, .int .i64 hi] w fun e w' => e = .returned (.bool (decide (lo ≤ n) && decide (n ≤ hi))) ∧ w = w' := by
  cases hn : decide (lo ≤ n)
  all_goals
    go_enter Try.func50, Try.ntmps50
    go_wp2
    go_ret
    exact ⟨by simp, rfl⟩

theorem registerR_any (n : Int) (w : World) :
    Calls Try.prog 54 #[.int .i64 n] w fun e w' => e = .returned (.bool (regOk n)) ∧ w = w' := by
  have e : regOk n = (decide (0 ≤ n) && decide (n ≤ 3)) := by
    unfold regOk
    rw [Bool.eq_iff_iff]
    simp
    omega
  rw [e]
  go_enter Try.func54, Try.ntmps54
  go_wp2_with (go_at_call 50; refine (within_any _ _ _ _).mono ?_; rintro e w' ⟨rfl, rfl⟩)
  go_ret
  exact ⟨rfl, rfl⟩

def hasA (op : Int) : Bool := op == 1 || op == 2 || op == 3 || op == 4 || op == 5 || op == 6 || op == 7 || op == 9 || op == 10 || op == 11 || op == 12 || op == 13
def hasB (op : Int) : Bool := op == 2 || op == 3 || op == 4 || op == 5 || op == 6 || op == 7 || op == 13
def hasN (op : Int) : Bool := op == 1 || op == 8 || op == 9 || op == 12 || op == 13
theorem has_1 (w : World) : Calls Try.prog 99 #[.int .i64 1] w fun e w' => e = .returned (.tuple #[.bool (hasA 1), .bool (hasB 1), .bool (hasN 1)]) ∧ w = w' := by
  go_enter Try.func99, Try.ntmps99
  go_wp2
  go_ret3
  exact ⟨rfl, rfl⟩
theorem has_2 (w : World) : Calls Try.prog 99 #[.int .i64 2] w fun e w' => e = .returned (.tuple #[.bool (hasA 2), .bool (hasB 2), .bool (hasN 2)]) ∧ w = w' := by
  go_enter Try.func99, Try.ntmps99
  go_wp2
  go_ret3
  exact ⟨rfl, rfl⟩
theorem has_3 (w : World) : Calls Try.prog 99 #[.int .i64 3] w fun e w' => e = .returned (.tuple #[.bool (hasA 3), .bool (hasB 3), .bool (hasN 3)]) ∧ w = w' := by
  go_enter Try.func99, Try.ntmps99
  go_wp2
  go_ret3
  exact ⟨rfl, rfl⟩
theorem has_4 (w : World) : Calls Try.prog 99 #[.int .i64 4] w fun e w' => e = .returned (.tuple #[.bool (hasA 4), .bool (hasB 4), .bool (hasN 4)]) ∧ w = w' := by
  go_enter Try.func99, Try.ntmps99
  go_wp2
  go_ret3
  exact ⟨rfl, rfl⟩
theorem has_5 (w : World) : Calls Try.prog 99 #[.int .i64 5] w fun e w' => e = .returned (.tuple #[.bool (hasA 5), .bool (hasB 5), .bool (hasN 5)]) ∧ w = w' := by
  go_enter Try.func99, Try.ntmps99
  go_wp2
  go_ret3
  exact ⟨rfl, rfl⟩
theorem has_6 (w : World) : Calls Try.prog 99 #[.int .i64 6] w fun e w' => e = .returned (.tuple #[.bool (hasA 6), .bool (hasB 6), .bool (hasN 6)]) ∧ w = w' := by
  go_enter Try.func99, Try.ntmps99
  go_wp2
  go_ret3
  exact ⟨rfl, rfl⟩
theorem has_7 (w : World) : Calls Try.prog 99 #[.int .i64 7] w fun e w' => e = .returned (.tuple #[.bool (hasA 7), .bool (hasB 7), .bool (hasN 7)]) ∧ w = w' := by
  go_enter Try.func99, Try.ntmps99
  go_wp2
  go_ret3
  exact ⟨rfl, rfl⟩
theorem has_8 (w : World) : Calls Try.prog 99 #[.int .i64 8] w fun e w' => e = .returned (.tuple #[.bool (hasA 8), .bool (hasB 8), .bool (hasN 8)]) ∧ w = w' := by
  go_enter Try.func99, Try.ntmps99
  go_wp2
  go_ret3
  exact ⟨rfl, rfl⟩
theorem has_9 (w : World) : Calls Try.prog 99 #[.int .i64 9] w fun e w' => e = .returned (.tuple #[.bool (hasA 9), .bool (hasB 9), .bool (hasN 9)]) ∧ w = w' := by
  go_enter Try.func99, Try.ntmps99
  go_wp2
  go_ret3
  exact ⟨rfl, rfl⟩
theorem has_10 (w : World) : Calls Try.prog 99 #[.int .i64 10] w fun e w' => e = .returned (.tuple #[.bool (hasA 10), .bool (hasB 10), .bool (hasN 10)]) ∧ w = w' := by
  go_enter Try.func99, Try.ntmps99
  go_wp2
  go_ret3
  exact ⟨rfl, rfl⟩
theorem has_11 (w : World) : Calls Try.prog 99 #[.int .i64 11] w fun e w' => e = .returned (.tuple #[.bool (hasA 11), .bool (hasB 11), .bool (hasN 11)]) ∧ w = w' := by
  go_enter Try.func99, Try.ntmps99
  go_wp2
  go_ret3
  exact ⟨rfl, rfl⟩
theorem has_12 (w : World) : Calls Try.prog 99 #[.int .i64 12] w fun e w' => e = .returned (.tuple #[.bool (hasA 12), .bool (hasB 12), .bool (hasN 12)]) ∧ w = w' := by
  go_enter Try.func99, Try.ntmps99
  go_wp2
  go_ret3
  exact ⟨rfl, rfl⟩
theorem has_13 (w : World) : Calls Try.prog 99 #[.int .i64 13] w fun e w' => e = .returned (.tuple #[.bool (hasA 13), .bool (hasB 13), .bool (hasN 13)]) ∧ w = w' := by
  go_enter Try.func99, Try.ntmps99
  go_wp2
  go_ret3
  exact ⟨rfl, rfl⟩
theorem has_14 (w : World) : Calls Try.prog 99 #[.int .i64 14] w fun e w' => e = .returned (.tuple #[.bool (hasA 14), .bool (hasB 14), .bool (hasN 14)]) ∧ w = w' := by
  go_enter Try.func99, Try.ntmps99
  go_wp2
  go_ret3
  exact ⟨rfl, rfl⟩
theorem has_15 (w : World) : Calls Try.prog 99 #[.int .i64 15] w fun e w' => e = .returned (.tuple #[.bool (hasA 15), .bool (hasB 15), .bool (hasN 15)]) ∧ w = w' := by
  go_enter Try.func99, Try.ntmps99
  go_wp2
  go_ret3
  exact ⟨rfl, rfl⟩

theorem has_any (op : Int) (h : 1 ≤ op ∧ op ≤ 15) (w : World) : Calls Try.prog 99 #[.int .i64 op] w fun e w' => e = .returned (.tuple #[.bool (hasA op), .bool (hasB op), .bool (hasN op)]) ∧ w = w' := by
  rcases op_cases h with rfl | rfl | rfl | rfl | rfl | rfl | rfl | rfl | rfl | rfl | rfl | rfl | rfl | rfl | rfl
  · exact has_1 w
  · exact has_2 w
  · exact has_3 w
  · exact has_4 w
  · exact has_5 w
  · exact has_6 w
  · exact has_7 w
  · exact has_8 w
  · exact has_9 w
  · exact has_10 w
  · exact has_11 w
  · exact has_12 w
  · exact has_13 w
  · exact has_14 w
  · exact has_15 w

/-- may N be a number? (jumps, channels) -/
def numOk (op n : Int) : Bool := if op = 8 ∨ op = 9 then decide (0 ≤ n ∧ n < 20) else if op = 12 ∨ op = 13 then decide (0 ≤ n ∧ n < 6) else true
/-- Check of an instruction -/
def chkI (op a b n : Int) : Int :=
  if ¬ (1 ≤ op ∧ op ≤ 15) then 4
  else if (hasA op && !regOk a || hasB op && !regOk b) = true then 3
  else if numOk op n = false then 3
  else if (!hasA op && a != 0 || (!hasB op && b != 0 || !hasN op && n != 0)) = true then 1
  else 0
end Go.Proofs.Ytebklpbbglojmaa
