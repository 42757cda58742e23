/- The reference's CheckInstr and CheckCode answer chkI, chkCode. -/
import Derived.Test.YtebklpbbglojmaaIsaCIA
import Derived.Test.YtebklpbbglojmaaIsaCIB
import Derived.Test.YtebklpbbglojmaaIsaCIC
import Derived.Test.YtebklpbbglojmaaIsaCID
namespace Go.Proofs.Ytebklpbbglojmaa
set_option linter.unusedVariables false
set_option linter.unusedSimpArgs false
open Go.RowKit

theorem checkInstr_none (op a b n : Int) (h : ¬ (1 ≤ op ∧ op ≤ 15)) (w : World) : Calls Try.prog 84 #[.agg #[.int .i64 op, .int .i64 a, .int .i64 b, .int .i64 n]] w fun e w' => e = .returned (.int .i64 4) ∧ Below w.heap.size w w' := by
  have hb : (decide (1 ≤ op) && decide (op ≤ 15)) = false := by simp; omega
  have hw := fun w => within_any op 1 15 w
  rw [hb] at hw
  have HW := hide hw
  clear hw hb h
  go_enter Try.func84, Try.ntmps84
  go_wp2_with (go_at_call 50; refine (HW.out _).mono ?_; rintro e w' ⟨rfl, rfl⟩)
  go_ret
  exact ⟨rfl, (by repeat' (first | exact Below.refl _ _ | assumption | refine Below.alloc1 ?_ _ | refine Below.drewN1 ?_ _ | refine Below.drew ?_ | refine Below.setCell1 ?_ ?_ _ | refine Below.via ?_ (by assumption) | refine Below.viaD ?_ (by assumption) | omega | (simp; done) | (simp; omega)))⟩

theorem checkInstr_any (op a b n : Int) (w : World) : Calls Try.prog 84 #[.agg #[.int .i64 op, .int .i64 a, .int .i64 b, .int .i64 n]] w fun e w' => e = .returned (.int .i64 (chkI op a b n)) ∧ Below w.heap.size w w' := by
  by_cases h : 1 ≤ op ∧ op ≤ 15
  · rcases op_cases h with rfl | rfl | rfl | rfl | rfl | rfl | rfl | rfl | rfl | rfl | rfl | rfl | rfl | rfl | rfl
    · exact checkInstr_1 a b n w
    · exact checkInstr_2 a b n w
    · exact checkInstr_3 a b n w
    · exact checkInstr_4 a b n w
    · exact checkInstr_5 a b n w
    · exact checkInstr_6 a b n w
    · exact checkInstr_7 a b n w
    · exact checkInstr_8 a b n w
    · exact checkInstr_9 a b n w
    · exact checkInstr_10 a b n w
    · exact checkInstr_11 a b n w
    · exact checkInstr_12 a b n w
    · exact checkInstr_13 a b n w
    · exact checkInstr_14 a b n w
    · exact checkInstr_15 a b n w
  · have e : chkI op a b n = 4 := by unfold chkI; rw [if_pos h]
    rw [e]
    exact checkInstr_none op a b n h w
end Go.Proofs.Ytebklpbbglojmaa
