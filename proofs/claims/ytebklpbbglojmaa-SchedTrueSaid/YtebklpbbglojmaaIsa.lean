/- isa.Check and the reference's CheckInstr answer by one plain function of an instruction. -/
import Derived.Test.YtebklpbbglojmaaProg
import Derived.Test.YtebklpbbglojmaaApp
namespace Go.Proofs.Ytebklpbbglojmaa
set_option linter.unusedVariables false
set_option linter.unusedSimpArgs false
open Go.RowKit

/-- which registers and numbers there are -/
def regOk (n : Int) : Bool := decide (0 ≤ n ∧ n < 4)
/-- may a field ('A' 65, 'B' 66, 'N' 78) of an operation be a number? -/
def fineOf (op : Int) (f : Int) (n : Int) : Bool :=
  if f = 78 then (if op = 8 ∨ op = 9 then decide (0 ≤ n ∧ n < 20) else if op = 12 ∨ op = 13 then decide (0 ≤ n ∧ n < 6) else true) else regOk n

set_option maxHeartbeats 400000 in
theorem fine_any (op f n : Int) (w : World) :
    Calls Try.prog 95 #[.int .i64 op, .int .i32 f, .int .i64 n] w fun e w' => e = .returned (.bool (fineOf op f n)) ∧ w = w' := by
  by_cases hf : f = 78
  · subst hf
    by_cases h89 : op = 8 ∨ op = 9
    · have e : fineOf op 78 n = (decide (0 ≤ n) && decide (n < 20)) := by simp [fineOf, h89]
      rw [e]
      rcases h89 with rfl | rfl
      all_goals
        cases hn : decide (0 ≤ n)
        all_goals
          go_enter Try.func95, Try.ntmps95
          go_wp2
          go_ret
          exact ⟨by simp, rfl⟩
    · by_cases h23 : op = 12 ∨ op = 13
      · have e : fineOf op 78 n = (decide (0 ≤ n) && decide (n < 6)) := by simp [fineOf, h89, h23]
        rw [e]
        rcases h23 with rfl | rfl
        all_goals
          cases hn : decide (0 ≤ n)
          all_goals
            go_enter Try.func95, Try.ntmps95
            go_wp2
            go_ret
            exact ⟨by simp, rfl⟩
      · have e : fineOf op 78 n = true := by simp [fineOf, h89, h23]
        rw [e]
        have b8 : (op == 8) = false := by simp; omega
        have b9 : (op == 9) = false := by simp; omega
        have b12 : (op == 12) = false := by simp; omega
        have b13 : (op == 13) = false := by simp; omega
        clear e h89 h23
        go_enter Try.func95, Try.ntmps95
        go_wp2
        go_ret
        exact ⟨rfl, rfl⟩
  · have e : fineOf op f n = (decide (0 ≤ n) && decide (n < 4)) := by simp [fineOf, hf, regOk]
    rw [e]
    have bf : (f != 78) = true := by simpa using hf
    clear hf e
    cases hn : decide (0 ≤ n)
    all_goals
      go_enter Try.func95, Try.ntmps95
      go_wp2
      go_ret
      exact ⟨by simp, rfl⟩

/-- the place of a field in an instruction -/
def placeOf (f : Int) : Nat := if f = 65 then 1 else if f = 66 then 2 else 3
set_option maxHeartbeats 400000 in
theorem place_any (b o : Nat) (f : Int) (w : World) :
    Calls Try.prog 96 #[.pointer (some ⟨b, o, none⟩), .int .i32 f] w fun e w' => e = .returned (.pointer (some ⟨b, o + placeOf f, none⟩)) ∧ w = w' := by
  by_cases h1 : f = 65
  · subst h1
    go_enter Try.func96, Try.ntmps96
    go_wp2
    go_ret
    exact ⟨rfl, rfl⟩
  by_cases h2 : f = 66
  · subst h2
    go_enter Try.func96, Try.ntmps96
    go_wp2
    go_ret
    exact ⟨rfl, rfl⟩
  · have e : placeOf f = 3 := by simp [placeOf, h1, h2]
    rw [e]
    have b1 : (f == 65) = false := by simpa using h1
    have b2 : (f == 66) = false := by simpa using h2
    clear e h1 h2
    go_enter Try.func96, Try.ntmps96
    go_wp2
    go_ret
    exact ⟨rfl, rfl⟩
end Go.Proofs.Ytebklpbbglojmaa
