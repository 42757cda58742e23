/- chans -/
import Derived.Test.YtebklpbbglojmaaProg
import Derived.Test.YtebklpbbglojmaaMem
import Derived.Test.YtebklpbbglojmaaMapInt
namespace Go.Proofs.Ytebklpbbglojmaa
set_option linter.unusedVariables false
set_option linter.unusedSimpArgs false
open Go.RowKit

/-- room of a kind, and whether there is one -/
def roomOf (k : Int) : Int := if k = 1 then 1 else if k = 2 then 3 else 0
def roomIs (k : Int) : Bool := decide (k = 1 ∨ k = 2)
theorem zero_int (w : World) : (zeroValue 3).run Try.prog w = .ok (.int .i64 0) w := by kernel_rfl

set_option maxRecDepth 20000 in
set_option maxHeartbeats 400000 in
theorem room_any (k : Int) (w : World) :
    Calls Try.prog 45 #[.int .i64 k] w fun e w' => e = .returned (.tuple #[.int .i64 (roomOf k), .bool (roomIs k)]) ∧ Below w.heap.size w w' := by
  have hmm := @run_makeMap Try.prog
  have i1 := fun w => run_insert_new (P := Try.prog) Try.underlying119 Try.underlying3 1 (.int .i64 1) #[] 0 rfl w
  have i2 := fun w => run_insert_new (P := Try.prog) Try.underlying119 Try.underlying3 2 (.int .i64 3) #[⟨.int .i64 1, .int .i64 1, 0⟩] 1 rfl w
  by_cases h1 : k = 1
  · subst h1
    have l := fun w => run_lookup_new (P := Try.prog) Try.underlying119 Try.underlying3 1 #[⟨.int .i64 1, .int .i64 1, 0⟩, ⟨.int .i64 2, .int .i64 3, 1⟩] 2 w (i := 0) (v := .int .i64 1) rfl
    go_enter Try.func45, Try.ntmps45
    go_wp2_with fail
    go_ret2
    exact ⟨rfl, (Below.refl _ _).alloc (Nat.le_refl _) _⟩
  by_cases h2 : k = 2
  · subst h2
    have l := fun w => run_lookup_new (P := Try.prog) Try.underlying119 Try.underlying3 2 #[⟨.int .i64 1, .int .i64 1, 0⟩, ⟨.int .i64 2, .int .i64 3, 1⟩] 2 w (i := 1) (v := .int .i64 3) rfl
    go_enter Try.func45, Try.ntmps45
    go_wp2_with fail
    go_ret2
    exact ⟨rfl, (Below.refl _ _).alloc (Nat.le_refl _) _⟩
  · have b1 : (k == 1) = false := by simpa using h1
    have b2 : (k == 2) = false := by simpa using h2
    have l := fun w => run_lookup_new_none (P := Try.prog) Try.underlying119 Try.underlying3 k #[⟨.int .i64 1, .int .i64 1, 0⟩, ⟨.int .i64 2, .int .i64 3, 1⟩] 2 w zero_int (by simp [Instr.findNow, Instr.sameNow, b1, b2])
    have e1 : roomOf k = 0 := by simp [roomOf, h1, h2]
    have e2 : roomIs k = false := by simp [roomIs, h1, h2]
    rw [e1, e2]
    clear h1 h2 e1 e2 b1 b2
    go_enter Try.func45, Try.ntmps45
    go_wp2_with fail
    go_ret2
    exact ⟨rfl, (Below.refl _ _).alloc (Nat.le_refl _) _⟩

/-- the document's answer to Check of a line of n numbers -/
def chkLine (k : Int) (n : Nat) : Int := if roomIs k = true then (if roomOf k < (n : Int) then 2 else 0) else 4

set_option maxHeartbeats 400000 in
theorem chansCheck_any (k : Int) (v : Value) (l : List Int) (w : World) (hv : Ints w v l) :
    Calls Try.prog 18 #[.int .i64 k, .agg #[v]] w fun e w' => e = .returned (.int .i64 (chkLine k l.length)) ∧ Below w.heap.size w w' := by
  obtain ⟨A, c, rfl, -, -, -⟩ := hv
  obtain ⟨n, hn⟩ : ∃ n, l.length = n := ⟨_, rfl⟩
  rw [hn]
  clear hn
  cases hk : roomIs k with
  | false =>
    have e : chkLine k n = 4 := by simp [chkLine, hk]
    rw [e]
    clear e
    go_enter Try.func18, Try.ntmps18
    go_wp2_with (go_at_call 45; refine (room_any _ _).mono ?_; rintro e w1 ⟨rfl, hb⟩)
    go_ret
    exact ⟨rfl, (by repeat' (first | exact Below.refl _ _ | assumption | refine Below.alloc1 ?_ _ | refine Below.drewN1 ?_ _ | refine Below.drew ?_ | refine Below.setCell1 ?_ ?_ _ | refine Below.via ?_ (by assumption) | refine Below.viaD ?_ (by assumption) | omega | (simp; done) | (simp; omega)))⟩
  | true =>
    by_cases hl : roomOf k < (n : Int)
    · have e : chkLine k n = 2 := by simp [chkLine, hk, hl]
      rw [e]
      clear e
      go_enter Try.func18, Try.ntmps18
      go_wp2_with (go_at_call 45; refine (room_any _ _).mono ?_; rintro e w1 ⟨rfl, hb⟩; obtain ⟨hc, -⟩ := bcell hb)
      go_ret
      exact ⟨rfl, (by repeat' (first | exact Below.refl _ _ | assumption | refine Below.alloc1 ?_ _ | refine Below.drewN1 ?_ _ | refine Below.drew ?_ | refine Below.setCell1 ?_ ?_ _ | refine Below.via ?_ (by assumption) | refine Below.viaD ?_ (by assumption) | omega | (simp; done) | (simp; omega)))⟩
    · have e : chkLine k n = 0 := by simp [chkLine, hk, hl]
      rw [e]
      clear e
      go_enter Try.func18, Try.ntmps18
      go_wp2_with (go_at_call 45; refine (room_any _ _).mono ?_; rintro e w1 ⟨rfl, hb⟩; obtain ⟨hc, -⟩ := bcell hb)
      go_ret
      exact ⟨rfl, (by repeat' (first | exact Below.refl _ _ | assumption | refine Below.alloc1 ?_ _ | refine Below.drewN1 ?_ _ | refine Below.drew ?_ | refine Below.setCell1 ?_ ?_ _ | refine Below.via ?_ (by assumption) | refine Below.viaD ?_ (by assumption) | omega | (simp; done) | (simp; omega)))⟩
end Go.Proofs.Ytebklpbbglojmaa
