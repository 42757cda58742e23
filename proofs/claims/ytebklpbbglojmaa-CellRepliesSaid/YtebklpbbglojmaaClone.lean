/- slices.Clone hands back a row of its own that holds what came in. -/
import Derived.Test.YtebklpbbglojmaaProg
import Derived.Test.YtebklpbbglojmaaApp
namespace Go.Proofs.Ytebklpbbglojmaa
set_option linter.unusedVariables false
set_option linter.unusedSimpArgs false
open Go.RowKit
theorem info_int : (Try.prog.info? 3).map (fun i => (i.zero, i.size, i.bytes)) = some (some (.int .i64 0), 1, 8) := by kernel_rfl

theorem cloneInt_info : (Try.prog.info? 3).map (fun i => (i.zero, i.size, i.bytes)) = some (some (.int .i64 0), 1, 8) := by kernel_rfl
set_option maxHeartbeats 400000 in
theorem cloneInt_row (Ad : Option Addr) (n c : Nat) (xs : List Value) (w : World) (hr : RowAt w 1 Ad n xs) (h1 : ∀ u ∈ xs, u.oneCell' = true) (hm : n ≤ maxLen) (hby : n * 8 ≤ 140737488355328) (hc : n ≤ c) :
    Calls Try.prog 43 #[.slice Ad n c] w fun e w' => ∃ A' c', e = .returned (.slice A' n c') ∧ w'.ownsRow w.heap.size 3 1 (.slice A' n c') n xs ∧ Below w.heap.size w w' := by
  obtain ⟨i0, hi0, hz0, hz1, hz2⟩ := info_parts cloneInt_info
  cases Ad with
  | none =>
    have hn : n = 0 := by
      rcases Nat.eq_zero_or_pos n with h0 | h0
      · exact h0
      · obtain ⟨ad, h, _⟩ := hr.2 h0
        cases h
    subst hn
    have hx : xs = [] := List.eq_nil_of_length_eq_zero (by simpa using hr.1)
    subst hx
    have he := fun w => Lib.run_eql_slice_nil (P := Try.prog) w 22 _ none 0 c 0 0 Try.underlying22
    go_enter Try.func43, Try.ntmps43
    go_wp2_with fail
    go_ret
    exact ⟨_, _, rfl, World.ownsRow_nil _ _ _ _, Below.refl _ _⟩
  | some ad =>
    have he := fun w => Lib.run_eql_slice_nil (P := Try.prog) w 22 _ (some ad) n c 0 0 Try.underlying22
    have hr' := hr.below ((Below.refl w.heap.size w).alloc (Nat.le_refl _) (.cells #[] 3))
    go_enter Try.func43, Try.ntmps43
    go_wp2_with (at_builtin; refine wpList_append_row _ rfl _ _ _ rfl w.heap.size 3 i0 _ 1 8 Try.underlying22 hi0 hz0 hz1 hz2 rfl (by omega) _ 0 [] rfl (ownsRow_empty w 3 1) (some ad) n c xs rfl hr' h1 n xs (by omega) rfl (by omega) (by omega) (by simp) ?_; intro A1 c1 w1 hown1 hg1 hat1)
    go_ret
    have hb := below_grown (w0 := w) ((Below.refl w.heap.size w).alloc (Nat.le_refl _) _) (ownsRow_empty w 3 1) (Nat.le_refl _) hg1
    exact ⟨A1, c1, rfl, hown1, hb⟩

theorem cloneInt_any {w : World} {v : Value} {l : List Int} (h : Ints w v l) (hs : l.length ≤ 1048576) :
    Calls Try.prog 43 #[v] w fun e w' => ∃ A' c', e = .returned (.slice A' l.length c') ∧ w'.ownsRow w.heap.size 3 1 (.slice A' l.length c') l.length (l.map (.int .i64)) ∧ Below w.heap.size w w' := by
  obtain ⟨A, c, rfl, hc, hm, hr⟩ := h
  exact cloneInt_row A _ c _ w hr (oneCell_ints l) (by omega) (by omega) hc
end Go.Proofs.Ytebklpbbglojmaa
