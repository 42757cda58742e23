/- Small functions of the reference: within, SameInts; what is so of a right program. -/
import Derived.Test.YtebklpbbglojmaaTys
import Derived.Test.YtebklpbbglojmaaCodeChk
import Derived.Test.YtebklpbbglojmaaSame
namespace Go.Proofs.Ytebklpbbglojmaa
set_option linter.unusedVariables false
set_option linter.unusedSimpArgs false
open Go.RowKit

set_option maxRecDepth 100000

theorem withinD_any (n lo hi : Int) (w : World) : Calls Try.prog 50 #[.int .i64 n, .int .i64 lo, .int .i64 hi] w fun e w' => e = .returned (.bool (decide (lo ≤ n ∧ n ≤ hi))) ∧ Below w.heap.size w w' := by
  refine enter Try.func50 rfl Try.ntmps50 rfl (fun a hF => ?_)
  have hW := Wd.start w NoB
  refine c_sr ?_
  refine pv hF hW (y_assign hF rfl) (fun a hF => ?_)
  refine l_nil ?_
  refine t_n ?_
  refine c_sr ?_
  refine pv hF hW (y_move hF rfl) (fun a hF => ?_)
  refine pv hF hW (y_move hF rfl) (fun a hF => ?_)
  refine pv hF hW (y_geq hF rfl rfl) (fun a hF => ?_)
  refine Fr.splitD hF ?_ ?_
  · intro h1 hF
    refine pv hF hW (y_move hF rfl) (fun a hF => ?_)
    refine pv hF hW (y_move hF rfl) (fun a hF => ?_) (ws hF rfl rfl)
    refine pv hF hW (y_move hF rfl) (fun a hF => ?_) (ws hF rfl rfl)
    refine pv hF hW (y_leq hF rfl rfl) (fun a hF => ?_) (ws hF rfl rfl)
    refine Fr.splitD hF ?_ ?_
    · intro h2 hF
      refine pv hF hW (y_pick hF rfl rfl) (fun a hF => ?_)
      replace hF := hF.drop 6
      refine pv hF hW (y_assign hF rfl) (fun a hF => ?_)
      refine l_nil ?_
      replace hF := (hF.k 0 rfl (hF.k 1 rfl (hF.k 2 rfl (hF.k 6 rfl hF.nil))))
      refine t_n ?_
      refine wp_ret ?_
      refine ret1 Try.results50 hF (rv_t hF rfl) ?_
      exact ⟨by simp [*], hW.below⟩
    · intro h2 hF
      refine pv hF hW (y_pick hF rfl rfl) (fun a hF => ?_)
      replace hF := hF.drop 6
      refine pv hF hW (y_assign hF rfl) (fun a hF => ?_)
      refine l_nil ?_
      replace hF := (hF.k 0 rfl (hF.k 1 rfl (hF.k 2 rfl (hF.k 6 rfl hF.nil))))
      refine t_n ?_
      refine wp_ret ?_
      refine ret1 Try.results50 hF (rv_t hF rfl) ?_
      exact ⟨by simp [*], hW.below⟩
  · intro h1 hF
    refine pv hF hW (y_move hF rfl) (fun a hF => ?_)
    refine p_skip hF (wn hF rfl rfl rfl) rfl rfl (fun a hF => ?_)
    refine p_skip hF (wn hF rfl rfl rfl) rfl rfl (fun a hF => ?_)
    refine p_skip hF (wn hF rfl rfl rfl) rfl rfl (fun a hF => ?_)
    refine pv hF hW (y_pick hF rfl rfl) (fun a hF => ?_)
    replace hF := hF.drop 6
    refine pv hF hW (y_assign hF rfl) (fun a hF => ?_)
    refine l_nil ?_
    replace hF := (hF.k 0 rfl (hF.k 1 rfl (hF.k 2 rfl (hF.k 6 rfl hF.nil))))
    refine t_n ?_
    refine wp_ret ?_
    refine ret1 Try.results50 hF (rv_t hF rfl) ?_
    exact ⟨by simp [*], hW.below⟩
theorem firstErr_all : ∀ (l : List Ins), firstErr l = 0 → ∀ i ∈ l, chkIns i = 0
  | [], _, _, h => by cases h
  | x :: r, h0, i, h => by
    unfold firstErr at h0
    by_cases hx : chkIns x = 0
    · rw [if_pos hx] at h0
      rcases List.mem_cons.1 h with rfl | h
      · exact hx
      · exact firstErr_all r h0 i h
    · rw [if_neg hx] at h0
      exact absurd h0 hx
theorem chkCode_all {l : List Ins} (h : chkCode l = 0) : (1 ≤ l.length ∧ l.length ≤ 20) ∧ ∀ i ∈ l, chkIns i = 0 := by
  unfold chkCode at h
  split at h
  · cases h
  · exact ⟨by omega, firstErr_all l h⟩
theorem sameIntsB {w : World} {u v : Value} {l m : List Int} (hu : Ints w u l) (hv : Ints w v m) :
    Calls Try.prog 19 #[u, v] w fun e w' => e = .returned (.bool (decide (l = m))) ∧ Below w.heap.size w w' :=
  (sameInts_any hu hv).mono fun e w' ⟨he, hd⟩ => ⟨he, hd.below _⟩

end Go.Proofs.Ytebklpbbglojmaa
