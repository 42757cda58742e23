/- slices.Clone at []api.Chan, []api.Slot, []api.Instr and []int: what comes back lies in memory of its own. -/
import Derived.Test.YtebklpbbglojmaaEngT
import Derived.Test.YtebklpbbglojmaaSys
namespace Go.Proofs.Ytebklpbbglojmaa
set_option linter.unusedVariables false
set_option linter.unusedSimpArgs false
open Go.ChangeShapes Go.WideShapes Go.ChangeAt Go.RowKit
theorem bs_CloneS_22_0_  (w : World) : (Instr.buildSlice 22 0 #[]).run Try.prog w = .ok (.slice (some ⟨w.heap.size, 0, none⟩) 0 0) (w.alloc (.cells #[] 3)) := by kernel_rfl
theorem bs_CloneS_40_0_  (w : World) : (Instr.buildSlice 40 0 #[]).run Try.prog w = .ok (.slice (some ⟨w.heap.size, 0, none⟩) 0 0) (w.alloc (.cells #[] 95)) := by kernel_rfl
theorem bs_CloneS_65_0_  (w : World) : (Instr.buildSlice 65 0 #[]).run Try.prog w = .ok (.slice (some ⟨w.heap.size, 0, none⟩) 0 0) (w.alloc (.cells #[] 105)) := by kernel_rfl
theorem bs_CloneS_66_0_  (w : World) : (Instr.buildSlice 66 0 #[]).run Try.prog w = .ok (.slice (some ⟨w.heap.size, 0, none⟩) 0 0) (w.alloc (.cells #[] 83)) := by kernel_rfl
set_option maxRecDepth 100000

theorem Ins.one (q : Ins) : ∀ u ∈ q.cells, u.oneCell' = true := by simp [Ins.cells, Value.oneCell']
theorem Chn.one (q : Chn) : ∀ u ∈ q.cells, u.oneCell' = true := by simp [Chn.cells, Value.oneCell']
theorem Slt.one (q : Slt) : ∀ u ∈ q.cells, u.oneCell' = true := by simp [Slt.cells, Value.oneCell']
theorem encP_one (q : PP) : ∀ u ∈ encP q, u.oneCell' = true := by simp [encP, Value.oneCell']
theorem Flat.nil_of {α : Type} {enc : α → List Value} {size : Nat} {w : World} {A : Option Addr} {n c : Nat} {l : List α} (h : Flat enc size w (.slice A n c) l) (hA : A.isNone = true) : l = [] := by
  obtain rfl : n = l.length := h.len.1
  have hr := h.rowAt
  rcases Nat.eq_zero_or_pos l.length with h0 | h0
  · exact List.eq_nil_of_length_eq_zero h0
  · obtain ⟨ad, e, _⟩ := hr.2 h0
    subst e; cases hA
theorem Ints.nil_of {w : World} {A : Option Addr} {n c : Nat} {l : List Int} (h : Ints w (.slice A n c) l) (hA : A.isNone = true) : l = [] := by
  obtain rfl : n = l.length := h.len.1
  have hr := h.rowAt
  rcases Nat.eq_zero_or_pos l.length with h0 | h0
  · exact List.eq_nil_of_length_eq_zero h0
  · obtain ⟨ad, e, _⟩ := hr.2 h0
    subst e; cases hA
theorem OwnRes.flat {α : Type} {enc : α → List Value} {size : Nat} {T : TypeId} {w w' : World} {v : Value} {l : List α} (h : w'.ownsRow w.heap.size T size v l.length (l.flatMap enc)) : OwnRes w w' (fun u => Flat enc size u v l) :=
  (OwnRes.of_own h).mono fun _ h => Flat.of_own h rfl

theorem clone_chan {A : Option Addr} {n c : Nat} {l : List Chn} {w : World} (h : Flat Chn.cells 3 w (.slice A n c) l) (hs : l.length * 24 ≤ 140737488355328) :
    Calls Try.prog 85 #[.slice A n c] w fun e w' => ∃ A' c', e = .returned (.slice A' l.length c') ∧ Below w.heap.size w w' ∧ OwnRes w w' (fun u => Flat Chn.cells 3 u (.slice A' l.length c') l) := by
  obtain rfl : n = l.length := h.len.1
  have hl := h.len
  unfold maxLen at hl
  refine enter Try.func85 rfl Try.ntmps85 rfl (fun a hF => ?_)
  have hW := Wd.start w NoB
  refine c_sr ?_
  refine pv hF hW (y_assign hF rfl) (fun a hF => ?_)
  refine l_nil ?_
  refine t_n ?_
  refine c_s ?_
  refine c_sr ?_
  refine pv hF hW (y_move hF rfl) (fun a hF => ?_)
  refine pv hF hW (y_eqNilS hF rfl rfl Try.underlying65) (fun a hF => ?_)
  refine Fr.splitB hF ?_ ?_
  · intro h1 hF
    refine l_nil ?_
    replace hF := (hF.k 0 rfl (hF.k 2 rfl (hF.k 4 rfl hF.nil)))
    refine t_n ?_
    refine c_t hF rfl ?_
    refine c_sr ?_
    replace hF := hF.drop 2
    refine pv hF hW (y_assign hF rfl) (fun a hF => ?_)
    refine l_nil ?_
    refine t_n ?_
    refine wp_ret ?_
    refine t_r ?_
    refine ret1 Try.results85 hF (rv_t hF rfl) ?_
    obtain rfl := h.nil_of h1
    exact ⟨none, 0, rfl, hW.below, fun _ _ => Flat.nil_⟩
  · intro h1 hF
    refine l_nil ?_
    replace hF := (hF.k 0 rfl (hF.k 2 rfl (hF.k 4 rfl hF.nil)))
    refine t_n ?_
    refine c_f hF rfl ?_
    refine wp_skip ?_
    refine t_n ?_
    refine c_sr ?_
    refine pe (e_buildSlice hF hW rfl (fun w => bs_CloneS_65_0_  w) rfl rfl rfl ?_)
    intro b2 a wc hF hW
    refine pv hF hW (y_move hF rfl) (fun a hF => ?_)
    replace hW := hW.blk_row 0 rfl 3 0 rfl (by simp)
    refine pe (e_append hF hW 0 rfl rfl rfl Try.underlying65 inf_105 rfl (by decide) (h.rowAt.below hW.below) (by exact one_flat Chn.one l) (show _ = l.length by omega) (show _ = l.flatMap Chn.cells by simp) (by first | omega | (simp; omega)) (by unfold maxLen; first | omega | (simp; omega)) rfl rfl ?_)
    intro A3 c4 a wc hF hW
    replace hF := hF.drop 2
    refine pv hF hW (y_assign hF rfl) (fun a hF => ?_)
    refine l_nil ?_
    replace hF := (hF.k 0 rfl (hF.k 2 rfl (hF.k 4 rfl hF.nil)))
    refine t_n ?_
    refine wp_ret ?_
    refine ret1 Try.results85 hF (rv_t hF rfl) ?_
    exact ⟨_, _, rfl, hW.below, OwnRes.flat (hW.row_own 0 rfl)⟩
theorem clone_slot {A : Option Addr} {n c : Nat} {l : List Slt} {w : World} (h : Flat Slt.cells 2 w (.slice A n c) l) (hs : l.length * 16 ≤ 140737488355328) :
    Calls Try.prog 86 #[.slice A n c] w fun e w' => ∃ A' c', e = .returned (.slice A' l.length c') ∧ Below w.heap.size w w' ∧ OwnRes w w' (fun u => Flat Slt.cells 2 u (.slice A' l.length c') l) := by
  obtain rfl : n = l.length := h.len.1
  have hl := h.len
  unfold maxLen at hl
  refine enter Try.func86 rfl Try.ntmps86 rfl (fun a hF => ?_)
  have hW := Wd.start w NoB
  refine c_sr ?_
  refine pv hF hW (y_assign hF rfl) (fun a hF => ?_)
  refine l_nil ?_
  refine t_n ?_
  refine c_s ?_
  refine c_sr ?_
  refine pv hF hW (y_move hF rfl) (fun a hF => ?_)
  refine pv hF hW (y_eqNilS hF rfl rfl Try.underlying66) (fun a hF => ?_)
  refine Fr.splitB hF ?_ ?_
  · intro h1 hF
    refine l_nil ?_
    replace hF := (hF.k 0 rfl (hF.k 2 rfl (hF.k 4 rfl hF.nil)))
    refine t_n ?_
    refine c_t hF rfl ?_
    refine c_sr ?_
    replace hF := hF.drop 2
    refine pv hF hW (y_assign hF rfl) (fun a hF => ?_)
    refine l_nil ?_
    refine t_n ?_
    refine wp_ret ?_
    refine t_r ?_
    refine ret1 Try.results86 hF (rv_t hF rfl) ?_
    obtain rfl := h.nil_of h1
    exact ⟨none, 0, rfl, hW.below, fun _ _ => Flat.nil_⟩
  · intro h1 hF
    refine l_nil ?_
    replace hF := (hF.k 0 rfl (hF.k 2 rfl (hF.k 4 rfl hF.nil)))
    refine t_n ?_
    refine c_f hF rfl ?_
    refine wp_skip ?_
    refine t_n ?_
    refine c_sr ?_
    refine pe (e_buildSlice hF hW rfl (fun w => bs_CloneS_66_0_  w) rfl rfl rfl ?_)
    intro b2 a wc hF hW
    refine pv hF hW (y_move hF rfl) (fun a hF => ?_)
    replace hW := hW.blk_row 0 rfl 2 0 rfl (by simp)
    refine pe (e_append hF hW 0 rfl rfl rfl Try.underlying66 inf_83 rfl (by decide) (h.rowAt.below hW.below) (by exact one_flat Slt.one l) (show _ = l.length by omega) (show _ = l.flatMap Slt.cells by simp) (by first | omega | (simp; omega)) (by unfold maxLen; first | omega | (simp; omega)) rfl rfl ?_)
    intro A3 c4 a wc hF hW
    replace hF := hF.drop 2
    refine pv hF hW (y_assign hF rfl) (fun a hF => ?_)
    refine l_nil ?_
    replace hF := (hF.k 0 rfl (hF.k 2 rfl (hF.k 4 rfl hF.nil)))
    refine t_n ?_
    refine wp_ret ?_
    refine ret1 Try.results86 hF (rv_t hF rfl) ?_
    exact ⟨_, _, rfl, hW.below, OwnRes.flat (hW.row_own 0 rfl)⟩
theorem clone_instr {A : Option Addr} {n c : Nat} {l : List Ins} {w : World} (h : Flat Ins.cells 4 w (.slice A n c) l) (hs : l.length * 32 ≤ 140737488355328) :
    Calls Try.prog 87 #[.slice A n c] w fun e w' => ∃ A' c', e = .returned (.slice A' l.length c') ∧ Below w.heap.size w w' ∧ OwnRes w w' (fun u => Flat Ins.cells 4 u (.slice A' l.length c') l) := by
  obtain rfl : n = l.length := h.len.1
  have hl := h.len
  unfold maxLen at hl
  refine enter Try.func87 rfl Try.ntmps87 rfl (fun a hF => ?_)
  have hW := Wd.start w NoB
  refine c_sr ?_
  refine pv hF hW (y_assign hF rfl) (fun a hF => ?_)
  refine l_nil ?_
  refine t_n ?_
  refine c_s ?_
  refine c_sr ?_
  refine pv hF hW (y_move hF rfl) (fun a hF => ?_)
  refine pv hF hW (y_eqNilS hF rfl rfl Try.underlying40) (fun a hF => ?_)
  refine Fr.splitB hF ?_ ?_
  · intro h1 hF
    refine l_nil ?_
    replace hF := (hF.k 0 rfl (hF.k 2 rfl (hF.k 4 rfl hF.nil)))
    refine t_n ?_
    refine c_t hF rfl ?_
    refine c_sr ?_
    replace hF := hF.drop 2
    refine pv hF hW (y_assign hF rfl) (fun a hF => ?_)
    refine l_nil ?_
    refine t_n ?_
    refine wp_ret ?_
    refine t_r ?_
    refine ret1 Try.results87 hF (rv_t hF rfl) ?_
    obtain rfl := h.nil_of h1
    exact ⟨none, 0, rfl, hW.below, fun _ _ => Flat.nil_⟩
  · intro h1 hF
    refine l_nil ?_
    replace hF := (hF.k 0 rfl (hF.k 2 rfl (hF.k 4 rfl hF.nil)))
    refine t_n ?_
    refine c_f hF rfl ?_
    refine wp_skip ?_
    refine t_n ?_
    refine c_sr ?_
    refine pe (e_buildSlice hF hW rfl (fun w => bs_CloneS_40_0_  w) rfl rfl rfl ?_)
    intro b2 a wc hF hW
    refine pv hF hW (y_move hF rfl) (fun a hF => ?_)
    replace hW := hW.blk_row 0 rfl 4 0 rfl (by simp)
    refine pe (e_append hF hW 0 rfl rfl rfl Try.underlying40 inf_95 rfl (by decide) (h.rowAt.below hW.below) (by exact one_flat Ins.one l) (show _ = l.length by omega) (show _ = l.flatMap Ins.cells by simp) (by first | omega | (simp; omega)) (by unfold maxLen; first | omega | (simp; omega)) rfl rfl ?_)
    intro A3 c4 a wc hF hW
    replace hF := hF.drop 2
    refine pv hF hW (y_assign hF rfl) (fun a hF => ?_)
    refine l_nil ?_
    replace hF := (hF.k 0 rfl (hF.k 2 rfl (hF.k 4 rfl hF.nil)))
    refine t_n ?_
    refine wp_ret ?_
    refine ret1 Try.results87 hF (rv_t hF rfl) ?_
    exact ⟨_, _, rfl, hW.below, OwnRes.flat (hW.row_own 0 rfl)⟩
theorem clone_int {A : Option Addr} {n c : Nat} {l : List Int} {w : World} (h : Ints w (.slice A n c) l) (hs : l.length * 8 ≤ 140737488355328) :
    Calls Try.prog 43 #[.slice A n c] w fun e w' => ∃ A' c', e = .returned (.slice A' l.length c') ∧ Below w.heap.size w w' ∧ OwnRes w w' (fun u => Ints u (.slice A' l.length c') l) := by
  obtain rfl : n = l.length := h.len.1
  have hl := h.len
  unfold maxLen at hl
  refine enter Try.func43 rfl Try.ntmps43 rfl (fun a hF => ?_)
  have hW := Wd.start w NoB
  refine c_sr ?_
  refine pv hF hW (y_assign hF rfl) (fun a hF => ?_)
  refine l_nil ?_
  refine t_n ?_
  refine c_s ?_
  refine c_sr ?_
  refine pv hF hW (y_move hF rfl) (fun a hF => ?_)
  refine pv hF hW (y_eqNilS hF rfl rfl Try.underlying22) (fun a hF => ?_)
  refine Fr.splitB hF ?_ ?_
  · intro h1 hF
    refine l_nil ?_
    replace hF := (hF.k 0 rfl (hF.k 2 rfl (hF.k 4 rfl hF.nil)))
    refine t_n ?_
    refine c_t hF rfl ?_
    refine c_sr ?_
    replace hF := hF.drop 2
    refine pv hF hW (y_assign hF rfl) (fun a hF => ?_)
    refine l_nil ?_
    refine t_n ?_
    refine wp_ret ?_
    refine t_r ?_
    refine ret1 Try.results43 hF (rv_t hF rfl) ?_
    obtain rfl := h.nil_of h1
    exact ⟨none, 0, rfl, hW.below, fun _ _ => Ints.nil_⟩
  · intro h1 hF
    refine l_nil ?_
    replace hF := (hF.k 0 rfl (hF.k 2 rfl (hF.k 4 rfl hF.nil)))
    refine t_n ?_
    refine c_f hF rfl ?_
    refine wp_skip ?_
    refine t_n ?_
    refine c_sr ?_
    refine pe (e_buildSlice hF hW rfl (fun w => bs_CloneS_22_0_  w) rfl rfl rfl ?_)
    intro b2 a wc hF hW
    refine pv hF hW (y_move hF rfl) (fun a hF => ?_)
    replace hW := hW.blk_row 0 rfl 1 0 rfl (by simp)
    refine pe (e_append hF hW 0 rfl rfl rfl Try.underlying22 inf_3 rfl (by decide) (h.rowAt.below hW.below) (by exact oneCell_ints l) (show _ = l.length by omega) (show _ = l.map (.int .i64) by simp) (by first | omega | (simp; omega)) (by unfold maxLen; first | omega | (simp; omega)) rfl rfl ?_)
    intro A3 c4 a wc hF hW
    replace hF := hF.drop 2
    refine pv hF hW (y_assign hF rfl) (fun a hF => ?_)
    refine l_nil ?_
    replace hF := (hF.k 0 rfl (hF.k 2 rfl (hF.k 4 rfl hF.nil)))
    refine t_n ?_
    refine wp_ret ?_
    refine ret1 Try.results43 hF (rv_t hF rfl) ?_
    exact ⟨_, _, rfl, hW.below, (OwnRes.of_own (hW.row_own 0 rfl)).mono fun _ h => Ints.of_own h⟩
end Go.Proofs.Ytebklpbbglojmaa
