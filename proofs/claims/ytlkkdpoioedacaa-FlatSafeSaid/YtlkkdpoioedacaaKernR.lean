/- The reference's CheckWorld, SameLines, SameWorlds, OwnWorld. -/
import Derived.Test.YtlkkdpoioedacaaKernN
namespace Go.Proofs.Ytlkkdpoioedacaa
set_option linter.unusedVariables false
set_option linter.unusedSimpArgs false
open Go.ChangeShapes Go.WideShapes Go.ChangeAt Go.RowKit

set_option maxRecDepth 100000


theorem wrl_ext {x y : WD} (h1 : x.tick = y.tick) (h2 : x.cells.length = y.cells.length) (h3 : ∀ i, i < x.cells.length → (x.cells.getD i CD0).c = (y.cells.getD i CD0).c) (h4 : x.lines.map LD.vals = y.lines.map LD.vals) : x.wrl = y.wrl := by
  have e1 : x.cells.map CD.c = y.cells.map CD.c := list_eq_getD CD0.c (by simpa using h2) fun i hi => by rw [getD_map, getD_map]; exact h3 i (by simpa using hi)
  simp only [WD.wrl, h1, e1, h4]
theorem wrl_parts {x y : WD} (h : x.wrl = y.wrl) : x.tick = y.tick ∧ x.cells.length = y.cells.length ∧ (∀ i, (x.cells.getD i CD0).c = (y.cells.getD i CD0).c) ∧ x.lines.map LD.vals = y.lines.map LD.vals := by
  have h2 : x.cells.map CD.c = y.cells.map CD.c := congrArg Wrl.cells h
  refine ⟨congrArg Wrl.tick h, by simpa using congrArg List.length h2, fun i => ?_, congrArg Wrl.lines h⟩
  have := congrArg (fun r => r.getD i CD0.c) h2
  simpa only [getD_map] using this
set_option maxHeartbeats 8000000 in
theorem sameWorlds_any {x y : WD} {w : World} (hx : x.At w) (hy : y.At w) : Calls Try.prog 40 #[x.val, y.val] w fun e w' => e = .returned (.bool (decide (x.wrl = y.wrl))) ∧ Below w.heap.size w w' := by
  have hl3 := hx.cells.len
  unfold maxLen at hl3
  have hsl := fun w1 (hb : Below w.heap.size w w1) => sameLines_any (hx.lines.below hb) (hy.lines.below hb) (fun q hq => (hx.eachL q hq).below hb) (fun q hq => (hy.eachL q hq).below hb)
  rw [x.val_eq, y.val_eq]
  refine enter Try.func40 rfl Try.ntmps40 rfl fun a hF => ?_
  have hW := Wd.start w NoB
  refine c_sr ?_; refine pe (e_box hF hW rfl rfl rfl rfl ?_); intro b1 a wc hF hW; refine pe (e_box hF hW rfl rfl rfl rfl ?_); intro b2 a wc hF hW; refine pv hF hW (y_assign hF rfl) fun a hF => l_nil <| t_n <| c_s <| c_sr <| pv hF hW (y_fieldOwn hF rfl fa_78_0) fun a hF => pv hF hW (y_loadOwn hF rfl 1 rfl rfl Try.underlying3 rfl) fun a hF => pv hF hW (y_fieldOwn hF rfl fa_78_0) fun a hF => pv hF hW (y_loadOwn hF rfl 0 rfl rfl Try.underlying3 rfl) fun a hF => pv hF hW (y_neq hF rfl rfl) fun a hF => ?_; refine Fr.splitD hF ?_ ?_
  · intro h3 hF; refine pv hF hW (y_move hF rfl) fun a hF => pk hF (wn hF rfl rfl rfl) fun a hF => pk hF (wn hF rfl rfl rfl) fun a hF => pk hF (wn hF rfl rfl rfl) fun a hF => pk hF (wn hF rfl rfl rfl) fun a hF => pk hF (wn hF rfl rfl rfl) fun a hF => pk hF (wn hF rfl rfl rfl) fun a hF => pk hF (wn hF rfl rfl rfl) fun a hF => pv hF hW (y_pick hF rfl rfl) fun a hF => pv hF hW (y_move hF rfl) fun a hF => pk hF (wn hF rfl rfl rfl) fun a hF => pk hF (wn hF rfl rfl rfl) fun a hF => pk hF (wn hF rfl rfl rfl) fun a hF => pk hF (wn hF rfl rfl rfl) fun a hF => pk hF (wn hF rfl rfl rfl) fun a hF => pk hF (wn hF rfl rfl rfl) fun a hF => pv hF hW (y_pick hF rfl rfl) fun a hF => l_nil ?_; replace hF := hF.ks [0, 1, 2, 3, 4, 27] rfl; refine t_n <| c_t hF rfl <| c_sr ?_; replace hF := hF.drop 4; refine pv hF hW (y_assign hF rfl) fun a hF => l_nil <| t_n <| wp_ret <| t_r <| ret1 Try.results40 hF (rv_t hF rfl) ?_
    exact ⟨by rw [decide_eq_false fun e => by obtain ⟨e1, e2, -, e4⟩ := wrl_parts e; first | omega | simp_all], hW.below⟩
  · intro h3 hF; refine pv hF hW (y_move hF rfl) fun a hF => pvg hF hW (y_fieldOwn hF rfl fa_78_1) (ws hF rfl rfl) fun a hF => pvg hF hW (y_loadOwn hF rfl 1 rfl rfl Try.underlying75 rfl) (ws hF rfl rfl) fun a hF => pvg hF hW (y_len hF rfl Try.underlying75) (ws hF rfl rfl) fun a hF => pvg hF hW (y_fieldOwn hF rfl fa_78_1) (ws hF rfl rfl) fun a hF => pvg hF hW (y_loadOwn hF rfl 0 rfl rfl Try.underlying75 rfl) (ws hF rfl rfl) fun a hF => pvg hF hW (y_len hF rfl Try.underlying75) (ws hF rfl rfl) fun a hF => pvg hF hW (y_neq hF rfl rfl) (ws hF rfl rfl) fun a hF => ?_; refine Fr.splitD hF ?_ ?_
    · intro h4 hF; refine pv hF hW (y_pick hF rfl rfl) fun a hF => pv hF hW (y_move hF rfl) fun a hF => pk hF (wn hF rfl rfl rfl) fun a hF => pk hF (wn hF rfl rfl rfl) fun a hF => pk hF (wn hF rfl rfl rfl) fun a hF => pk hF (wn hF rfl rfl rfl) fun a hF => pk hF (wn hF rfl rfl rfl) fun a hF => pk hF (wn hF rfl rfl rfl) fun a hF => pv hF hW (y_pick hF rfl rfl) fun a hF => l_nil ?_; replace hF := hF.ks [0, 1, 2, 3, 4, 27] rfl; refine t_n <| c_t hF rfl <| c_sr ?_; replace hF := hF.drop 4; refine pv hF hW (y_assign hF rfl) fun a hF => l_nil <| t_n <| wp_ret <| t_r <| ret1 Try.results40 hF (rv_t hF rfl) ?_
      exact ⟨by rw [decide_eq_false fun e => by obtain ⟨e1, e2, -, e4⟩ := wrl_parts e; first | omega | simp_all], hW.below⟩
    · intro h4 hF; refine pv hF hW (y_pick hF rfl rfl) fun a hF => pv hF hW (y_move hF rfl) fun a hF => pvg hF hW (y_fieldOwn hF rfl fa_78_2) (ws hF rfl rfl) fun a hF => pvg hF hW (y_loadOwn hF rfl 1 rfl rfl Try.underlying76 rfl) (ws hF rfl rfl) fun a hF => pvg hF hW (y_fieldOwn hF rfl fa_78_2) (ws hF rfl rfl) fun a hF => pvg hF hW (y_loadOwn hF rfl 0 rfl rfl Try.underlying76 rfl) (ws hF rfl rfl) fun a hF => ?_; refine pe (e_call hF rfl rfl en_89 (by rfl) rfl rfl (hsl _ hW.below) ?_) (ws hF rfl rfl); rintro e w1 ⟨rfl, hb⟩; replace hW := hW.kept hb; clear hb; refine ⟨_, rfl, fun a hF => ?_⟩; refine Fr.splitB hF ?_ ?_
      · intro h5 hF; refine pvg hF hW (y_not hF rfl) (ws hF rfl rfl) fun a hF => ?_; replace hF := hF.ff; refine pv hF hW (y_pick hF rfl rfl) fun a hF => ?_; replace hF := hF.ff; refine l_nil ?_; replace hF := hF.ks [0, 1, 2, 3, 4, 27] rfl; refine t_n <| c_f hF rfl <| wp_skip <| t_n <| c_s <| c_sr <| pv hF hW (y_assign hF rfl) fun a hF => l_nil <| t_n <| wp_block ?_; refine c_loop (G := Nat) (fun k : Nat => [(5, .int .i64 (k : Int))]) (fun k : Nat => []) (fun k : Nat => k ≤ x.cells.length ∧ ∀ i, i < k → (x.cells.getD i CD0).c = (y.cells.getD i CD0).c) (fun k : Nat => x.cells.length - k) 0 (hF.ks [0, 1, 2, 3, 27] rfl) (Fr.cons hF (t := 5) rfl (by first | rfl | (simp; done)) (Fr.nil hF)) (hW) ?_ ?_
        · exact ⟨by omega, fun i hi => by omega⟩
        clear hF hW
        try clear a
        intro k a wc hC hF hW
        obtain ⟨hk, heq⟩ := hC
        refine c_s <| c_sr <| pv hF hW (y_move hF rfl) fun a hF => pv hF hW (y_fieldOwn hF rfl fa_78_1) fun a hF => pv hF hW (y_loadOwn hF rfl 1 rfl rfl Try.underlying75 rfl) fun a hF => pv hF hW (y_len hF rfl Try.underlying75) fun a hF => pv hF hW (y_lss hF rfl rfl) fun a hF => ?_; refine Fr.splitD hF ?_ ?_
        · intro h6 hF; refine l_nil ?_; replace hF := hF.ks [0, 1, 2, 3, 5, 27, 32] rfl; refine t_n <| c_t hF rfl <| wp_skip <| t_n <| c_s <| wp_block <| c_sd mixed_ok hW (hW) ?_
          clear hW; intro wc hW hS
          refine dv 0 rfl hF hS (y_fieldOwn hF rfl fa_78_1) fun a hF => dv 1 rfl hF hS (y_loadOwn hF rfl 1 rfl rfl Try.underlying75 rfl) fun a hF => dv 2 rfl hF hS (y_move hF rfl) fun a hF => dv 3 rfl hF hS (y_indexS hF rfl rfl (by first | omega | decide) Try.underlying75 sz_159 (fun w h => (hx.cellsR).wd h)) fun a hF => dv 4 rfl hF hS (y_loadRowW hF rfl (fun w h => (hx.cellsR).wd h) (by first | omega | decide) Try.underlying159 rfl (by show _ = some (encC _).length; rw [encC_len]; exact sz_159)) fun a hF => dv 5 rfl hF hS (y_fieldOwn hF rfl fa_78_1) fun a hF => dv 6 rfl hF hS (y_loadOwn hF rfl 0 rfl rfl Try.underlying75 rfl) fun a hF => dv 7 rfl hF hS (y_move hF rfl) fun a hF => dv 8 rfl hF hS (y_indexS hF rfl rfl (by first | omega | decide) Try.underlying75 sz_159 (fun w h => (hy.cellsR).wd h)) fun a hF => dv 9 rfl hF hS (y_loadRowW hF rfl (fun w h => (hy.cellsR).wd h) (by first | omega | decide) Try.underlying159 rfl (by show _ = some (encC _).length; rw [encC_len]; exact sz_159)) fun a hF => d_1 10 (by kernel_rfl) ?_; refine d_op rfl rfl (e_call hF rfl rfl en_90 (by rfl) rfl rfl (sameCells_any _ _ _ _ (x.cells.getD k CD0).wf (y.cells.getD k CD0).wf _ (Ints.below (hx.cell (k := k) (by omega)) hW.below) (Ints.below (hy.cell (k := k) (by omega)) hW.below)) ?_); rintro e w1 ⟨rfl, hb⟩; replace hW := hW.kept hb; clear hb; refine ⟨_, rfl, fun a hF => ?_⟩; refine Fr.splitB hF ?_ ?_
          · intro h7 hF; replace hS := hW; refine ⟨hS, ?_⟩; refine dv 11 rfl hF hS (y_not hF rfl) fun a hF => ?_; replace hF := hF.ff; clear hS; refine d_nil (by kernel_rfl) ?_; replace hF := hF.ks [0, 1, 2, 3, 5, 27, 32, 46] rfl; refine t_n <| c_f hF rfl <| wp_skip <| b_n <| t_n <| c_r <| pv hF hW (y_move hF rfl) fun a hF => pv hF hW (y_add hF rfl rfl (IntWalk.i64_in _ (by omega))) fun a hF => ?_; replace hF := hF.drop 5; refine pv hF hW (y_assign hF rfl) fun a hF => l_nil ?_; replace hF := hF.ks [0, 1, 2, 3, 5, 27, 32, 46] rfl; refine t_n ?_; refine ⟨(k + 1), ?_, ?_, ?_, ?_⟩
            · exact ⟨by omega, fun i hi => by rcases Nat.lt_or_ge i k with h | h; exact heq i h; (have hik : i = k := by omega); rw [hik]; simp_all⟩
            · first | omega | (dsimp only; omega)
            · exact Fr.app (Fr.cons hF (t := 5) rfl (by first | rfl | (simp; done) | omega) (Fr.nil hF)) (hF.ks [0, 1, 2, 3, 27] rfl)
            · exact hW
          · intro h7 hF; replace hS := hW; refine ⟨hS, ?_⟩; refine dv 11 rfl hF hS (y_not hF rfl) fun a hF => ?_; replace hF := hF.tt; clear hS; refine d_nil (by kernel_rfl) ?_; replace hF := hF.ks [0, 1, 2, 3, 5, 27, 32, 46] rfl; refine t_n <| c_t hF rfl <| c_sr <| pv hF hW (y_assign hF rfl) fun a hF => l_nil <| t_n <| wp_ret <| b_r <| t_r <| t_r <| b_r <| t_r <| ret1 Try.results40 hF (rv_t hF rfl) ?_
            exact ⟨by rw [decide_eq_false fun e => by have q := (wrl_parts e).2.2.1 k; simp_all], hW.below⟩
        · intro h6 hF; refine l_nil ?_; replace hF := hF.ks [0, 1, 2, 3, 5, 27, 32] rfl; refine t_n <| c_f hF rfl <| wp_exit <| t_x <| t_x <| b_h <| t_n <| c_sr <| pv hF hW (y_assign hF rfl) fun a hF => l_nil <| t_n <| wp_ret <| ret1 Try.results40 hF (rv_t hF rfl) ?_
          exact ⟨by rw [decide_eq_true (wrl_ext (by omega) (by omega) (fun i hi => heq i (by omega)) (by simp_all))], hW.below⟩
      · intro h5 hF; refine pvg hF hW (y_not hF rfl) (ws hF rfl rfl) fun a hF => ?_; replace hF := hF.tt; refine pv hF hW (y_pick hF rfl rfl) fun a hF => ?_; replace hF := hF.tt; refine l_nil ?_; replace hF := hF.ks [0, 1, 2, 3, 4, 27] rfl; refine t_n <| c_t hF rfl <| c_sr ?_; replace hF := hF.drop 4; refine pv hF hW (y_assign hF rfl) fun a hF => l_nil <| t_n <| wp_ret <| t_r <| ret1 Try.results40 hF (rv_t hF rfl) ?_
        exact ⟨by rw [decide_eq_false fun e => by obtain ⟨e1, e2, -, e4⟩ := wrl_parts e; first | omega | simp_all], hW.below⟩
end Go.Proofs.Ytlkkdpoioedacaa
