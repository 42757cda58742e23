/- The law KernMore answers true for every input. -/
import Derived.Test.YtoecpblabajlmaaKernO
namespace Go.Proofs.Ytoecpblabajlmaa
set_option linter.unusedVariables false
set_option linter.unusedSimpArgs false
open Go.ChangeShapes Go.WideShapes Go.ChangeAt Go.RowKit

set_option maxRecDepth 100000

set_option maxHeartbeats 8000000 in
theorem kernMore_run (x : SysD) (n more : Int) (w : World) (hx : x.At w) (hcm : -9223372036854775808 ≤ more ∧ more ≤ 9223372036854775807) :
    Calls Try.prog 4 #[x.val, .int .i64 n, .int .i64 more] w fun e w' => e = .returned (.bool true) ∧ Below w.heap.size w w' := by
  by_cases h0 : runErr x.sys n = 0
  · obtain ⟨hk, hn0, hn1⟩ := runErr_zero h0
    obtain ⟨m, rfl⟩ := Int.eq_ofNat_of_zero_le hn0
    have hrun := fun w1 (hb : Below w.heap.size w w1) (z : Int) (k : Nat) (hz : z = k) (hl : k ≤ 300) => run_ok (hx.below hb) hz hk hl
    have hst := fun w1 (hb : Below w.heap.size w w1) (y : WD) (k : Nat) (hy : y.At w1) (hw : y.wrl = runW x.sys k) (hl : k < 300) => step_ok (hx.below hb) hy hw (run_step hk hl).1
    have hchk := fun w1 (hb : Below w.heap.size w w1) (y : WD) (hy : y.At w1) => kernCheck_any (hx.below hb) hy
    have hck := fun (y : WD) (k : Nat) (hw : y.wrl = runW x.sys k) (hl : k ≤ 300) => (congrArg (chkWorld x.sys) hw).trans (run_chk hk hl)
    have htk := fun (y : WD) (k : Nat) (hw : y.wrl = runW x.sys k) (hl : k ≤ 300) => (show y.tick = (k : Int) from (congrArg Wrl.tick hw).trans (runW_right hk k hl).2)
    rw [x.val_eq] at *
    refine enter Try.func4 rfl Try.ntmps4 rfl (fun a hF => ?_)
    have hW := Wd.start w NoB
    refine c_sr ?_; refine pe (e_box hF hW rfl rfl rfl rfl ?_); intro b1 a wc hF hW; refine pv hF hW (y_assign hF rfl) (fun a hF => ?_); refine l_nil ?_; refine t_n ?_; refine c_sr ?_; refine pv hF hW (y_loadAll hF rfl 0 rfl Try.underlying26 rfl sz_26) (fun a hF => ?_); refine pv hF hW (y_move hF rfl) (fun a hF => ?_); refine pe (e_call hF rfl rfl en_16 (by rfl) rfl rfl (hrun _ hW.below _ m rfl (by omega)) ?_); rintro e w1 ⟨y0, rfl, hy0, hN⟩; replace hW := hW.comb3 hN; replace hW := hW.own_world; refine ⟨_, rfl, fun a hF => ?_⟩; replace hF := Fr.cast (v' := .tuple #[.agg #[.int .i64 y0.tick, .slice y0.ca y0.cells.length y0.cc, .slice y0.la y0.lines.length y0.lc], .int .i64 0]) rfl hF; refine pv hF hW (y_move hF rfl) (fun a hF => ?_); refine pv hF hW (y_extract hF rfl rfl) (fun a hF => ?_); refine pv hF hW (y_extract hF rfl rfl) (fun a hF => ?_); refine pe (e_alloc hF hW ze_30 rfl rfl rfl ?_)
    intro b2 a wc hF hW; refine pe (e_storeAll rfl hF hW rfl rfl 0 rfl rfl rfl (by kernel_rfl) sz_30 ?_); intro wc hW; refine pv hF hW (y_assign hF rfl) (fun a hF => ?_); refine l_nil ?_; replace hF := hF.ks [0, 1, 2, 3, 6, 7, 8] rfl; refine t_n ?_; refine c_s ?_; refine c_sr ?_; refine pv hF hW (y_move hF rfl) (fun a hF => ?_); refine pv hF hW (y_neq hF rfl rfl) (fun a hF => ?_); replace hF := hF.ff; refine l_nil ?_; replace hF := hF.ks [0, 1, 2, 3, 6, 7, 8, 22] rfl; refine t_n ?_; refine c_f hF rfl ?_; refine wp_skip ?_; refine t_n ?_; refine c_sr ?_; refine pv hF hW (y_move hF rfl) (fun a hF => ?_); refine pv hF hW (y_move hF rfl) (fun a hF => ?_); refine pv hF hW (y_sub hF rfl rfl (IntWalk.i64_in _ (by omega))) (fun a hF => ?_); refine pv hF hW (y_add hF rfl rfl (IntWalk.i64_in _ (by omega))) (fun a hF => ?_); refine pv hF hW (y_min hF rfl rfl) (fun a hF => ?_)
    refine pe (e_call hF rfl rfl en_17 (by rfl) rfl rfl (chooseN_any hcm (by split <;> omega) _) ?_); rintro e w1 ⟨⟨k0, rfl, hk0, hk1⟩, hb⟩; replace hW := hW.kept hb; clear hb; refine ⟨_, rfl, fun a hF => ?_⟩
    obtain ⟨k, rfl⟩ := Int.eq_ofNat_of_zero_le hk0
    have hk3 : (k : Int) < 24 ∧ m + (k : Int) ≤ 300 := by (split at hk1 <;> omega)
    clear hk0 hk1; refine pv hF hW (y_assign hF rfl) (fun a hF => ?_); refine l_nil ?_; replace hF := hF.ks [0, 1, 2, 3, 6, 7, 8, 9, 22] rfl; refine t_n ?_; refine c_sr ?_; refine pv hF hW (y_loadAll hF rfl 2 rfl Try.underlying26 rfl sz_26) (fun a hF => ?_); refine pv hF hW (y_move hF rfl) (fun a hF => ?_); refine pv hF hW (y_move hF rfl) (fun a hF => ?_); refine pv hF hW (y_add hF rfl rfl (IntWalk.i64_in _ (by omega))) (fun a hF => ?_); refine pe (e_call hF rfl rfl en_16 (by rfl) rfl rfl (hrun _ hW.below _ (m + k) (by omega) (by omega)) ?_); rintro e w1 ⟨y9, rfl, hy9, hN⟩; replace hW := hW.comb3 hN; replace hW := hW.own_world; refine ⟨_, rfl, fun a hF => ?_⟩; replace hF := Fr.cast (v' := .tuple #[.agg #[.int .i64 y9.tick, .slice y9.ca y9.cells.length y9.cc, .slice y9.la y9.lines.length y9.lc], .int .i64 0]) rfl hF; refine pv hF hW (y_move hF rfl) (fun a hF => ?_)
    refine pv hF hW (y_extract hF rfl rfl) (fun a hF => ?_); refine pv hF hW (y_extract hF rfl rfl) (fun a hF => ?_); refine pe (e_alloc hF hW ze_30 rfl rfl rfl ?_); intro b3 a wc hF hW; refine pe (e_storeAll rfl hF hW rfl rfl 0 rfl rfl rfl (by kernel_rfl) sz_30 ?_); intro wc hW; refine pv hF hW (y_assign hF rfl) (fun a hF => ?_); refine l_nil ?_; replace hF := hF.ks [0, 1, 2, 3, 6, 7, 8, 9, 10, 11, 22] rfl; refine t_n ?_; refine c_s ?_; refine c_sr ?_; refine pv hF hW (y_assign hF rfl) (fun a hF => ?_); refine l_nil ?_; refine t_n ?_; refine wp_block ?_; replace hW := hW.front 3 rfl rfl; replace hW := hW.front 3 rfl rfl
    refine c_loop (G := Nat × WD) (fun (gq : Nat × WD) => match gq with | ⟨i, y⟩ => [(12, .int .i64 (i : Int))]) (fun (gq : Nat × WD) => match gq with | ⟨i, y⟩ => [.blk b2 30 [.int .i64 y.tick, .slice y.ca y.cells.length y.cc, .slice y.la y.lines.length y.lc], .res y.At]) (fun (gq : Nat × WD) => match gq with | ⟨i, y⟩ => i ≤ k ∧ y.wrl = runW x.sys (m + i)) (fun (gq : Nat × WD) => match gq with | ⟨i, y⟩ => k - i) (0, y0) (Fr.cons hF (t := 0) rfl rfl (Fr.cons hF (t := 1) rfl rfl (Fr.cons hF (t := 2) rfl rfl (Fr.cons hF (t := 3) rfl rfl (Fr.cons hF (t := 7) rfl rfl (Fr.cons hF (t := 8) rfl rfl (Fr.cons hF (t := 9) rfl rfl (Fr.cons hF (t := 10) rfl rfl (Fr.cons hF (t := 11) rfl rfl (Fr.cons hF (t := 22) rfl rfl (Fr.nil hF))))))))))) (Fr.cons hF (t := 12) rfl (by first | rfl | (simp; done)) (Fr.nil hF)) (hW) ?_ ?_
    · exact ⟨by omega, hy0⟩
    clear hF hW
    try clear a
    intro gq a wc hC hF hW
    obtain ⟨i, y⟩ := gq
    dsimp only at hC
    obtain ⟨hik, hy⟩ := hC
    refine c_s ?_; refine c_sr ?_; refine pv hF hW (y_move hF rfl) (fun a hF => ?_); refine pv hF hW (y_move hF rfl) (fun a hF => ?_); refine pv hF hW (y_lss hF rfl rfl) (fun a hF => ?_); refine Fr.splitD hF ?_ ?_
    · intro h4 hF; refine l_nil ?_; replace hF := hF.ks [0, 1, 2, 3, 7, 8, 9, 10, 11, 12, 22, 40] rfl; refine t_n ?_; refine c_t hF rfl ?_; refine wp_skip ?_; refine t_n ?_; refine c_s ?_; refine wp_block ?_; refine c_sr ?_; refine pv hF hW (y_loadAll hF rfl 4 rfl Try.underlying26 rfl sz_26) (fun a hF => ?_); refine pv hF hW (y_loadAll hF rfl 0 rfl Try.underlying30 rfl sz_30) (fun a hF => ?_); refine pe (e_call hF rfl rfl en_18 (by rfl) rfl rfl (hst _ hW.below y (m + i) (hW.res 1 rfl) hy (by omega)) ?_); rintro e w1 ⟨y2, rfl, hy2, hN⟩; replace hW := hW.del 1 rfl; replace hW := hW.comb3 hN; replace hW := hW.own_world; refine ⟨_, rfl, fun a hF => ?_⟩; replace hF := Fr.cast (v' := .tuple #[.agg #[.int .i64 y2.tick, .slice y2.ca y2.cells.length y2.cc, .slice y2.la y2.lines.length y2.lc], .int .i64 0]) rfl hF; refine pv hF hW (y_move hF rfl) (fun a hF => ?_)
      refine pv hF hW (y_extract hF rfl rfl) (fun a hF => ?_); refine pv hF hW (y_extract hF rfl rfl) (fun a hF => ?_); refine pe (e_alloc hF hW ze_30 rfl rfl rfl ?_); intro b5 a wc hF hW; refine pe (e_storeAll rfl hF hW rfl rfl 0 rfl rfl rfl (by kernel_rfl) sz_30 ?_); intro wc hW; refine pv hF hW (y_assign hF rfl) (fun a hF => ?_); refine l_nil ?_; replace hF := hF.ks [0, 1, 2, 3, 7, 8, 9, 10, 11, 12, 13, 14, 22, 40] rfl; refine t_n ?_; refine c_s ?_
      replace hy2 : y2.wrl = runW x.sys (m + (i + 1)) := hy2
      have ht2 := htk y2 _ hy2 (by omega)
      have ht1 := htk y _ hy (by omega)
      have hc2 := hchk
      have hck2 := hck y2 _ hy2 (by omega)
      refine c_sr ?_; refine pv hF hW (y_move hF rfl) (fun a hF => ?_); refine pv hF hW (y_neq hF rfl rfl) (fun a hF => ?_); replace hF := hF.ff; refine pv hF hW (y_move hF rfl) (fun a hF => ?_); replace hF := hF.ff; refine pv hF hW (y_fieldOwn hF rfl fa_30_0) (fun a hF => ?_) (ws hF rfl rfl); refine pv hF hW (y_loadOwn hF rfl 0 rfl rfl Try.underlying3 rfl) (fun a hF => ?_) (ws hF rfl rfl); refine pv hF hW (y_fieldOwn hF rfl fa_30_0) (fun a hF => ?_) (ws hF rfl rfl); refine pv hF hW (y_loadOwn hF rfl 2 rfl rfl Try.underlying3 rfl) (fun a hF => ?_) (ws hF rfl rfl); refine pv hF hW (y_add hF rfl rfl (IntWalk.i64_in _ (by omega))) (fun a hF => ?_) (ws hF rfl rfl); refine pv hF hW (y_neq hF rfl rfl) (fun a hF => ?_) (ws hF rfl rfl); refine Fr.splitD hF ?_ ?_
      · intro h6 hF; exfalso
        omega
      · intro h6 hF; refine pv hF hW (y_pick hF rfl rfl) (fun a hF => ?_); refine pv hF hW (y_move hF rfl) (fun a hF => ?_); refine pv hF hW (y_loadAll hF rfl 5 rfl Try.underlying26 rfl sz_26) (fun a hF => ?_) (ws hF rfl rfl); refine pv hF hW (y_loadAll hF rfl 0 rfl Try.underlying30 rfl sz_30) (fun a hF => ?_) (ws hF rfl rfl); refine pe (e_call hF rfl rfl en_13 (by rfl) rfl rfl (hchk _ hW.below y2 (hW.res 1 rfl)) ?_) (ws hF rfl rfl); rintro e w1 ⟨rfl, hb⟩; replace hW := hW.kept hb; clear hb; refine ⟨_, rfl, fun a hF => ?_⟩
        rw [hck2] at hF
        refine pv hF hW (y_neq hF rfl rfl) (fun a hF => ?_) (ws hF rfl rfl); replace hF := hF.ff; refine pv hF hW (y_pick hF rfl rfl) (fun a hF => ?_); replace hF := hF.ff; refine l_nil ?_; replace hF := hF.ks [0, 1, 2, 3, 7, 8, 9, 10, 11, 12, 13, 14, 22, 40, 64] rfl; refine t_n ?_; refine c_f hF rfl ?_; refine wp_skip ?_; refine t_n ?_; refine c_r ?_; refine pv hF hW (y_loadAll hF rfl 0 rfl Try.underlying30 rfl sz_30) (fun a hF => ?_); refine pe (e_storeAll rfl hF hW rfl rfl 2 rfl rfl rfl (by kernel_rfl) sz_30 ?_); intro wc hW; refine l_nil ?_; replace hF := hF.ks [0, 1, 2, 3, 7, 8, 9, 10, 11, 12, 13, 14, 22, 40, 64] rfl; refine b_n ?_; refine t_n ?_; refine c_r ?_; refine pv hF hW (y_move hF rfl) (fun a hF => ?_); refine pv hF hW (y_add hF rfl rfl (IntWalk.i64_in _ (by omega))) (fun a hF => ?_); replace hF := hF.drop 12; refine pv hF hW (y_assign hF rfl) (fun a hF => ?_); refine l_nil ?_
        replace hF := hF.ks [0, 1, 2, 3, 7, 8, 9, 10, 11, 12, 13, 14, 22, 40, 64] rfl; replace hW := hW.del 0 rfl; replace hW := hW.front 4 rfl rfl; replace hW := hW.front 4 rfl rfl; replace hW := hW.front 4 rfl rfl; replace hW := hW.front 3 rfl rfl; replace hW := hW.front 4 rfl rfl; refine t_n ?_; refine ⟨(i + 1, y2), ?_, ?_, ?_, ?_⟩
        · exact ⟨by omega, hy2⟩
        · first | omega | (dsimp only; omega)
        · exact Fr.app (Fr.cons hF (t := 12) rfl (by first | rfl | (simp; done) | omega) (Fr.nil hF)) (Fr.cons hF (t := 0) rfl rfl (Fr.cons hF (t := 1) rfl rfl (Fr.cons hF (t := 2) rfl rfl (Fr.cons hF (t := 3) rfl rfl (Fr.cons hF (t := 7) rfl rfl (Fr.cons hF (t := 8) rfl rfl (Fr.cons hF (t := 9) rfl rfl (Fr.cons hF (t := 10) rfl rfl (Fr.cons hF (t := 11) rfl rfl (Fr.cons hF (t := 22) rfl rfl (Fr.nil hF)))))))))))
        · exact hW
    · intro h4 hF; refine l_nil ?_; replace hF := hF.ks [0, 1, 2, 3, 7, 8, 9, 10, 11, 12, 22, 40] rfl; refine t_n ?_; refine c_f hF rfl ?_; refine wp_exit ?_; refine t_x ?_; refine t_x ?_; refine b_h ?_; refine t_n ?_; refine c_sr ?_; refine pe (e_call hF rfl rfl en_12 (by rfl) rfl rfl (kernBegun_any _) ?_); rintro e w1 ⟨rfl, hb⟩; replace hW := hW.kept hb; clear hb; refine ⟨_, rfl, fun a hF => ?_⟩; refine pv hF hW (y_move hF rfl) (fun a hF => ?_); refine pv hF hW (y_move hF rfl) (fun a hF => ?_) (ws hF rfl rfl); refine pv hF hW (y_eql hF rfl rfl) (fun a hF => ?_) (ws hF rfl rfl); replace hF := hF.tt; refine pv hF hW (y_pick hF rfl rfl) (fun a hF => ?_); replace hF := hF.tt; refine pv hF hW (y_move hF rfl) (fun a hF => ?_); replace hF := hF.tt; refine pv hF hW (y_fieldOwn hF rfl fa_30_0) (fun a hF => ?_) (ws hF rfl rfl)
      refine pv hF hW (y_loadOwn hF rfl 0 rfl rfl Try.underlying3 rfl) (fun a hF => ?_) (ws hF rfl rfl); refine pv hF hW (y_move hF rfl) (fun a hF => ?_) (ws hF rfl rfl); refine pv hF hW (y_move hF rfl) (fun a hF => ?_) (ws hF rfl rfl); refine pv hF hW (y_add hF rfl rfl (IntWalk.i64_in _ (by omega))) (fun a hF => ?_) (ws hF rfl rfl); refine pv hF hW (y_eql hF rfl rfl) (fun a hF => ?_) (ws hF rfl rfl); refine Fr.splitD hF ?_ ?_
      · intro h7 hF; refine pv hF hW (y_pick hF rfl rfl) (fun a hF => ?_); refine pv hF hW (y_move hF rfl) (fun a hF => ?_); refine pv hF hW (y_loadAll hF rfl 0 rfl Try.underlying30 rfl sz_30) (fun a hF => ?_) (ws hF rfl rfl); refine pv hF hW (y_loadAll hF rfl 2 rfl Try.underlying30 rfl sz_30) (fun a hF => ?_) (ws hF rfl rfl); refine pe (e_call hF rfl rfl en_15 (by rfl) rfl rfl (same_worlds (hW.res 1 rfl) (hW.res 3 rfl) (hy.trans ((congrArg (runW x.sys) (show m + i = m + k by omega)).trans hy9.symm))) ?_) (ws hF rfl rfl); rintro e w1 ⟨rfl, hb⟩; replace hW := hW.kept hb; clear hb; refine ⟨_, rfl, fun a hF => ?_⟩; refine pv hF hW (y_pick hF rfl rfl) (fun a hF => ?_); refine pv hF hW (y_assign hF rfl) (fun a hF => ?_); refine l_nil ?_; replace hF := hF.ks [0, 1, 2, 3, 6, 7, 8, 9, 10, 11, 12, 22, 40] rfl; refine t_n ?_; refine wp_ret ?_; refine ret1 Try.results4 hF (rv_t hF rfl) ?_
        exact ⟨rfl, hW.below⟩
      · intro h7 hF; exfalso
        exact h7 (by rw [htk y _ hy (by omega)]; omega)
  · have hrun := fun w1 (hb : Below w.heap.size w w1) => run_no (hx.below hb) rfl h0
    generalize runErr x.sys n = E at *
    rw [x.val_eq] at *
    refine enter Try.func4 rfl Try.ntmps4 rfl (fun a hF => ?_)
    have hW := Wd.start w NoB
    refine c_sr ?_; refine pe (e_box hF hW rfl rfl rfl rfl ?_); intro b1 a wc hF hW; refine pv hF hW (y_assign hF rfl) (fun a hF => ?_); refine l_nil ?_; refine t_n ?_; refine c_sr ?_; refine pv hF hW (y_loadAll hF rfl 0 rfl Try.underlying26 rfl sz_26) (fun a hF => ?_); refine pv hF hW (y_move hF rfl) (fun a hF => ?_); refine pe (e_call hF rfl rfl en_16 (by rfl) rfl rfl (hrun _ hW.below) ?_); rintro e w1 ⟨y0, rfl, hy0, hN⟩; replace hW := hW.comb3 hN; replace hW := hW.own_world; refine ⟨_, rfl, fun a hF => ?_⟩; replace hF := Fr.cast (v' := .tuple #[.agg #[.int .i64 y0.tick, .slice y0.ca y0.cells.length y0.cc, .slice y0.la y0.lines.length y0.lc], .int .i64 E]) rfl hF; refine pv hF hW (y_move hF rfl) (fun a hF => ?_); refine pv hF hW (y_extract hF rfl rfl) (fun a hF => ?_); refine pv hF hW (y_extract hF rfl rfl) (fun a hF => ?_); refine pe (e_alloc hF hW ze_30 rfl rfl rfl ?_)
    intro b2 a wc hF hW; refine pe (e_storeAll rfl hF hW rfl rfl 0 rfl rfl rfl (by kernel_rfl) sz_30 ?_); intro wc hW; refine pv hF hW (y_assign hF rfl) (fun a hF => ?_); refine l_nil ?_; replace hF := hF.ks [0, 1, 2, 3, 6, 7, 8] rfl; refine t_n ?_; refine c_s ?_; refine c_sr ?_; refine pv hF hW (y_move hF rfl) (fun a hF => ?_); refine pv hF hW (y_neq hF rfl rfl) (fun a hF => ?_); refine Fr.splitD hF ?_ ?_
    · intro h3 hF; refine l_nil ?_; replace hF := hF.ks [0, 1, 2, 3, 6, 7, 8, 22] rfl; refine t_n ?_; refine c_t hF rfl ?_; refine c_sr ?_; refine pe (e_call hF rfl rfl en_12 (by rfl) rfl rfl (kernBegun_any _) ?_); rintro e w1 ⟨rfl, hb⟩; replace hW := hW.kept hb; clear hb; refine ⟨_, rfl, fun a hF => ?_⟩; replace hF := hF.drop 6; refine pv hF hW (y_assign hF rfl) (fun a hF => ?_); refine l_nil ?_; replace hF := hF.ks [0, 1, 2, 3, 6, 7, 8, 22] rfl; refine t_n ?_; refine wp_ret ?_; refine t_r ?_; refine ret1 Try.results4 hF (rv_t hF rfl) ?_
      exact ⟨rfl, hW.below⟩
    · intro h3 hF; exfalso
      omega

set_option maxRecDepth 100000 in
theorem kernMore_contract (H : Type) (enc : TypeId × Value → H) (W : World) (base : Nat) (args : Array Value) (ds gs : List (DataW H)) (before : List MemPlace)
    (hval : ∀ (j : Nat) t v, Try.f4.params[j]? = some t → args[j]? = some v → Value.okWide Try.prog W .any base t v)
    (hW : DataW.Whole enc Try.prog Try.f4.params.toList Rows.kernMoreSpec.vars false W args.toList ds gs before) :
    Calls Try.prog 4 args W fun e W' => ∃ v, e = .returned v ∧ Rows.kernMoreSpec.post enc Try.prog Try.f4 false true false false W args v W' := by
  have hW' := hW
  obtain ⟨p, q, hA0, hV, rfl, hfz, hnd⟩ := hW
  have hA : DataW.TrodAll enc Try.prog W 0 (fun _ => true) true Try.f4.params.toList args.toList ds p := hA0
  rw [Try.params4] at hA hval
  obtain ⟨v0, v1, v2, d0, d1, d2, p0, p1, p2, rfl, rfl, rfl, h0, h1, h2⟩ := trodAll_three hA
  obtain ⟨x, rfl, hx⟩ := sys_open (hval 0 26 v0 rfl rfl) h0
  obtain ⟨n, rfl, rfl, rfl, wk1⟩ := open_int Try.underlying3 (hval 1 3 v1 rfl rfl) h1
  obtain ⟨m, rfl, rfl, rfl, wk2⟩ := open_int Try.underlying3 (hval 2 3 v2 rfl rfl) h2
  refine (kernMore_run x n m W hx (bounds_i64 wk2)).mono fun e W' ⟨he, hb⟩ => ?_
  subst he
  exact ⟨_, rfl, law_post Try.laidOut hW' hb rfl (by kernel_rfl) Try.underlying4 (by kernel_rfl) rfl⟩

set_option maxRecDepth 100000 in
theorem kernMore_lifted (os : Os) (started : os.Started) (H : Type) (enc : TypeId × Value → H) :
    ReturnsInHanded {} Try.checked os 4 .any (Rows.kernMoreSpec.pre6 enc Try.prog Try.f4 Rows.kernMoreRow.domain false) (Rows.kernMoreSpec.post enc Try.prog Try.f4 false true false false) := by
  refine returnsInHanded_of_change (C := Try.checked) Try.own started (by kernel_rfl) Try.func4
    (ChangeSpec.witness6 (enc := enc) (C := Try.checked) false ⟨#[], #[.agg #[.slice none 0 0, .slice none 0 0, .slice none 0 0], .int .i64 0, .int .i64 0], []⟩ 8 (by kernel_rfl) (by kernel_rfl) (by kernel_rfl) (by kernel_rfl)) ?_
  intro W base args ds gs before hval hW _ _
  exact kernMore_contract H enc W base args ds gs before hval hW

theorem kernMore_holds : Rows.KernMoreSaid :=
  OpenClaim.holds_of_wide 4 Try.f4 rfl rfl rfl rfl rfl rfl rfl ⟨rfl, rfl, rfl, rfl, rfl⟩ rfl rfl rfl rfl rfl (by kernel_rfl) Try.func4 (by kernel_rfl)
    (of_decide_eq_true (by kernel_rfl)) (by unfold Func.isWrapper; first | (rw [if_pos (by decide +kernel)]; kernel_rfl) | (rw [if_neg (by decide +kernel)]; exact ⟨rfl, rfl⟩))
    (fun os started H enc _ => kernMore_lifted os started H enc)
end Go.Proofs.Ytoecpblabajlmaa
