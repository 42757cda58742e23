/- The law KernChecks answers true for every input. -/
import Derived.Test.YtoecpblabajlmaaKernO
namespace Go.Proofs.Ytoecpblabajlmaa
set_option linter.unusedVariables false
set_option linter.unusedSimpArgs false
open Go.ChangeShapes Go.WideShapes Go.ChangeAt Go.RowKit

set_option maxRecDepth 100000

theorem kernChecks_run (x : SysD) (y : WD) (w : World) (hx : x.At w) (hy : y.At w) :
    Calls Try.prog 3 #[x.val, y.val] w fun e w' => e = .returned (.bool true) ∧ Below w.heap.size w w' := by
  have hbeg := fun w1 (hb : Below w.heap.size w w1) => kernBegin_any (hx.below hb)
  have hcs := fun w1 (hb : Below w.heap.size w w1) => checkSystem_any (hx.below hb)
  have hc := fun w1 (hb : Below w.heap.size w w1) => kernCheck_any (hx.below hb) (hy.below hb)
  have hcR := fun w1 (hb : Below w.heap.size w w1) => checkWorld_any (hx.below hb) (hy.below hb)
  generalize chkWorld x.sys y.wrl = C at *
  by_cases hk : chkSys x.sys = 0
  · have hbo := fun w1 (hb : Below w.heap.size w w1) => beginOf_any (hx.below hb) hk
    rw [show beginOr x.sys = beginW x.sys from if_pos hk, hk] at hbeg
    rw [hk] at hcs
    rw [x.val_eq, y.val_eq] at *
    refine enter Try.func3 rfl Try.ntmps3 rfl (fun a hF => ?_)
    have hW := Wd.start w NoB
    refine c_sr ?_; refine pe (e_box hF hW rfl rfl rfl rfl ?_); intro b1 a wc hF hW; refine pe (e_box hF hW rfl rfl rfl rfl ?_); intro b2 a wc hF hW; refine pv hF hW (y_assign hF rfl) (fun a hF => ?_); refine l_nil ?_; refine t_n ?_; refine c_sr ?_; refine pv hF hW (y_loadAll hF rfl 1 rfl Try.underlying26 rfl sz_26) (fun a hF => ?_); refine pe (e_call hF rfl rfl en_9 (by rfl) rfl rfl (hbeg _ hW.below) ?_); rintro e w1 ⟨y1, rfl, hy1, hN⟩; replace hW := hW.comb3 hN; replace hW := hW.own_world; refine ⟨_, rfl, fun a hF => ?_⟩; replace hF := Fr.cast (v' := .tuple #[.agg #[.int .i64 y1.tick, .slice y1.ca y1.cells.length y1.cc, .slice y1.la y1.lines.length y1.lc], .int .i64 0]) rfl hF; refine pv hF hW (y_move hF rfl) (fun a hF => ?_); refine pv hF hW (y_extract hF rfl rfl) (fun a hF => ?_); refine pv hF hW (y_extract hF rfl rfl) (fun a hF => ?_); refine pe (e_alloc hF hW ze_30 rfl rfl rfl ?_)
    intro b3 a wc hF hW; refine pe (e_storeAll rfl hF hW rfl rfl 0 rfl rfl rfl (by kernel_rfl) sz_30 ?_); intro wc hW; refine pv hF hW (y_assign hF rfl) (fun a hF => ?_); refine l_nil ?_; replace hF := hF.ks [0, 1, 2, 3, 4, 5, 6] rfl; refine t_n ?_; refine c_sr ?_; refine pv hF hW (y_loadAll hF rfl 3 rfl Try.underlying26 rfl sz_26) (fun a hF => ?_); refine pe (e_call hF rfl rfl en_10 (by rfl) rfl rfl (hcs _ hW.below) ?_); rintro e w1 ⟨rfl, hb⟩; replace hW := hW.kept hb; clear hb; refine ⟨_, rfl, fun a hF => ?_⟩; refine pv hF hW (y_assign hF rfl) (fun a hF => ?_); refine l_nil ?_; replace hF := hF.ks [0, 1, 2, 3, 4, 5, 6, 7] rfl; refine t_n ?_; refine c_sr ?_; refine pe (e_alloc hF hW ze_30 rfl rfl rfl ?_); intro b4 a wc hF hW; refine l_nil ?_; refine t_n ?_; refine c_s ?_; refine c_sr ?_; refine pv hF hW (y_move hF rfl) (fun a hF => ?_); refine pv hF hW (y_eql hF rfl rfl) (fun a hF => ?_)
    replace hF := hF.tt; refine l_nil ?_; replace hF := hF.ks [0, 1, 2, 3, 4, 5, 6, 7, 8, 17] rfl; refine t_n ?_; refine c_t hF rfl ?_; refine c_r ?_; refine pv hF hW (y_loadAll hF rfl 4 rfl Try.underlying26 rfl sz_26) (fun a hF => ?_); refine pe (e_call hF rfl rfl en_11 (by rfl) rfl rfl (hbo _ hW.below) ?_); rintro e w1 ⟨y2, rfl, hy2, hN⟩; replace hW := hW.comb3 hN; replace hW := hW.own_world; refine ⟨_, rfl, fun a hF => ?_⟩; replace hF := Fr.cast (v' := .agg #[.int .i64 y2.tick, .slice y2.ca y2.cells.length y2.cc, .slice y2.la y2.lines.length y2.lc]) rfl hF; refine pe (e_storeAll rfl hF hW rfl rfl 1 rfl rfl rfl (by kernel_rfl) sz_30 ?_); intro wc hW; refine l_nil ?_; replace hF := hF.ks [0, 1, 2, 3, 4, 5, 6, 7, 8, 17] rfl; refine t_n ?_; refine c_sd mixed_ok hW (hW) ?_
    clear hW; intro wc hW hS
    refine d_1 0 (by kernel_rfl) ?_; refine d_op rfl rfl (e_call hF rfl rfl en_12 (by rfl) rfl rfl (kernBegun_any _) ?_); rintro e w1 ⟨rfl, hb⟩; replace hW := hW.kept hb; clear hb; refine ⟨_, rfl, fun a hF => ?_⟩; refine ⟨hW, ?_⟩; replace hS := hW; refine dv 1 rfl hF hS (y_move hF rfl) (fun a hF => ?_); refine dv 2 rfl hF hS (y_loadAll hF rfl 5 rfl Try.underlying26 rfl sz_26) (fun a hF => ?_) (ws hF rfl rfl); refine dv 3 rfl hF hS (y_loadAll hF rfl 4 rfl Try.underlying30 rfl sz_30) (fun a hF => ?_) (ws hF rfl rfl); refine dv 5 rfl hF hS (y_loadAll hF rfl 5 rfl Try.underlying26 rfl sz_26) (fun a hF => ?_) (ws hF rfl rfl); refine dv 6 rfl hF hS (y_loadAll hF rfl 4 rfl Try.underlying30 rfl sz_30) (fun a hF => ?_) (ws hF rfl rfl); refine d_1 4 (by kernel_rfl) ?_; refine d_op rfl (ws hF rfl rfl) (e_call hF rfl rfl en_13 (by rfl) rfl rfl (hc _ hW.below) ?_); rintro e w1 ⟨rfl, hb⟩
    replace hW := hW.kept hb; clear hb; refine ⟨_, rfl, fun a hF => ?_⟩; refine ⟨hW, ?_⟩; replace hS := hW; refine d_1 7 (by kernel_rfl) ?_; refine d_op rfl (ws hF rfl rfl) (e_call hF rfl rfl en_14 (by rfl) rfl rfl (hcR _ hW.below) ?_); rintro e w1 ⟨rfl, hb⟩; replace hW := hW.kept hb; clear hb; refine ⟨_, rfl, fun a hF => ?_⟩; refine ⟨hW, ?_⟩; replace hS := hW; refine dv 8 rfl hF hS (y_eql hF rfl rfl) (fun a hF => ?_) (ws hF rfl rfl); refine Fr.splitD hF ?_ ?_
    · intro h5 hF; refine dv 9 rfl hF hS (y_pick hF rfl rfl) (fun a hF => ?_); refine dv 10 rfl hF hS (y_move hF rfl) (fun a hF => ?_); refine dv 11 rfl hF hS (y_move hF rfl) (fun a hF => ?_) (ws hF rfl rfl); refine dv 12 rfl hF hS (y_move hF rfl) (fun a hF => ?_) (ws hF rfl rfl); refine dv 13 rfl hF hS (y_eql hF rfl rfl) (fun a hF => ?_) (ws hF rfl rfl); replace hF := hF.tt; refine dv 14 rfl hF hS (y_pick hF rfl rfl) (fun a hF => ?_); replace hF := hF.tt; refine dv 15 rfl hF hS (y_move hF rfl) (fun a hF => ?_); replace hF := hF.tt; refine dv 16 rfl hF hS (y_loadAll hF rfl 2 rfl Try.underlying30 rfl sz_30) (fun a hF => ?_) (ws hF rfl rfl); refine dv 17 rfl hF hS (y_loadAll hF rfl 1 rfl Try.underlying30 rfl sz_30) (fun a hF => ?_) (ws hF rfl rfl); refine d_1 18 (by kernel_rfl) ?_
      refine d_op rfl (ws hF rfl rfl) (e_call hF rfl rfl en_15 (by rfl) rfl rfl (same_worlds (hW.res 3 rfl) (hW.res 0 rfl) (hy1.trans hy2.symm)) ?_); rintro e w1 ⟨rfl, hb⟩; replace hW := hW.kept hb; clear hb; refine ⟨_, rfl, fun a hF => ?_⟩; refine ⟨hW, ?_⟩; replace hS := hW; refine dv 19 rfl hF hS (y_pick hF rfl rfl) (fun a hF => ?_); replace hF := hF.drop 4; refine dv 20 rfl hF hS (y_assign hF rfl) (fun a hF => ?_); clear hS; refine d_nil (by kernel_rfl) ?_; replace hF := hF.ks [0, 1, 2, 3, 4, 5, 6, 7, 8, 17] rfl; refine t_n ?_; refine wp_ret ?_; refine ret1 Try.results3 hF (rv_t hF rfl) ?_
      exact ⟨rfl, hW.below⟩
    · intro h5 hF; exfalso
      exact h5 rfl
  · rw [show beginOr x.sys = Wrl.zero from if_neg hk] at hbeg
    generalize chkSys x.sys = E at *
    rw [x.val_eq, y.val_eq] at *
    refine enter Try.func3 rfl Try.ntmps3 rfl (fun a hF => ?_)
    have hW := Wd.start w NoB
    refine c_sr ?_; refine pe (e_box hF hW rfl rfl rfl rfl ?_); intro b1 a wc hF hW; refine pe (e_box hF hW rfl rfl rfl rfl ?_); intro b2 a wc hF hW; refine pv hF hW (y_assign hF rfl) (fun a hF => ?_); refine l_nil ?_; refine t_n ?_; refine c_sr ?_; refine pv hF hW (y_loadAll hF rfl 1 rfl Try.underlying26 rfl sz_26) (fun a hF => ?_); refine pe (e_call hF rfl rfl en_9 (by rfl) rfl rfl (hbeg _ hW.below) ?_); rintro e w1 ⟨y1, rfl, hy1, hN⟩; replace hW := hW.comb3 hN; replace hW := hW.own_world; refine ⟨_, rfl, fun a hF => ?_⟩; replace hF := Fr.cast (v' := .tuple #[.agg #[.int .i64 y1.tick, .slice y1.ca y1.cells.length y1.cc, .slice y1.la y1.lines.length y1.lc], .int .i64 E]) rfl hF; refine pv hF hW (y_move hF rfl) (fun a hF => ?_); refine pv hF hW (y_extract hF rfl rfl) (fun a hF => ?_); refine pv hF hW (y_extract hF rfl rfl) (fun a hF => ?_); refine pe (e_alloc hF hW ze_30 rfl rfl rfl ?_)
    intro b3 a wc hF hW; refine pe (e_storeAll rfl hF hW rfl rfl 0 rfl rfl rfl (by kernel_rfl) sz_30 ?_); intro wc hW; refine pv hF hW (y_assign hF rfl) (fun a hF => ?_); refine l_nil ?_; replace hF := hF.ks [0, 1, 2, 3, 4, 5, 6] rfl; refine t_n ?_; refine c_sr ?_; refine pv hF hW (y_loadAll hF rfl 3 rfl Try.underlying26 rfl sz_26) (fun a hF => ?_); refine pe (e_call hF rfl rfl en_10 (by rfl) rfl rfl (hcs _ hW.below) ?_); rintro e w1 ⟨rfl, hb⟩; replace hW := hW.kept hb; clear hb; refine ⟨_, rfl, fun a hF => ?_⟩; refine pv hF hW (y_assign hF rfl) (fun a hF => ?_); refine l_nil ?_; replace hF := hF.ks [0, 1, 2, 3, 4, 5, 6, 7] rfl; refine t_n ?_; refine c_sr ?_; refine pe (e_alloc hF hW ze_30 rfl rfl rfl ?_); intro b4 a wc hF hW; refine l_nil ?_; refine t_n ?_; refine c_s ?_; refine c_sr ?_; refine pv hF hW (y_move hF rfl) (fun a hF => ?_); refine pv hF hW (y_eql hF rfl rfl) (fun a hF => ?_)
    refine Fr.splitD hF ?_ ?_
    · intro h5 hF; exfalso
      omega
    · intro h5 hF; refine l_nil ?_; replace hF := hF.ks [0, 1, 2, 3, 4, 5, 6, 7, 8, 17] rfl; refine t_n ?_; refine c_f hF rfl ?_; refine wp_skip ?_; refine t_n ?_; refine c_sd mixed_ok hW (hW) ?_
      clear hW; intro wc hW hS
      refine d_1 0 (by kernel_rfl) ?_; refine d_op rfl rfl (e_call hF rfl rfl en_12 (by rfl) rfl rfl (kernBegun_any _) ?_); rintro e w1 ⟨rfl, hb⟩; replace hW := hW.kept hb; clear hb; refine ⟨_, rfl, fun a hF => ?_⟩; refine ⟨hW, ?_⟩; replace hS := hW; refine dv 1 rfl hF hS (y_move hF rfl) (fun a hF => ?_); refine dv 2 rfl hF hS (y_loadAll hF rfl 4 rfl Try.underlying26 rfl sz_26) (fun a hF => ?_) (ws hF rfl rfl); refine dv 3 rfl hF hS (y_loadAll hF rfl 3 rfl Try.underlying30 rfl sz_30) (fun a hF => ?_) (ws hF rfl rfl); refine dv 5 rfl hF hS (y_loadAll hF rfl 4 rfl Try.underlying26 rfl sz_26) (fun a hF => ?_) (ws hF rfl rfl); refine dv 6 rfl hF hS (y_loadAll hF rfl 3 rfl Try.underlying30 rfl sz_30) (fun a hF => ?_) (ws hF rfl rfl); refine d_1 4 (by kernel_rfl) ?_; refine d_op rfl (ws hF rfl rfl) (e_call hF rfl rfl en_13 (by rfl) rfl rfl (hc _ hW.below) ?_); rintro e w1 ⟨rfl, hb⟩
      replace hW := hW.kept hb; clear hb; refine ⟨_, rfl, fun a hF => ?_⟩; refine ⟨hW, ?_⟩; replace hS := hW; refine d_1 7 (by kernel_rfl) ?_; refine d_op rfl (ws hF rfl rfl) (e_call hF rfl rfl en_14 (by rfl) rfl rfl (hcR _ hW.below) ?_); rintro e w1 ⟨rfl, hb⟩; replace hW := hW.kept hb; clear hb; refine ⟨_, rfl, fun a hF => ?_⟩; refine ⟨hW, ?_⟩; replace hS := hW; refine dv 8 rfl hF hS (y_eql hF rfl rfl) (fun a hF => ?_) (ws hF rfl rfl); refine Fr.splitD hF ?_ ?_
      · intro h6 hF; refine dv 9 rfl hF hS (y_pick hF rfl rfl) (fun a hF => ?_); refine dv 10 rfl hF hS (y_move hF rfl) (fun a hF => ?_); refine dv 11 rfl hF hS (y_move hF rfl) (fun a hF => ?_) (ws hF rfl rfl); refine dv 12 rfl hF hS (y_move hF rfl) (fun a hF => ?_) (ws hF rfl rfl); refine dv 13 rfl hF hS (y_eql hF rfl rfl) (fun a hF => ?_) (ws hF rfl rfl); refine Fr.splitD hF ?_ ?_
        · intro h7 hF; refine dv 14 rfl hF hS (y_pick hF rfl rfl) (fun a hF => ?_); refine dv 15 rfl hF hS (y_move hF rfl) (fun a hF => ?_); refine dv 16 rfl hF hS (y_loadAll hF rfl 1 rfl Try.underlying30 rfl sz_30) (fun a hF => ?_) (ws hF rfl rfl); refine dv 17 rfl hF hS (y_loadAll hF rfl 0 rfl Try.underlying30 rfl sz_30) (fun a hF => ?_) (ws hF rfl rfl); refine d_1 18 (by kernel_rfl) ?_; refine d_op rfl (ws hF rfl rfl) (e_call hF rfl rfl en_15 (by rfl) rfl rfl (same_worlds (y := WD.zero) (hW.res 2 rfl) (WD.zero_at _) hy1) ?_); rintro e w1 ⟨rfl, hb⟩; replace hW := hW.kept hb; clear hb; refine ⟨_, rfl, fun a hF => ?_⟩; refine ⟨hW, ?_⟩; replace hS := hW; refine dv 19 rfl hF hS (y_pick hF rfl rfl) (fun a hF => ?_); replace hF := hF.drop 4; refine dv 20 rfl hF hS (y_assign hF rfl) (fun a hF => ?_); clear hS; refine d_nil (by kernel_rfl) ?_; replace hF := hF.ks [0, 1, 2, 3, 4, 5, 6, 7, 8, 17] rfl
          refine t_n ?_; refine wp_ret ?_; refine ret1 Try.results3 hF (rv_t hF rfl) ?_
          exact ⟨rfl, hW.below⟩
        · intro h7 hF; exfalso
          exact h7 rfl
      · intro h6 hF; exfalso
        exact h6 rfl

set_option maxRecDepth 100000 in
theorem kernChecks_contract (H : Type) (enc : TypeId × Value → H) (W : World) (base : Nat) (args : Array Value) (ds gs : List (DataW H)) (before : List MemPlace)
    (hval : ∀ (j : Nat) t v, Try.f3.params[j]? = some t → args[j]? = some v → Value.okWide Try.prog W .any base t v)
    (hW : DataW.Whole enc Try.prog Try.f3.params.toList Rows.kernChecksSpec.vars false W args.toList ds gs before) :
    Calls Try.prog 3 args W fun e W' => ∃ v, e = .returned v ∧ Rows.kernChecksSpec.post enc Try.prog Try.f3 false true false false W args v W' := by
  have hW' := hW
  obtain ⟨p, q, hA0, hV, rfl, hfz, hnd⟩ := hW
  have hA : DataW.TrodAll enc Try.prog W 0 (fun _ => true) true Try.f3.params.toList args.toList ds p := hA0
  rw [Try.params3] at hA hval
  obtain ⟨v0, v1, d0, d1, p0, p1, rfl, rfl, rfl, h0, h1⟩ := trodAll_two hA
  obtain ⟨x, rfl, hx⟩ := sys_open (hval 0 26 v0 rfl rfl) h0
  obtain ⟨y, rfl, hy⟩ := wrl_open (hval 1 30 v1 rfl rfl) h1
  refine (kernChecks_run x y W hx hy).mono fun e W' ⟨he, hb⟩ => ?_
  subst he
  exact ⟨_, rfl, law_post Try.laidOut hW' hb rfl (by kernel_rfl) Try.underlying4 (by kernel_rfl) rfl⟩

set_option maxRecDepth 100000 in
theorem kernChecks_lifted (os : Os) (started : os.Started) (H : Type) (enc : TypeId × Value → H) :
    ReturnsInHanded {} Try.checked os 3 .any (Rows.kernChecksSpec.pre6 enc Try.prog Try.f3 Rows.kernChecksRow.domain false) (Rows.kernChecksSpec.post enc Try.prog Try.f3 false true false false) := by
  refine returnsInHanded_of_change (C := Try.checked) Try.own started (by kernel_rfl) Try.func3
    (ChangeSpec.witness6 (enc := enc) (C := Try.checked) false ⟨#[], #[.agg #[.slice none 0 0, .slice none 0 0, .slice none 0 0], .agg #[.int .i64 0, .slice none 0 0, .slice none 0 0]], []⟩ 8 (by kernel_rfl) (by kernel_rfl) (by kernel_rfl) (by kernel_rfl)) ?_
  intro W base args ds gs before hval hW _ _
  exact kernChecks_contract H enc W base args ds gs before hval hW

theorem kernChecks_holds : Rows.KernChecksSaid :=
  OpenClaim.holds_of_wide 3 Try.f3 rfl rfl rfl rfl rfl rfl rfl ⟨rfl, rfl, rfl, rfl, rfl⟩ rfl rfl rfl rfl rfl (by kernel_rfl) Try.func3 (by kernel_rfl)
    (of_decide_eq_true (by kernel_rfl)) (by unfold Func.isWrapper; first | (rw [if_pos (by decide +kernel)]; kernel_rfl) | (rw [if_neg (by decide +kernel)]; exact ⟨rfl, rfl⟩))
    (fun os started H enc _ => kernChecks_lifted os started H enc)
end Go.Proofs.Ytoecpblabajlmaa
