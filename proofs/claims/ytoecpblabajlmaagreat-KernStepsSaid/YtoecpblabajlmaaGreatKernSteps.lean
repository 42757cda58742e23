/- The law KernSteps answers true for every input. -/
import Derived.Test.YtoecpblabajlmaaGreatKernSR
namespace Go.Proofs.YtoecpblabajlmaaGreat
set_option linter.unusedVariables false
set_option linter.unusedSimpArgs false
open Go.ChangeShapes Go.WideShapes Go.ChangeAt Go.RowKit

set_option maxRecDepth 100000

theorem kernSteps_run (x : SysD) (y : WD) (w : World) (hx : x.At w) (hy : y.At w) :
    Calls Tryz.prog 3 #[x.val, y.val] w fun e w' => e = .returned (.bool true) ∧ Below w.heap.size w w' := by
  have hcR := fun w1 (hb : Below w.heap.size w w1) => checkWorld_any (hx.below hb) (hy.below hb)
  by_cases h0 : stepErrW x.sys y.wrl = 0
  · have hst := fun w1 (hb : Below w.heap.size w w1) => step_ok (hx.below hb) (hy.below hb) rfl h0
    have hsR := fun w1 (hb : Below w.heap.size w w1) => kernStepR_any (hx.below hb) (hy.below hb) h0
    obtain ⟨hk, hr, ht⟩ := stepErrW_zero h0
    have ht' : y.tick < 300 := ht
    rw [chkWorld_0 hk (right_iff.2 hr)] at hcR
    rw [x.val_eq, y.val_eq] at *
    refine enter Tryz.func3 rfl Tryz.ntmps3 rfl fun a hF => ?_
    have hW := Wd.start w NoB
    refine c_sr ?_; refine pe (e_box hF hW rfl rfl rfl rfl ?_); intro b1 a wc hF hW; refine pe (e_box hF hW rfl rfl rfl rfl ?_); intro b2 a wc hF hW; refine pv hF hW (y_assign hF rfl) fun a hF => l_nil <| t_n <| c_sr <| pv hF hW (y_loadAll hF rfl 1 rfl Tryz.underlying26 rfl sz_26) fun a hF => pv hF hW (y_loadAll hF rfl 0 rfl Tryz.underlying30 rfl sz_30) fun a hF => ?_; refine pe (e_call hF rfl rfl en_9 (by rfl) rfl rfl (hst _ hW.below) ?_); rintro e w1 ⟨y1, rfl, hy1, hN⟩; replace hW := hW.comb3 hN; replace hW := hW.own_world; refine ⟨_, rfl, fun a hF => ?_⟩; replace hF := Fr.cast (v' := .tuple #[.agg #[.int .i64 y1.tick, .slice y1.ca y1.cells.length y1.cc, .slice y1.la y1.lines.length y1.lc], .int .i64 0]) rfl hF; refine pv hF hW (y_move hF rfl) fun a hF => pv hF hW (y_extract hF rfl rfl) fun a hF => pv hF hW (y_extract hF rfl rfl) fun a hF => ?_; refine pe (e_alloc hF hW ze_30 rfl rfl rfl ?_); intro b3 a wc hF hW; refine pe (e_storeAll rfl hF hW rfl rfl 0 rfl rfl rfl (by kernel_rfl) sz_30 ?_); intro wc hW; refine pv hF hW (y_assign hF rfl) fun a hF => l_nil ?_; replace hF := hF.ks [0, 1, 2, 3, 4, 5, 6] rfl; refine t_n <| c_sr <| pv hF hW (y_loadAll hF rfl 3 rfl Tryz.underlying26 rfl sz_26) fun a hF => pv hF hW (y_loadAll hF rfl 2 rfl Tryz.underlying30 rfl sz_30) fun a hF => ?_; refine pe (e_call hF rfl rfl en_10 (by rfl) rfl rfl (hcR _ hW.below) ?_); rintro e w1 ⟨rfl, hb⟩; replace hW := hW.kept hb; clear hb; refine ⟨_, rfl, fun a hF => ?_⟩; refine pv hF hW (y_assign hF rfl) fun a hF => l_nil ?_; replace hF := hF.ks [0, 1, 2, 3, 4, 5, 6, 7] rfl; refine t_n <| c_s <| c_sr <| pv hF hW (y_move hF rfl) fun a hF => pv hF hW (y_eql hF rfl rfl) fun a hF => ?_; replace hF := hF.tt; refine pv hF hW (y_move hF rfl) fun a hF => ?_; replace hF := hF.tt; refine pvg hF hW (y_fieldOwn hF rfl fa_30_0) (ws hF rfl rfl) fun a hF => pvg hF hW (y_loadOwn hF rfl 2 rfl rfl Tryz.underlying3 rfl) (ws hF rfl rfl) fun a hF => pvg hF hW (y_eql hF rfl rfl) (ws hF rfl rfl) fun a hF => ?_; refine Fr.splitD hF ?_ ?_
    · intro h4 hF; exfalso
      omega
    · intro h4 hF; refine pv hF hW (y_pick hF rfl rfl) fun a hF => l_nil ?_; replace hF := hF.ks [0, 1, 2, 3, 4, 5, 6, 7, 24] rfl; refine t_n <| c_f hF rfl <| wp_skip <| t_n <| c_sr ?_; refine pe (e_alloc hF hW ze_30 rfl rfl rfl ?_); intro b5 a wc hF hW; refine l_nil <| t_n <| c_s <| c_sr <| pv hF hW (y_move hF rfl) fun a hF => pv hF hW (y_eql hF rfl rfl) fun a hF => ?_; replace hF := hF.tt; refine l_nil ?_; replace hF := hF.ks [0, 1, 2, 3, 4, 5, 6, 7, 8, 24, 26] rfl; refine t_n <| c_t hF rfl <| c_r <| pv hF hW (y_loadAll hF rfl 4 rfl Tryz.underlying26 rfl sz_26) fun a hF => pv hF hW (y_loadAll hF rfl 3 rfl Tryz.underlying30 rfl sz_30) fun a hF => ?_; refine pe (e_call hF rfl rfl en_11 (by rfl) rfl rfl (hsR _ hW.below) ?_); rintro e w1 ⟨y2, rfl, hy2, hN⟩; replace hW := hW.comb3 hN; replace hW := hW.own_world; refine ⟨_, rfl, fun a hF => ?_⟩; replace hF := Fr.cast (v' := .agg #[.int .i64 y2.tick, .slice y2.ca y2.cells.length y2.cc, .slice y2.la y2.lines.length y2.lc]) rfl hF; refine pe (e_storeAll rfl hF hW rfl rfl 1 rfl rfl rfl (by kernel_rfl) sz_30 ?_); intro wc hW; refine l_nil ?_; replace hF := hF.ks [0, 1, 2, 3, 4, 5, 6, 7, 8, 24, 26] rfl; refine t_n <| c_sr ?_; refine pe (e_call hF rfl rfl en_12 (by rfl) rfl rfl (kernBegun_any _) ?_); rintro e w1 ⟨rfl, hb⟩; replace hW := hW.kept hb; clear hb; refine ⟨_, rfl, fun a hF => ?_⟩; refine pv hF hW (y_move hF rfl) fun a hF => pvg hF hW (y_move hF rfl) (ws hF rfl rfl) fun a hF => pvg hF hW (y_move hF rfl) (ws hF rfl rfl) fun a hF => pvg hF hW (y_eql hF rfl rfl) (ws hF rfl rfl) fun a hF => ?_; replace hF := hF.tt; refine pv hF hW (y_pick hF rfl rfl) fun a hF => ?_; replace hF := hF.tt; refine pv hF hW (y_move hF rfl) fun a hF => ?_; replace hF := hF.tt; refine pvg hF hW (y_loadAll hF rfl 2 rfl Tryz.underlying30 rfl sz_30) (ws hF rfl rfl) fun a hF => pvg hF hW (y_loadAll hF rfl 1 rfl Tryz.underlying30 rfl sz_30) (ws hF rfl rfl) fun a hF => ?_; refine pe (e_call hF rfl rfl en_13 (by rfl) rfl rfl (same_worlds (hW.res 3 rfl) (hW.res 0 rfl) (hy1.trans hy2.symm)) ?_) (ws hF rfl rfl); rintro e w1 ⟨rfl, hb⟩; replace hW := hW.kept hb; clear hb; refine ⟨_, rfl, fun a hF => ?_⟩; refine pv hF hW (y_pick hF rfl rfl) fun a hF => ?_; replace hF := hF.drop 4; refine pv hF hW (y_assign hF rfl) fun a hF => l_nil ?_; replace hF := hF.ks [0, 1, 2, 3, 4, 5, 6, 7, 8, 24, 26] rfl; refine t_n <| wp_ret <| ret1 Tryz.results3 hF (rv_t hF rfl) ?_
      exact ⟨rfl, hW.below⟩
  · have hst := fun w1 (hb : Below w.heap.size w w1) E (hE : stepErrW x.sys y.wrl = E) (hz : E ≠ 0) => step_no (hx.below hb) (hy.below hb) hE hz
    by_cases hc : chkWorld x.sys y.wrl = 0
    · have ht : y.tick = 300 := Decidable.byContradiction fun h => h0 (stepErrW_0 hc h)
      have he : stepErrW x.sys y.wrl = 3 := stepErrW_3 hc ht
      rw [hc] at hcR
      rw [x.val_eq, y.val_eq] at *
      refine enter Tryz.func3 rfl Tryz.ntmps3 rfl fun a hF => ?_
      have hW := Wd.start w NoB
      refine c_sr ?_; refine pe (e_box hF hW rfl rfl rfl rfl ?_); intro b1 a wc hF hW; refine pe (e_box hF hW rfl rfl rfl rfl ?_); intro b2 a wc hF hW; refine pv hF hW (y_assign hF rfl) fun a hF => l_nil <| t_n <| c_sr <| pv hF hW (y_loadAll hF rfl 1 rfl Tryz.underlying26 rfl sz_26) fun a hF => pv hF hW (y_loadAll hF rfl 0 rfl Tryz.underlying30 rfl sz_30) fun a hF => ?_; refine pe (e_call hF rfl rfl en_9 (by rfl) rfl rfl (hst _ hW.below 3 he (by decide)) ?_); rintro e w1 ⟨y1, rfl, hy1, hN⟩; replace hW := hW.comb3 hN; replace hW := hW.own_world; refine ⟨_, rfl, fun a hF => ?_⟩; replace hF := Fr.cast (v' := .tuple #[.agg #[.int .i64 y1.tick, .slice y1.ca y1.cells.length y1.cc, .slice y1.la y1.lines.length y1.lc], .int .i64 3]) rfl hF; refine pv hF hW (y_move hF rfl) fun a hF => pv hF hW (y_extract hF rfl rfl) fun a hF => pv hF hW (y_extract hF rfl rfl) fun a hF => ?_; refine pe (e_alloc hF hW ze_30 rfl rfl rfl ?_); intro b3 a wc hF hW; refine pe (e_storeAll rfl hF hW rfl rfl 0 rfl rfl rfl (by kernel_rfl) sz_30 ?_); intro wc hW; refine pv hF hW (y_assign hF rfl) fun a hF => l_nil ?_; replace hF := hF.ks [0, 1, 2, 3, 4, 5, 6] rfl; refine t_n <| c_sr <| pv hF hW (y_loadAll hF rfl 3 rfl Tryz.underlying26 rfl sz_26) fun a hF => pv hF hW (y_loadAll hF rfl 2 rfl Tryz.underlying30 rfl sz_30) fun a hF => ?_; refine pe (e_call hF rfl rfl en_10 (by rfl) rfl rfl (hcR _ hW.below) ?_); rintro e w1 ⟨rfl, hb⟩; replace hW := hW.kept hb; clear hb; refine ⟨_, rfl, fun a hF => ?_⟩; refine pv hF hW (y_assign hF rfl) fun a hF => l_nil ?_; replace hF := hF.ks [0, 1, 2, 3, 4, 5, 6, 7] rfl; refine t_n <| c_s <| c_sr <| pv hF hW (y_move hF rfl) fun a hF => pv hF hW (y_eql hF rfl rfl) fun a hF => ?_; replace hF := hF.tt; refine pv hF hW (y_move hF rfl) fun a hF => ?_; replace hF := hF.tt; refine pvg hF hW (y_fieldOwn hF rfl fa_30_0) (ws hF rfl rfl) fun a hF => pvg hF hW (y_loadOwn hF rfl 2 rfl rfl Tryz.underlying3 rfl) (ws hF rfl rfl) fun a hF => pvg hF hW (y_eql hF rfl rfl) (ws hF rfl rfl) fun a hF => ?_; refine Fr.splitD hF ?_ ?_
      · intro h4 hF; refine pv hF hW (y_pick hF rfl rfl) fun a hF => l_nil ?_; replace hF := hF.ks [0, 1, 2, 3, 4, 5, 6, 7, 24] rfl; refine t_n <| c_t hF rfl <| c_r ?_; replace hF := hF.drop 7; refine pv hF hW (y_assign hF rfl) fun a hF => l_nil <| t_n <| c_sr ?_; refine pe (e_alloc hF hW ze_30 rfl rfl rfl ?_); intro b5 a wc hF hW; refine l_nil <| t_n <| c_s <| c_sr <| pv hF hW (y_move hF rfl) fun a hF => pv hF hW (y_eql hF rfl rfl) fun a hF => ?_; replace hF := hF.ff; refine l_nil ?_; replace hF := hF.ks [0, 1, 2, 3, 4, 5, 6, 7, 8, 24, 26] rfl; refine t_n <| c_f hF rfl <| wp_skip <| t_n <| c_sr ?_; refine pe (e_call hF rfl rfl en_12 (by rfl) rfl rfl (kernBegun_any _) ?_); rintro e w1 ⟨rfl, hb⟩; replace hW := hW.kept hb; clear hb; refine ⟨_, rfl, fun a hF => ?_⟩; refine pv hF hW (y_move hF rfl) fun a hF => pvg hF hW (y_move hF rfl) (ws hF rfl rfl) fun a hF => pvg hF hW (y_move hF rfl) (ws hF rfl rfl) fun a hF => pvg hF hW (y_eql hF rfl rfl) (ws hF rfl rfl) fun a hF => ?_; replace hF := hF.tt; refine pv hF hW (y_pick hF rfl rfl) fun a hF => ?_; replace hF := hF.tt; refine pv hF hW (y_move hF rfl) fun a hF => ?_; replace hF := hF.tt; refine pvg hF hW (y_loadAll hF rfl 1 rfl Tryz.underlying30 rfl sz_30) (ws hF rfl rfl) fun a hF => pvg hF hW (y_loadAll hF rfl 0 rfl Tryz.underlying30 rfl sz_30) (ws hF rfl rfl) fun a hF => ?_; refine pe (e_call hF rfl rfl en_13 (by rfl) rfl rfl (same_worlds (y := WD.zero) (hW.res 2 rfl) (WD.zero_at _) hy1) ?_) (ws hF rfl rfl); rintro e w1 ⟨rfl, hb⟩; replace hW := hW.kept hb; clear hb; refine ⟨_, rfl, fun a hF => ?_⟩; refine pv hF hW (y_pick hF rfl rfl) fun a hF => ?_; replace hF := hF.drop 4; refine pv hF hW (y_assign hF rfl) fun a hF => l_nil ?_; replace hF := hF.ks [0, 1, 2, 3, 4, 5, 6, 7, 8, 24, 26] rfl; refine t_n <| wp_ret <| ret1 Tryz.results3 hF (rv_t hF rfl) ?_
        exact ⟨rfl, hW.below⟩
      · intro h4 hF; exfalso
        omega
    · have he := stepErrW_c hc
      generalize chkWorld x.sys y.wrl = C at *
      rw [x.val_eq, y.val_eq] at *
      refine enter Tryz.func3 rfl Tryz.ntmps3 rfl fun a hF => ?_
      have hW := Wd.start w NoB
      refine c_sr ?_; refine pe (e_box hF hW rfl rfl rfl rfl ?_); intro b1 a wc hF hW; refine pe (e_box hF hW rfl rfl rfl rfl ?_); intro b2 a wc hF hW; refine pv hF hW (y_assign hF rfl) fun a hF => l_nil <| t_n <| c_sr <| pv hF hW (y_loadAll hF rfl 1 rfl Tryz.underlying26 rfl sz_26) fun a hF => pv hF hW (y_loadAll hF rfl 0 rfl Tryz.underlying30 rfl sz_30) fun a hF => ?_; refine pe (e_call hF rfl rfl en_9 (by rfl) rfl rfl (hst _ hW.below C he hc) ?_); rintro e w1 ⟨y1, rfl, hy1, hN⟩; replace hW := hW.comb3 hN; replace hW := hW.own_world; refine ⟨_, rfl, fun a hF => ?_⟩; replace hF := Fr.cast (v' := .tuple #[.agg #[.int .i64 y1.tick, .slice y1.ca y1.cells.length y1.cc, .slice y1.la y1.lines.length y1.lc], .int .i64 C]) rfl hF; refine pv hF hW (y_move hF rfl) fun a hF => pv hF hW (y_extract hF rfl rfl) fun a hF => pv hF hW (y_extract hF rfl rfl) fun a hF => ?_; refine pe (e_alloc hF hW ze_30 rfl rfl rfl ?_); intro b3 a wc hF hW; refine pe (e_storeAll rfl hF hW rfl rfl 0 rfl rfl rfl (by kernel_rfl) sz_30 ?_); intro wc hW; refine pv hF hW (y_assign hF rfl) fun a hF => l_nil ?_; replace hF := hF.ks [0, 1, 2, 3, 4, 5, 6] rfl; refine t_n <| c_sr <| pv hF hW (y_loadAll hF rfl 3 rfl Tryz.underlying26 rfl sz_26) fun a hF => pv hF hW (y_loadAll hF rfl 2 rfl Tryz.underlying30 rfl sz_30) fun a hF => ?_; refine pe (e_call hF rfl rfl en_10 (by rfl) rfl rfl (hcR _ hW.below) ?_); rintro e w1 ⟨rfl, hb⟩; replace hW := hW.kept hb; clear hb; refine ⟨_, rfl, fun a hF => ?_⟩; refine pv hF hW (y_assign hF rfl) fun a hF => l_nil ?_; replace hF := hF.ks [0, 1, 2, 3, 4, 5, 6, 7] rfl; refine t_n <| c_s <| c_sr <| pv hF hW (y_move hF rfl) fun a hF => pv hF hW (y_eql hF rfl rfl) fun a hF => ?_; refine Fr.splitD hF ?_ ?_
      · intro h4 hF; exfalso
        omega
      · intro h4 hF; refine pv hF hW (y_move hF rfl) fun a hF => pk hF (wn hF rfl rfl rfl) fun a hF => pk hF (wn hF rfl rfl rfl) fun a hF => pk hF (wn hF rfl rfl rfl) fun a hF => pv hF hW (y_pick hF rfl rfl) fun a hF => l_nil ?_; replace hF := hF.ks [0, 1, 2, 3, 4, 5, 6, 7, 24] rfl; refine t_n <| c_f hF rfl <| wp_skip <| t_n <| c_sr ?_; refine pe (e_alloc hF hW ze_30 rfl rfl rfl ?_); intro b5 a wc hF hW; refine l_nil <| t_n <| c_s <| c_sr <| pv hF hW (y_move hF rfl) fun a hF => pv hF hW (y_eql hF rfl rfl) fun a hF => ?_; refine Fr.splitD hF ?_ ?_
        · intro h6 hF; exfalso
          omega
        · intro h6 hF; refine l_nil ?_; replace hF := hF.ks [0, 1, 2, 3, 4, 5, 6, 7, 8, 24, 26] rfl; refine t_n <| c_f hF rfl <| wp_skip <| t_n <| c_sr ?_; refine pe (e_call hF rfl rfl en_12 (by rfl) rfl rfl (kernBegun_any _) ?_); rintro e w1 ⟨rfl, hb⟩; replace hW := hW.kept hb; clear hb; refine ⟨_, rfl, fun a hF => ?_⟩; refine pv hF hW (y_move hF rfl) fun a hF => pvg hF hW (y_move hF rfl) (ws hF rfl rfl) fun a hF => pvg hF hW (y_move hF rfl) (ws hF rfl rfl) fun a hF => pvg hF hW (y_eql hF rfl rfl) (ws hF rfl rfl) fun a hF => ?_; refine Fr.splitD hF ?_ ?_
          · intro h7 hF; refine pv hF hW (y_pick hF rfl rfl) fun a hF => pv hF hW (y_move hF rfl) fun a hF => pvg hF hW (y_loadAll hF rfl 1 rfl Tryz.underlying30 rfl sz_30) (ws hF rfl rfl) fun a hF => pvg hF hW (y_loadAll hF rfl 0 rfl Tryz.underlying30 rfl sz_30) (ws hF rfl rfl) fun a hF => ?_; refine pe (e_call hF rfl rfl en_13 (by rfl) rfl rfl (same_worlds (y := WD.zero) (hW.res 2 rfl) (WD.zero_at _) hy1) ?_) (ws hF rfl rfl); rintro e w1 ⟨rfl, hb⟩; replace hW := hW.kept hb; clear hb; refine ⟨_, rfl, fun a hF => ?_⟩; refine pv hF hW (y_pick hF rfl rfl) fun a hF => ?_; replace hF := hF.drop 4; refine pv hF hW (y_assign hF rfl) fun a hF => l_nil ?_; replace hF := hF.ks [0, 1, 2, 3, 4, 5, 6, 7, 8, 24, 26] rfl; refine t_n <| wp_ret <| ret1 Tryz.results3 hF (rv_t hF rfl) ?_
            exact ⟨rfl, hW.below⟩
          · intro h7 hF; exfalso
            exact h7 rfl

set_option maxRecDepth 100000 in
theorem kernSteps_contract (H : Type) (enc : TypeId × Value → H) (W : World) (base : Nat) (args : Array Value) (ds gs : List (DataW H)) (before : List MemPlace)
    (hval : ∀ (j : Nat) t v, Tryz.f3.params[j]? = some t → args[j]? = some v → Value.okWide Tryz.prog W .any base t v)
    (hW : DataW.Whole enc Tryz.prog Tryz.f3.params.toList Rows.kernStepsSpec.vars false W args.toList ds gs before) :
    Calls Tryz.prog 3 args W fun e W' => ∃ v, e = .returned v ∧ Rows.kernStepsSpec.post enc Tryz.prog Tryz.f3 false true false false W args v W' := by
  have hW' := hW
  obtain ⟨p, q, hA0, hV, rfl, hfz, hnd⟩ := hW
  have hA : DataW.TrodAll enc Tryz.prog W 0 (fun _ => true) true Tryz.f3.params.toList args.toList ds p := hA0
  rw [Tryz.params3] at hA hval
  obtain ⟨v0, v1, d0, d1, p0, p1, rfl, rfl, rfl, h0, h1⟩ := trodAll_two hA
  obtain ⟨x, rfl, hx⟩ := sys_open (hval 0 26 v0 rfl rfl) h0
  obtain ⟨y, rfl, hy⟩ := wrl_open (hval 1 30 v1 rfl rfl) h1
  refine (kernSteps_run x y W hx hy).mono fun e W' ⟨he, hb⟩ => ?_
  subst he
  exact ⟨_, rfl, law_post Tryz.laidOut hW' hb rfl (by kernel_rfl) Tryz.underlying4 (by kernel_rfl) rfl⟩

set_option maxRecDepth 100000 in
theorem kernSteps_lifted (os : Os) (started : os.Started) (H : Type) (enc : TypeId × Value → H) :
    ReturnsInHanded {} Tryz.checked os 3 .any (Rows.kernStepsSpec.pre6 enc Tryz.prog Tryz.f3 Rows.kernStepsRow.domain false) (Rows.kernStepsSpec.post enc Tryz.prog Tryz.f3 false true false false) := by
  refine returnsInHanded_of_change (C := Tryz.checked) Tryz.own started (by kernel_rfl) Tryz.func3
    (ChangeSpec.witness6 (enc := enc) (C := Tryz.checked) false ⟨#[], #[.agg #[.slice none 0 0, .slice none 0 0, .slice none 0 0], .agg #[.int .i64 0, .slice none 0 0, .slice none 0 0]], []⟩ 8 (by kernel_rfl) (by kernel_rfl) (by kernel_rfl) (by kernel_rfl)) ?_
  intro W base args ds gs before hval hW _ _
  exact kernSteps_contract H enc W base args ds gs before hval hW

theorem kernSteps_holds : Rows.KernStepsSaid :=
  OpenClaim.holds_of_wide 3 Tryz.f3 rfl rfl rfl rfl rfl rfl rfl ⟨rfl, rfl, rfl, rfl, rfl⟩ rfl rfl rfl rfl rfl (by kernel_rfl) Tryz.func3 (by kernel_rfl)
    (of_decide_eq_true (by kernel_rfl)) (by unfold Func.isWrapper; first | (rw [if_pos (by decide +kernel)]; kernel_rfl) | (rw [if_neg (by decide +kernel)]; exact ⟨rfl, rfl⟩))
    (fun os started H enc _ => kernSteps_lifted os started H enc)
end Go.Proofs.YtoecpblabajlmaaGreat
