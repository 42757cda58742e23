/- The law ViewPurges answers true for every input. -/
import Derived.Test.YtoecpblabajlmaaGreatViewD
import Derived.Test.YtoecpblabajlmaaGreatViewG
import Derived.Test.YtoecpblabajlmaaGreatViewH
import Derived.Test.YtoecpblabajlmaaGreatSameSys
import Derived.Test.YtoecpblabajlmaaGreatPartW
namespace Go.Proofs.YtoecpblabajlmaaGreat
set_option linter.unusedVariables false
set_option linter.unusedSimpArgs false
open Go.ChangeShapes Go.WideShapes Go.ChangeAt Go.RowKit

set_option maxRecDepth 100000

set_option maxHeartbeats 4000000 in
theorem viewPurges_run (x : SysD) (part : Int) (q : PP) (w : World) (hx : x.At w) (hq : q.At w) (hl : q.1.code.length * 32 ≤ 140737488355328 ∧ q.1.inp.length * 8 ≤ 140737488355328) :
    Calls Tryz.prog 6 #[x.val, .int .i64 part, .agg (encP q).toArray] w fun e w' => e = .returned (.bool true) ∧ Below w.heap.size w w' := by
  have hpu := fun w1 (hb : Below w.heap.size w w1) => viewPurge_any (hx.below hb) part
  have hot := fun w1 (hb : Below w.heap.size w w1) => viewOther_any (hx.below hb) (hq.below hb) part hl
  have hro := fun w1 (hb : Below w.heap.size w w1) => otherOf_any (hx.below hb) (hq.below hb) part hl
  have hth := fun w1 (hb : Below w.heap.size w w1) => thereRR_any (hx.below hb) part
  generalize otherOr x.sys part q.1 = O at *
  generalize otherErr x.sys part q.1 = F at *
  change Calls _ _ #[_, _, .agg #[.slice q.2.ca q.1.code.length q.2.cc, .slice q.2.ia q.1.inp.length q.2.ic]] _ _
  by_cases h0 : thereErr x.sys part = 0
  · obtain ⟨hk, hpp⟩ := there_zero h0
    obtain ⟨hp0, hp1⟩ := part_len hpp
    obtain ⟨p, rfl⟩ := Int.eq_ofNat_of_zero_le hp0
    have hpl : p < x.parts.length := by omega
    have hpo := fun w1 (hb : Below w.heap.size w w1) => purgeOf_any (hx.below hb) hk hpl
    rw [show purgeOr x.sys p = purged x.sys p from (if_pos h0).trans (by rw [Int.toNat_natCast]), h0] at hpu
    rw [h0] at hth
    clear h0 hpp
    rw [x.val_eq] at *
    refine enter Tryz.func6 rfl Tryz.ntmps6 rfl fun a hF => ?_
    have hW := Wd.start w NoB
    refine c_sr ?_; refine pe (e_box hF hW rfl rfl rfl rfl ?_); intro b1 a wc hF hW; refine pe (e_box hF hW rfl rfl rfl rfl ?_); intro b2 a wc hF hW; refine pv hF hW (y_assign hF rfl) fun a hF => l_nil <| t_n <| c_sr <| pv hF hW (y_loadAll hF rfl 1 rfl Tryz.underlying26 rfl sz_26) fun a hF => pv hF hW (y_move hF rfl) fun a hF => ?_; refine pe (e_call hF rfl rfl en_22 (by rfl) rfl rfl (hpu _ hW.below) ?_); rintro e w1 ⟨ya, rfl, hya, hb, hr⟩; replace hW := hW.gotR hb hr; refine ⟨_, rfl, fun a hF => ?_⟩; replace hF := Fr.cast (v' := .tuple #[.agg #[.slice ya.pa ya.parts.length ya.pc, .slice ya.ha ya.chans.length ya.hc, .slice ya.sa ya.slots.length ya.sc], .int .i64 0]) rfl hF; refine pv hF hW (y_move hF rfl) fun a hF => pv hF hW (y_extract hF rfl rfl) fun a hF => pv hF hW (y_extract hF rfl rfl) fun a hF => ?_; refine pe (e_alloc hF hW ze_26 rfl rfl rfl ?_); intro b3 a wc hF hW; refine pe (e_storeAll rfl hF hW rfl rfl 0 rfl rfl rfl (by kernel_rfl) sz_26 ?_); intro wc hW; refine pv hF hW (y_assign hF rfl) fun a hF => l_nil ?_; replace hF := hF.ks [0, 1, 2, 3, 5, 6, 7, 8] rfl; refine t_n <| c_sr <| pv hF hW (y_loadAll hF rfl 3 rfl Tryz.underlying26 rfl sz_26) fun a hF => pv hF hW (y_move hF rfl) fun a hF => pv hF hW (y_loadAll hF rfl 2 rfl Tryz.underlying58 rfl sz_58) fun a hF => ?_; refine pe (e_call hF rfl rfl en_23 (by rfl) rfl rfl (hot _ hW.below) ?_); rintro e w1 ⟨yb, rfl, hyb, hb, hr⟩; replace hW := hW.gotR hb hr; refine ⟨_, rfl, fun a hF => ?_⟩; replace hF := Fr.cast (v' := .tuple #[.agg #[.slice yb.pa yb.parts.length yb.pc, .slice yb.ha yb.chans.length yb.hc, .slice yb.sa yb.slots.length yb.sc], .int .i64 F]) rfl hF; refine pv hF hW (y_move hF rfl) fun a hF => pv hF hW (y_extract hF rfl rfl) fun a hF => pv hF hW (y_extract hF rfl rfl) fun a hF => ?_; refine pe (e_alloc hF hW ze_26 rfl rfl rfl ?_); intro b4 a wc hF hW; refine pe (e_storeAll rfl hF hW rfl rfl 0 rfl rfl rfl (by kernel_rfl) sz_26 ?_); intro wc hW; refine pv hF hW (y_assign hF rfl) fun a hF => l_nil ?_; replace hF := hF.ks [0, 1, 2, 3, 5, 6, 7, 8, 9, 10] rfl; refine t_n <| c_sr <| pv hF hW (y_loadAll hF rfl 5 rfl Tryz.underlying26 rfl sz_26) fun a hF => pv hF hW (y_move hF rfl) fun a hF => ?_; refine pe (e_call hF rfl rfl en_18 (by rfl) rfl rfl (hth _ hW.below) ?_); rintro e w1 ⟨rfl, hb⟩; replace hW := hW.kept hb; clear hb; refine ⟨_, rfl, fun a hF => ?_⟩; refine pv hF hW (y_assign hF rfl) fun a hF => l_nil ?_; replace hF := hF.ks [0, 1, 2, 3, 5, 6, 7, 8, 9, 10, 11] rfl; refine t_n <| c_sr ?_; refine pe (e_alloc hF hW ze_26 rfl rfl rfl ?_); intro b5 a wc hF hW; refine l_nil <| t_n <| c_s <| c_sr <| pv hF hW (y_move hF rfl) fun a hF => pv hF hW (y_eql hF rfl rfl) fun a hF => ?_; replace hF := hF.tt; refine l_nil ?_
    replace hF := hF.ks [0, 1, 2, 3, 5, 6, 7, 8, 9, 10, 11, 12, 32] rfl; refine t_n <| c_t hF rfl <| c_r <| pv hF hW (y_loadAll hF rfl 6 rfl Tryz.underlying26 rfl sz_26) fun a hF => pv hF hW (y_move hF rfl) fun a hF => ?_; refine pe (e_call hF rfl rfl en_24 (by rfl) rfl rfl (hpo _ hW.below) ?_); rintro e w1 ⟨yd, rfl, hyd, hb, hr⟩; replace hW := hW.gotR hb hr; refine ⟨_, rfl, fun a hF => ?_⟩; replace hF := Fr.cast (v' := .agg #[.slice yd.pa yd.parts.length yd.pc, .slice yd.ha yd.chans.length yd.hc, .slice yd.sa yd.slots.length yd.sc]) rfl hF; refine pe (e_storeAll rfl hF hW rfl rfl 1 rfl rfl rfl (by kernel_rfl) sz_26 ?_); intro wc hW; refine l_nil ?_; replace hF := hF.ks [0, 1, 2, 3, 5, 6, 7, 8, 9, 10, 11, 12, 32] rfl; refine t_n <| c_sr <| pv hF hW (y_loadAll hF rfl 7 rfl Tryz.underlying26 rfl sz_26) fun a hF => pv hF hW (y_move hF rfl) fun a hF => pv hF hW (y_loadAll hF rfl 6 rfl Tryz.underlying58 rfl sz_58) fun a hF => ?_; refine pe (e_call hF rfl rfl en_25 (by rfl) rfl rfl (hro _ hW.below) ?_); rintro e w1 ⟨yc, rfl, hyc, hb, hr⟩; replace hW := hW.gotR hb hr; refine ⟨_, rfl, fun a hF => ?_⟩; replace hF := Fr.cast (v' := .tuple #[.agg #[.slice yc.pa yc.parts.length yc.pc, .slice yc.ha yc.chans.length yc.hc, .slice yc.sa yc.slots.length yc.sc], .int .i64 F]) rfl hF; refine pv hF hW (y_move hF rfl) fun a hF => pv hF hW (y_extract hF rfl rfl) fun a hF => pv hF hW (y_extract hF rfl rfl) fun a hF => ?_; refine pe (e_alloc hF hW ze_26 rfl rfl rfl ?_); intro b6 a wc hF hW; refine pe (e_storeAll rfl hF hW rfl rfl 0 rfl rfl rfl (by kernel_rfl) sz_26 ?_); intro wc hW; refine pv hF hW (y_assign hF rfl) fun a hF => l_nil ?_; replace hF := hF.ks [0, 1, 2, 3, 5, 6, 7, 8, 9, 10, 11, 12, 13, 14, 32] rfl; refine t_n <| c_sr ?_; refine pe (e_call hF rfl rfl en_20 (by rfl) rfl rfl (viewBegun_any _) ?_); rintro e w1 ⟨rfl, hb⟩; replace hW := hW.kept hb; clear hb; refine ⟨_, rfl, fun a hF => ?_⟩; refine pv hF hW (y_move hF rfl) fun a hF => pvg hF hW (y_move hF rfl) (ws hF rfl rfl) fun a hF => pvg hF hW (y_move hF rfl) (ws hF rfl rfl) fun a hF => pvg hF hW (y_eql hF rfl rfl) (ws hF rfl rfl) fun a hF => ?_; replace hF := hF.tt; refine pv hF hW (y_pick hF rfl rfl) fun a hF => ?_; replace hF := hF.tt; refine pv hF hW (y_move hF rfl) fun a hF => ?_; replace hF := hF.tt; refine pvg hF hW (y_move hF rfl) (ws hF rfl rfl) fun a hF => pvg hF hW (y_move hF rfl) (ws hF rfl rfl) fun a hF => pvg hF hW (y_eql hF rfl rfl) (ws hF rfl rfl) fun a hF => ?_; refine Fr.splitD hF ?_ ?_
    · intro h7 hF; refine pv hF hW (y_pick hF rfl rfl) fun a hF => pv hF hW (y_move hF rfl) fun a hF => pvg hF hW (y_loadAll hF rfl 6 rfl Tryz.underlying26 rfl sz_26) (ws hF rfl rfl) fun a hF => pvg hF hW (y_loadAll hF rfl 3 rfl Tryz.underlying26 rfl sz_26) (ws hF rfl rfl) fun a hF => ?_; refine pe (e_call hF rfl rfl en_26 (by rfl) rfl rfl (same_true (hW.res 7 rfl) (hW.res 2 rfl) (hya.trans hyd.symm)) ?_) (ws hF rfl rfl); rintro e w1 ⟨rfl, hb⟩; replace hW := hW.kept hb; clear hb; refine ⟨_, rfl, fun a hF => ?_⟩; refine pv hF hW (y_pick hF rfl rfl) fun a hF => pv hF hW (y_move hF rfl) fun a hF => pvg hF hW (y_loadAll hF rfl 4 rfl Tryz.underlying26 rfl sz_26) (ws hF rfl rfl) fun a hF => pvg hF hW (y_loadAll hF rfl 0 rfl Tryz.underlying26 rfl sz_26) (ws hF rfl rfl) fun a hF => ?_; refine pe (e_call hF rfl rfl en_26 (by rfl) rfl rfl (same_true (hW.res 5 rfl) (hW.res 1 rfl) (hyb.trans hyc.symm)) ?_) (ws hF rfl rfl); rintro e w1 ⟨rfl, hb⟩; replace hW := hW.kept hb; clear hb; refine ⟨_, rfl, fun a hF => ?_⟩; refine pv hF hW (y_pick hF rfl rfl) fun a hF => ?_; replace hF := hF.drop 6; refine pv hF hW (y_assign hF rfl) fun a hF => l_nil ?_; replace hF := hF.ks [0, 1, 2, 3, 5, 6, 7, 8, 9, 10, 11, 12, 13, 14, 32] rfl; refine t_n <| wp_ret <| ret1 Tryz.results6 hF (rv_t hF rfl) ?_
      exact ⟨rfl, hW.below⟩
    · intro h7 hF; exfalso
      omega
  · rw [show purgeOr x.sys part = Sys.zero from if_neg h0] at hpu
    generalize thereErr x.sys part = E at *
    rw [x.val_eq] at *
    refine enter Tryz.func6 rfl Tryz.ntmps6 rfl fun a hF => ?_
    have hW := Wd.start w NoB
    refine c_sr ?_; refine pe (e_box hF hW rfl rfl rfl rfl ?_); intro b1 a wc hF hW; refine pe (e_box hF hW rfl rfl rfl rfl ?_); intro b2 a wc hF hW; refine pv hF hW (y_assign hF rfl) fun a hF => l_nil <| t_n <| c_sr <| pv hF hW (y_loadAll hF rfl 1 rfl Tryz.underlying26 rfl sz_26) fun a hF => pv hF hW (y_move hF rfl) fun a hF => ?_; refine pe (e_call hF rfl rfl en_22 (by rfl) rfl rfl (hpu _ hW.below) ?_); rintro e w1 ⟨ya, rfl, hya, hb, hr⟩; replace hW := hW.gotR hb hr; refine ⟨_, rfl, fun a hF => ?_⟩; replace hF := Fr.cast (v' := .tuple #[.agg #[.slice ya.pa ya.parts.length ya.pc, .slice ya.ha ya.chans.length ya.hc, .slice ya.sa ya.slots.length ya.sc], .int .i64 E]) rfl hF; refine pv hF hW (y_move hF rfl) fun a hF => pv hF hW (y_extract hF rfl rfl) fun a hF => pv hF hW (y_extract hF rfl rfl) fun a hF => ?_; refine pe (e_alloc hF hW ze_26 rfl rfl rfl ?_); intro b3 a wc hF hW; refine pe (e_storeAll rfl hF hW rfl rfl 0 rfl rfl rfl (by kernel_rfl) sz_26 ?_); intro wc hW; refine pv hF hW (y_assign hF rfl) fun a hF => l_nil ?_; replace hF := hF.ks [0, 1, 2, 3, 5, 6, 7, 8] rfl; refine t_n <| c_sr <| pv hF hW (y_loadAll hF rfl 3 rfl Tryz.underlying26 rfl sz_26) fun a hF => pv hF hW (y_move hF rfl) fun a hF => pv hF hW (y_loadAll hF rfl 2 rfl Tryz.underlying58 rfl sz_58) fun a hF => ?_; refine pe (e_call hF rfl rfl en_23 (by rfl) rfl rfl (hot _ hW.below) ?_); rintro e w1 ⟨yb, rfl, hyb, hb, hr⟩; replace hW := hW.gotR hb hr; refine ⟨_, rfl, fun a hF => ?_⟩; replace hF := Fr.cast (v' := .tuple #[.agg #[.slice yb.pa yb.parts.length yb.pc, .slice yb.ha yb.chans.length yb.hc, .slice yb.sa yb.slots.length yb.sc], .int .i64 F]) rfl hF; refine pv hF hW (y_move hF rfl) fun a hF => pv hF hW (y_extract hF rfl rfl) fun a hF => pv hF hW (y_extract hF rfl rfl) fun a hF => ?_; refine pe (e_alloc hF hW ze_26 rfl rfl rfl ?_); intro b4 a wc hF hW; refine pe (e_storeAll rfl hF hW rfl rfl 0 rfl rfl rfl (by kernel_rfl) sz_26 ?_); intro wc hW; refine pv hF hW (y_assign hF rfl) fun a hF => l_nil ?_; replace hF := hF.ks [0, 1, 2, 3, 5, 6, 7, 8, 9, 10] rfl; refine t_n <| c_sr <| pv hF hW (y_loadAll hF rfl 5 rfl Tryz.underlying26 rfl sz_26) fun a hF => pv hF hW (y_move hF rfl) fun a hF => ?_; refine pe (e_call hF rfl rfl en_18 (by rfl) rfl rfl (hth _ hW.below) ?_); rintro e w1 ⟨rfl, hb⟩; replace hW := hW.kept hb; clear hb; refine ⟨_, rfl, fun a hF => ?_⟩; refine pv hF hW (y_assign hF rfl) fun a hF => l_nil ?_; replace hF := hF.ks [0, 1, 2, 3, 5, 6, 7, 8, 9, 10, 11] rfl; refine t_n <| c_sr ?_; refine pe (e_alloc hF hW ze_26 rfl rfl rfl ?_); intro b5 a wc hF hW; refine l_nil <| t_n <| c_s <| c_sr <| pv hF hW (y_move hF rfl) fun a hF => pv hF hW (y_eql hF rfl rfl) fun a hF => ?_; refine Fr.splitD hF ?_ ?_
    · intro h6 hF; exfalso
      omega
    · intro h6 hF; refine l_nil ?_; replace hF := hF.ks [0, 1, 2, 3, 5, 6, 7, 8, 9, 10, 11, 12, 32] rfl; refine t_n <| c_f hF rfl <| wp_skip <| t_n <| c_sr <| pv hF hW (y_loadAll hF rfl 6 rfl Tryz.underlying26 rfl sz_26) fun a hF => pv hF hW (y_move hF rfl) fun a hF => pv hF hW (y_loadAll hF rfl 5 rfl Tryz.underlying58 rfl sz_58) fun a hF => ?_; refine pe (e_call hF rfl rfl en_25 (by rfl) rfl rfl (hro _ hW.below) ?_); rintro e w1 ⟨yc, rfl, hyc, hb, hr⟩; replace hW := hW.gotR hb hr; refine ⟨_, rfl, fun a hF => ?_⟩; replace hF := Fr.cast (v' := .tuple #[.agg #[.slice yc.pa yc.parts.length yc.pc, .slice yc.ha yc.chans.length yc.hc, .slice yc.sa yc.slots.length yc.sc], .int .i64 F]) rfl hF; refine pv hF hW (y_move hF rfl) fun a hF => pv hF hW (y_extract hF rfl rfl) fun a hF => pv hF hW (y_extract hF rfl rfl) fun a hF => ?_; refine pe (e_alloc hF hW ze_26 rfl rfl rfl ?_); intro b7 a wc hF hW; refine pe (e_storeAll rfl hF hW rfl rfl 0 rfl rfl rfl (by kernel_rfl) sz_26 ?_); intro wc hW; refine pv hF hW (y_assign hF rfl) fun a hF => l_nil ?_; replace hF := hF.ks [0, 1, 2, 3, 5, 6, 7, 8, 9, 10, 11, 12, 13, 14, 32] rfl; refine t_n <| c_sr ?_; refine pe (e_call hF rfl rfl en_20 (by rfl) rfl rfl (viewBegun_any _) ?_); rintro e w1 ⟨rfl, hb⟩; replace hW := hW.kept hb; clear hb; refine ⟨_, rfl, fun a hF => ?_⟩; refine pv hF hW (y_move hF rfl) fun a hF => pvg hF hW (y_move hF rfl) (ws hF rfl rfl) fun a hF => pvg hF hW (y_move hF rfl) (ws hF rfl rfl) fun a hF => pvg hF hW (y_eql hF rfl rfl) (ws hF rfl rfl) fun a hF => ?_; refine Fr.splitD hF ?_ ?_
      · intro h8 hF; refine pv hF hW (y_pick hF rfl rfl) fun a hF => pv hF hW (y_move hF rfl) fun a hF => pvg hF hW (y_move hF rfl) (ws hF rfl rfl) fun a hF => pvg hF hW (y_move hF rfl) (ws hF rfl rfl) fun a hF => pvg hF hW (y_eql hF rfl rfl) (ws hF rfl rfl) fun a hF => ?_; refine Fr.splitD hF ?_ ?_
        · intro h9 hF; refine pv hF hW (y_pick hF rfl rfl) fun a hF => pv hF hW (y_move hF rfl) fun a hF => pvg hF hW (y_loadAll hF rfl 5 rfl Tryz.underlying26 rfl sz_26) (ws hF rfl rfl) fun a hF => pvg hF hW (y_loadAll hF rfl 2 rfl Tryz.underlying26 rfl sz_26) (ws hF rfl rfl) fun a hF => ?_; refine pe (e_call hF rfl rfl en_26 (by rfl) rfl rfl (same_true (y := SysD.zero) (hW.res 6 rfl) (SysD.zero_at _) hya) ?_) (ws hF rfl rfl); rintro e w1 ⟨rfl, hb⟩; replace hW := hW.kept hb; clear hb; refine ⟨_, rfl, fun a hF => ?_⟩; refine pv hF hW (y_pick hF rfl rfl) fun a hF => pv hF hW (y_move hF rfl) fun a hF => pvg hF hW (y_loadAll hF rfl 3 rfl Tryz.underlying26 rfl sz_26) (ws hF rfl rfl) fun a hF => pvg hF hW (y_loadAll hF rfl 0 rfl Tryz.underlying26 rfl sz_26) (ws hF rfl rfl) fun a hF => ?_; refine pe (e_call hF rfl rfl en_26 (by rfl) rfl rfl (same_true (hW.res 4 rfl) (hW.res 1 rfl) (hyb.trans hyc.symm)) ?_) (ws hF rfl rfl); rintro e w1 ⟨rfl, hb⟩; replace hW := hW.kept hb; clear hb; refine ⟨_, rfl, fun a hF => ?_⟩; refine pv hF hW (y_pick hF rfl rfl) fun a hF => ?_; replace hF := hF.drop 6; refine pv hF hW (y_assign hF rfl) fun a hF => l_nil ?_; replace hF := hF.ks [0, 1, 2, 3, 5, 6, 7, 8, 9, 10, 11, 12, 13, 14, 32] rfl; refine t_n <| wp_ret <| ret1 Tryz.results6 hF (rv_t hF rfl) ?_
          exact ⟨rfl, hW.below⟩
        · intro h9 hF; exfalso
          omega
      · intro h8 hF; exfalso
        omega

set_option maxRecDepth 100000 in
theorem viewPurges_contract (H : Type) (enc : TypeId × Value → H) (W : World) (base : Nat) (args : Array Value) (ds gs : List (DataW H)) (before : List MemPlace)
    (hval : ∀ (j : Nat) t v, Tryz.f6.params[j]? = some t → args[j]? = some v → Value.okWide Tryz.prog W .any base t v)
    (hW : DataW.Whole enc Tryz.prog Tryz.f6.params.toList Rows.viewPurgesSpec.vars false W args.toList ds gs before) (hwt : (DataW.weightsEach Tryz.prog [26, 3, 58] ds).all (· ≤ reachBytes) = true) :
    Calls Tryz.prog 6 args W fun e W' => ∃ v, e = .returned v ∧ Rows.viewPurgesSpec.post enc Tryz.prog Tryz.f6 false true false false W args v W' := by
  have hW' := hW
  obtain ⟨p, q, hA0, hV, rfl, hfz, hnd⟩ := hW
  have hA : DataW.TrodAll enc Tryz.prog W 0 (fun _ => true) true Tryz.f6.params.toList args.toList ds p := hA0
  rw [Tryz.params6] at hA hval
  obtain ⟨v0, v1, v2, d0, d1, d2, p0, p1, p2, rfl, rfl, rfl, h0, h1, h2⟩ := trodAll_three hA
  obtain ⟨x, rfl, hx⟩ := sys_open (hval 0 26 v0 rfl rfl) h0
  obtain ⟨part, rfl, rfl, rfl, wk1⟩ := open_int Tryz.underlying3 (hval 1 3 v1 rfl rfl) h1
  obtain ⟨q, rfl, hq, hql⟩ := partW_open (hval 2 58 v2 rfl rfl) h2
  refine (viewPurges_run x part q W hx hq (hql (by simp only [DataW.weightsEach, List.all_append, Bool.and_eq_true] at hwt; exact hwt.2.2.1))).mono fun e W' ⟨he, hb⟩ => ?_
  subst he
  exact ⟨_, rfl, law_post Tryz.laidOut hW' hb rfl (by kernel_rfl) Tryz.underlying4 (by kernel_rfl) rfl⟩

set_option maxRecDepth 100000 in
theorem viewPurges_lifted (os : Os) (started : os.Started) (H : Type) (enc : TypeId × Value → H) :
    ReturnsInHanded {} Tryz.checked os 6 .any (Rows.viewPurgesSpec.pre6 enc Tryz.prog Tryz.f6 Rows.viewPurgesRow.domain false) (Rows.viewPurgesSpec.post enc Tryz.prog Tryz.f6 false true false false) := by
  refine returnsInHanded_of_change_sized (C := Tryz.checked) Tryz.own started (by kernel_rfl) Tryz.func6
    (ChangeSpec.witness6 (enc := enc) (C := Tryz.checked) false ⟨#[], #[.agg #[.slice none 0 0, .slice none 0 0, .slice none 0 0], .int .i64 0, .agg #[.slice none 0 0, .slice none 0 0]], []⟩ 8 (by kernel_rfl) (by kernel_rfl) (by kernel_rfl) (by kernel_rfl)) ?_
  intro W base args ds gs before hval hW _ hwt _
  have hgs : gs = [] := by
    obtain ⟨p, q, _, hV, _⟩ := hW
    cases gs with
    | nil => rfl
    | cons _ _ => exact hV.elim
  subst hgs
  rw [List.append_nil] at hwt
  exact viewPurges_contract H enc W base args ds [] before hval hW hwt

theorem viewPurges_holds : Rows.ViewPurgesSaid :=
  OpenClaim.holds_of_wide 6 Tryz.f6 rfl rfl rfl rfl rfl rfl rfl ⟨rfl, rfl, rfl, rfl, rfl⟩ rfl rfl rfl rfl rfl (by kernel_rfl) Tryz.func6 (by kernel_rfl)
    (of_decide_eq_true (by kernel_rfl)) (by unfold Func.isWrapper; first | (rw [if_pos (by decide +kernel)]; kernel_rfl) | (rw [if_neg (by decide +kernel)]; exact ⟨rfl, rfl⟩))
    (fun os started H enc _ => viewPurges_lifted os started H enc)
end Go.Proofs.YtoecpblabajlmaaGreat
