/- The law ConfCalm answers true for every input. -/
import Derived.Test.YtebklpbbglojmaaConfPl
namespace Go.Proofs.Ytebklpbbglojmaa
set_option linter.unusedVariables false
set_option linter.unusedSimpArgs false
open Go.ChangeShapes Go.WideShapes Go.ChangeAt Go.RowKit

set_option maxRecDepth 100000

theorem confCalm_run (x : SysD) (a b : Int) (w : World) (hx : x.At w) :
    Calls Try.prog 9 #[x.val, .int .i64 a, .int .i64 b] w fun e w' => e = .returned (.bool true) ∧ Below w.heap.size w w' := by
  by_cases ha : thereErr x.sys a = 0
  · by_cases hb' : thereErr x.sys b = 0
    · have hcalma := fun w1 (hb : Below w.heap.size w w1) => calm_ok (hx.below hb) rfl ha
      have hcalmb := fun w1 (hb : Below w.heap.size w w1) => calm_ok (hx.below hb) rfl hb'
      have hk := chkSys_calm (n := a.toNat) (there_zero ha).1
      rw [x.val_eq] at *
      refine enter Try.func9 rfl Try.ntmps9 rfl (fun a hF => ?_)
      have hW := Wd.start w NoB
      refine c_sr ?_
      refine pe (e_box hF hW rfl rfl rfl rfl ?_)
      intro b1 a wc hF hW
      refine pv hF hW (y_assign hF rfl) (fun a hF => ?_)
      refine l_nil ?_
      refine t_n ?_
      refine c_sr ?_
      refine pv hF hW (y_loadAll hF rfl 0 rfl Try.underlying68 rfl sz_68) (fun a hF => ?_)
      refine pv hF hW (y_move hF rfl) (fun a hF => ?_)
      refine pe (e_call hF rfl rfl en_31 (by rfl) rfl rfl (hcalma _ hW.below) ?_)
      rintro e w1 ⟨y, rfl, hy, hb, hr⟩
      replace hW := hW.gotR hb hr
      refine ⟨_, rfl, fun a hF => ?_⟩
      replace hF := Fr.cast (v' := .tuple #[.agg #[.slice y.pa y.parts.length y.pc, .slice y.ha y.chans.length y.hc, .slice y.sa y.slots.length y.sc], .int .i64 0]) rfl hF
      refine pv hF hW (y_move hF rfl) (fun a hF => ?_)
      refine pv hF hW (y_extract hF rfl rfl) (fun a hF => ?_)
      refine pv hF hW (y_extract hF rfl rfl) (fun a hF => ?_)
      refine pe (e_alloc hF hW ze_68 rfl rfl rfl ?_)
      intro b2 a wc hF hW
      refine pe (e_storeAll rfl hF hW rfl rfl 0 rfl rfl rfl (by kernel_rfl) sz_68 ?_)
      intro wc hW
      refine pv hF hW (y_assign hF rfl) (fun a hF => ?_)
      refine l_nil ?_
      replace hF := (hF.k 0 rfl (hF.k 1 rfl (hF.k 2 rfl (hF.k 3 rfl (hF.k 6 rfl (hF.k 7 rfl (hF.k 8 rfl hF.nil)))))))
      refine t_n ?_
      refine c_sr ?_
      refine pv hF hW (y_loadAll hF rfl 2 rfl Try.underlying68 rfl sz_68) (fun a hF => ?_)
      refine pv hF hW (y_move hF rfl) (fun a hF => ?_)
      refine pe (e_call hF rfl rfl en_31 (by rfl) rfl rfl (hcalmb _ hW.below) ?_)
      rintro e w1 ⟨z, rfl, hz, hb, hr⟩
      replace hW := hW.gotR hb hr
      refine ⟨_, rfl, fun a hF => ?_⟩
      replace hF := Fr.cast (v' := .tuple #[.agg #[.slice z.pa z.parts.length z.pc, .slice z.ha z.chans.length z.hc, .slice z.sa z.slots.length z.sc], .int .i64 0]) rfl hF
      refine pv hF hW (y_move hF rfl) (fun a hF => ?_)
      refine pv hF hW (y_extract hF rfl rfl) (fun a hF => ?_)
      refine pv hF hW (y_extract hF rfl rfl) (fun a hF => ?_)
      refine pe (e_alloc hF hW ze_68 rfl rfl rfl ?_)
      intro b3 a wc hF hW
      refine pe (e_storeAll rfl hF hW rfl rfl 0 rfl rfl rfl (by kernel_rfl) sz_68 ?_)
      intro wc hW
      refine pv hF hW (y_assign hF rfl) (fun a hF => ?_)
      refine l_nil ?_
      replace hF := (hF.k 0 rfl (hF.k 1 rfl (hF.k 2 rfl (hF.k 3 rfl (hF.k 6 rfl (hF.k 7 rfl (hF.k 8 rfl (hF.k 9 rfl (hF.k 10 rfl hF.nil)))))))))
      refine t_n ?_
      refine c_s ?_
      refine c_sr ?_
      refine pv hF hW (y_move hF rfl) (fun a hF => ?_)
      refine pv hF hW (y_neq hF rfl rfl) (fun a hF => ?_)
      replace hF := Fr.bool (t := false) (by first | decide | (simp; done) | rfl) hF
      refine pv hF hW (y_move hF rfl) (fun a hF => ?_)
      replace hF := Fr.bool (t := false) (by first | decide | (simp; done) | rfl) hF
      refine pv hF hW (y_move hF rfl) (fun a hF => ?_) (ws hF rfl rfl)
      refine pv hF hW (y_neq hF rfl rfl) (fun a hF => ?_) (ws hF rfl rfl)
      replace hF := Fr.bool (t := false) (by first | decide | (simp; done) | rfl) hF
      refine pv hF hW (y_pick hF rfl rfl) (fun a hF => ?_)
      replace hF := Fr.bool (t := false) (by first | decide | (simp; done) | rfl) hF
      refine l_nil ?_
      replace hF := (hF.k 0 rfl (hF.k 1 rfl (hF.k 2 rfl (hF.k 3 rfl (hF.k 6 rfl (hF.k 7 rfl (hF.k 8 rfl (hF.k 9 rfl (hF.k 10 rfl (hF.k 34 rfl hF.nil))))))))))
      refine t_n ?_
      refine c_f hF rfl ?_
      refine wp_skip ?_
      refine t_n ?_
      refine c_sr ?_
      refine pv hF hW (y_loadAll hF rfl 2 rfl Try.underlying68 rfl sz_68) (fun a hF => ?_)
      refine pv hF hW (y_move hF rfl) (fun a hF => ?_)
      refine pe (e_call hF rfl rfl en_31 (by rfl) rfl rfl (calm_ok (hW.res 3 rfl) hy (there_calm ha)) ?_)
      rintro e w1 ⟨ya, rfl, hya, hb, hr⟩
      replace hW := hW.gotR hb hr
      refine ⟨_, rfl, fun a hF => ?_⟩
      replace hF := Fr.cast (v' := .tuple #[.agg #[.slice ya.pa ya.parts.length ya.pc, .slice ya.ha ya.chans.length ya.hc, .slice ya.sa ya.slots.length ya.sc], .int .i64 0]) rfl hF
      refine pv hF hW (y_move hF rfl) (fun a hF => ?_)
      refine pv hF hW (y_extract hF rfl rfl) (fun a hF => ?_)
      refine pv hF hW (y_extract hF rfl rfl) (fun a hF => ?_)
      refine pe (e_alloc hF hW ze_68 rfl rfl rfl ?_)
      intro b4 a wc hF hW
      refine pe (e_storeAll rfl hF hW rfl rfl 0 rfl rfl rfl (by kernel_rfl) sz_68 ?_)
      intro wc hW
      refine pv hF hW (y_assign hF rfl) (fun a hF => ?_)
      refine l_nil ?_
      replace hF := (hF.k 0 rfl (hF.k 1 rfl (hF.k 2 rfl (hF.k 3 rfl (hF.k 6 rfl (hF.k 7 rfl (hF.k 8 rfl (hF.k 9 rfl (hF.k 10 rfl (hF.k 11 rfl (hF.k 12 rfl (hF.k 34 rfl hF.nil))))))))))))
      refine t_n ?_
      refine c_sr ?_
      refine pv hF hW (y_loadAll hF rfl 4 rfl Try.underlying68 rfl sz_68) (fun a hF => ?_)
      refine pv hF hW (y_move hF rfl) (fun a hF => ?_)
      refine pe (e_call hF rfl rfl en_31 (by rfl) rfl rfl (calm_ok (hW.res 5 rfl) hy (there_calm hb')) ?_)
      rintro e w1 ⟨yb, rfl, hyb, hb, hr⟩
      replace hW := hW.gotR hb hr
      refine ⟨_, rfl, fun a hF => ?_⟩
      replace hF := Fr.cast (v' := .tuple #[.agg #[.slice yb.pa yb.parts.length yb.pc, .slice yb.ha yb.chans.length yb.hc, .slice yb.sa yb.slots.length yb.sc], .int .i64 0]) rfl hF
      refine pv hF hW (y_move hF rfl) (fun a hF => ?_)
      refine pv hF hW (y_extract hF rfl rfl) (fun a hF => ?_)
      refine pv hF hW (y_extract hF rfl rfl) (fun a hF => ?_)
      refine pe (e_alloc hF hW ze_68 rfl rfl rfl ?_)
      intro b5 a wc hF hW
      refine pe (e_storeAll rfl hF hW rfl rfl 0 rfl rfl rfl (by kernel_rfl) sz_68 ?_)
      intro wc hW
      refine pv hF hW (y_assign hF rfl) (fun a hF => ?_)
      refine l_nil ?_
      replace hF := (hF.k 0 rfl (hF.k 1 rfl (hF.k 2 rfl (hF.k 3 rfl (hF.k 6 rfl (hF.k 7 rfl (hF.k 8 rfl (hF.k 9 rfl (hF.k 10 rfl (hF.k 11 rfl (hF.k 12 rfl (hF.k 13 rfl (hF.k 14 rfl (hF.k 34 rfl hF.nil))))))))))))))
      refine t_n ?_
      refine c_sr ?_
      refine pv hF hW (y_loadAll hF rfl 4 rfl Try.underlying68 rfl sz_68) (fun a hF => ?_)
      refine pv hF hW (y_move hF rfl) (fun a hF => ?_)
      refine pe (e_call hF rfl rfl en_31 (by rfl) rfl rfl (calm_ok (hW.res 5 rfl) hz (there_calm ha)) ?_)
      rintro e w1 ⟨za, rfl, hza, hb, hr⟩
      replace hW := hW.gotR hb hr
      refine ⟨_, rfl, fun a hF => ?_⟩
      replace hF := Fr.cast (v' := .tuple #[.agg #[.slice za.pa za.parts.length za.pc, .slice za.ha za.chans.length za.hc, .slice za.sa za.slots.length za.sc], .int .i64 0]) rfl hF
      refine pv hF hW (y_move hF rfl) (fun a hF => ?_)
      refine pv hF hW (y_extract hF rfl rfl) (fun a hF => ?_)
      refine pv hF hW (y_extract hF rfl rfl) (fun a hF => ?_)
      refine pe (e_alloc hF hW ze_68 rfl rfl rfl ?_)
      intro b6 a wc hF hW
      refine pe (e_storeAll rfl hF hW rfl rfl 0 rfl rfl rfl (by kernel_rfl) sz_68 ?_)
      intro wc hW
      refine pv hF hW (y_assign hF rfl) (fun a hF => ?_)
      refine l_nil ?_
      replace hF := (hF.k 0 rfl (hF.k 1 rfl (hF.k 2 rfl (hF.k 3 rfl (hF.k 6 rfl (hF.k 7 rfl (hF.k 8 rfl (hF.k 9 rfl (hF.k 10 rfl (hF.k 11 rfl (hF.k 12 rfl (hF.k 13 rfl (hF.k 14 rfl (hF.k 15 rfl (hF.k 16 rfl (hF.k 34 rfl hF.nil))))))))))))))))
      refine t_n ?_
      refine c_sr ?_
      refine pe (e_call hF rfl rfl en_34 (by rfl) rfl rfl (confBegun_any _) ?_)
      rintro e w1 ⟨rfl, hb⟩
      replace hW := hW.kept hb
      clear hb
      refine ⟨_, rfl, fun a hF => ?_⟩
      refine pv hF hW (y_move hF rfl) (fun a hF => ?_)
      refine pv hF hW (y_loadAll hF rfl 8 rfl Try.underlying68 rfl sz_68) (fun a hF => ?_) (ws hF rfl rfl)
      refine pe (e_call hF rfl rfl en_35 (by rfl) rfl rfl (by have h := confCheck_any (hW.res 9 rfl); rw [hy, hk] at h; exact h) ?_) (ws hF rfl rfl)
      rintro e w1 ⟨rfl, hb⟩
      replace hW := hW.kept hb
      clear hb
      refine ⟨_, rfl, fun a hF => ?_⟩
      refine pv hF hW (y_eql hF rfl rfl) (fun a hF => ?_) (ws hF rfl rfl)
      replace hF := Fr.bool (t := true) (by first | decide | (simp; done) | rfl) hF
      refine pv hF hW (y_pick hF rfl rfl) (fun a hF => ?_)
      replace hF := Fr.bool (t := true) (by first | decide | (simp; done) | rfl) hF
      refine pv hF hW (y_move hF rfl) (fun a hF => ?_)
      replace hF := Fr.bool (t := true) (by first | decide | (simp; done) | rfl) hF
      refine pv hF hW (y_move hF rfl) (fun a hF => ?_) (ws hF rfl rfl)
      refine pv hF hW (y_eql hF rfl rfl) (fun a hF => ?_) (ws hF rfl rfl)
      replace hF := Fr.bool (t := true) (by first | decide | (simp; done) | rfl) hF
      refine pv hF hW (y_pick hF rfl rfl) (fun a hF => ?_)
      replace hF := Fr.bool (t := true) (by first | decide | (simp; done) | rfl) hF
      refine pv hF hW (y_move hF rfl) (fun a hF => ?_)
      replace hF := Fr.bool (t := true) (by first | decide | (simp; done) | rfl) hF
      refine pv hF hW (y_move hF rfl) (fun a hF => ?_) (ws hF rfl rfl)
      refine pv hF hW (y_eql hF rfl rfl) (fun a hF => ?_) (ws hF rfl rfl)
      replace hF := Fr.bool (t := true) (by first | decide | (simp; done) | rfl) hF
      refine pv hF hW (y_pick hF rfl rfl) (fun a hF => ?_)
      replace hF := Fr.bool (t := true) (by first | decide | (simp; done) | rfl) hF
      refine pv hF hW (y_move hF rfl) (fun a hF => ?_)
      replace hF := Fr.bool (t := true) (by first | decide | (simp; done) | rfl) hF
      refine pv hF hW (y_move hF rfl) (fun a hF => ?_) (ws hF rfl rfl)
      refine pv hF hW (y_eql hF rfl rfl) (fun a hF => ?_) (ws hF rfl rfl)
      replace hF := Fr.bool (t := true) (by first | decide | (simp; done) | rfl) hF
      refine pv hF hW (y_pick hF rfl rfl) (fun a hF => ?_)
      replace hF := Fr.bool (t := true) (by first | decide | (simp; done) | rfl) hF
      refine pv hF hW (y_move hF rfl) (fun a hF => ?_)
      replace hF := Fr.bool (t := true) (by first | decide | (simp; done) | rfl) hF
      refine pv hF hW (y_loadAll hF rfl 4 rfl Try.underlying68 rfl sz_68) (fun a hF => ?_) (ws hF rfl rfl)
      refine pv hF hW (y_loadAll hF rfl 8 rfl Try.underlying68 rfl sz_68) (fun a hF => ?_) (ws hF rfl rfl)
      refine pe (e_call hF rfl rfl en_37 (by rfl) rfl rfl (same_true (hW.res 5 rfl) (hW.res 9 rfl) (by rw [hya, hy, calm_calm])) ?_) (ws hF rfl rfl)
      rintro e w1 ⟨rfl, hb⟩
      replace hW := hW.kept hb
      clear hb
      refine ⟨_, rfl, fun a hF => ?_⟩
      refine pv hF hW (y_pick hF rfl rfl) (fun a hF => ?_)
      refine pv hF hW (y_move hF rfl) (fun a hF => ?_)
      refine pv hF hW (y_loadAll hF rfl 2 rfl Try.underlying68 rfl sz_68) (fun a hF => ?_) (ws hF rfl rfl)
      refine pv hF hW (y_loadAll hF rfl 0 rfl Try.underlying68 rfl sz_68) (fun a hF => ?_) (ws hF rfl rfl)
      refine pe (e_call hF rfl rfl en_37 (by rfl) rfl rfl (same_true (hW.res 3 rfl) (hW.res 1 rfl) (by rw [hyb, hza, calm_comm])) ?_) (ws hF rfl rfl)
      rintro e w1 ⟨rfl, hb⟩
      replace hW := hW.kept hb
      clear hb
      refine ⟨_, rfl, fun a hF => ?_⟩
      refine pv hF hW (y_pick hF rfl rfl) (fun a hF => ?_)
      replace hF := hF.drop 6
      refine pv hF hW (y_assign hF rfl) (fun a hF => ?_)
      refine l_nil ?_
      replace hF := (hF.k 0 rfl (hF.k 1 rfl (hF.k 2 rfl (hF.k 3 rfl (hF.k 6 rfl (hF.k 7 rfl (hF.k 8 rfl (hF.k 9 rfl (hF.k 10 rfl (hF.k 11 rfl (hF.k 12 rfl (hF.k 13 rfl (hF.k 14 rfl (hF.k 15 rfl (hF.k 16 rfl (hF.k 34 rfl hF.nil))))))))))))))))
      refine t_n ?_
      refine wp_ret ?_
      refine ret1 Try.results9 hF (rv_t hF rfl) ?_
      exact ⟨rfl, hW.below⟩
    · have hcalma := fun w1 (hb : Below w.heap.size w w1) => calm_ok (hx.below hb) rfl ha
      have hcalmb := fun w1 (hb : Below w.heap.size w w1) => calm_no (hx.below hb) rfl rfl hb'
      generalize thereErr x.sys b = E at *
      rw [x.val_eq] at *
      refine enter Try.func9 rfl Try.ntmps9 rfl (fun a hF => ?_)
      have hW := Wd.start w NoB
      refine c_sr ?_
      refine pe (e_box hF hW rfl rfl rfl rfl ?_)
      intro b1 a wc hF hW
      refine pv hF hW (y_assign hF rfl) (fun a hF => ?_)
      refine l_nil ?_
      refine t_n ?_
      refine c_sr ?_
      refine pv hF hW (y_loadAll hF rfl 0 rfl Try.underlying68 rfl sz_68) (fun a hF => ?_)
      refine pv hF hW (y_move hF rfl) (fun a hF => ?_)
      refine pe (e_call hF rfl rfl en_31 (by rfl) rfl rfl (hcalma _ hW.below) ?_)
      rintro e w1 ⟨y, rfl, hy, hb, hr⟩
      replace hW := hW.gotR hb hr
      refine ⟨_, rfl, fun a hF => ?_⟩
      replace hF := Fr.cast (v' := .tuple #[.agg #[.slice y.pa y.parts.length y.pc, .slice y.ha y.chans.length y.hc, .slice y.sa y.slots.length y.sc], .int .i64 0]) rfl hF
      refine pv hF hW (y_move hF rfl) (fun a hF => ?_)
      refine pv hF hW (y_extract hF rfl rfl) (fun a hF => ?_)
      refine pv hF hW (y_extract hF rfl rfl) (fun a hF => ?_)
      refine pe (e_alloc hF hW ze_68 rfl rfl rfl ?_)
      intro b2 a wc hF hW
      refine pe (e_storeAll rfl hF hW rfl rfl 0 rfl rfl rfl (by kernel_rfl) sz_68 ?_)
      intro wc hW
      refine pv hF hW (y_assign hF rfl) (fun a hF => ?_)
      refine l_nil ?_
      replace hF := (hF.k 0 rfl (hF.k 1 rfl (hF.k 2 rfl (hF.k 3 rfl (hF.k 6 rfl (hF.k 7 rfl (hF.k 8 rfl hF.nil)))))))
      refine t_n ?_
      refine c_sr ?_
      refine pv hF hW (y_loadAll hF rfl 2 rfl Try.underlying68 rfl sz_68) (fun a hF => ?_)
      refine pv hF hW (y_move hF rfl) (fun a hF => ?_)
      refine pe (e_call hF rfl rfl en_31 (by rfl) rfl rfl (hcalmb _ hW.below) ?_)
      rintro e w1 ⟨z, rfl, hz, hb, hr⟩
      replace hW := hW.gotR hb hr
      refine ⟨_, rfl, fun a hF => ?_⟩
      replace hF := Fr.cast (v' := .tuple #[.agg #[.slice z.pa z.parts.length z.pc, .slice z.ha z.chans.length z.hc, .slice z.sa z.slots.length z.sc], .int .i64 E]) rfl hF
      refine pv hF hW (y_move hF rfl) (fun a hF => ?_)
      refine pv hF hW (y_extract hF rfl rfl) (fun a hF => ?_)
      refine pv hF hW (y_extract hF rfl rfl) (fun a hF => ?_)
      refine pe (e_alloc hF hW ze_68 rfl rfl rfl ?_)
      intro b3 a wc hF hW
      refine pe (e_storeAll rfl hF hW rfl rfl 0 rfl rfl rfl (by kernel_rfl) sz_68 ?_)
      intro wc hW
      refine pv hF hW (y_assign hF rfl) (fun a hF => ?_)
      refine l_nil ?_
      replace hF := (hF.k 0 rfl (hF.k 1 rfl (hF.k 2 rfl (hF.k 3 rfl (hF.k 6 rfl (hF.k 7 rfl (hF.k 8 rfl (hF.k 9 rfl (hF.k 10 rfl hF.nil)))))))))
      refine t_n ?_
      refine c_s ?_
      refine c_sr ?_
      refine pv hF hW (y_move hF rfl) (fun a hF => ?_)
      refine pv hF hW (y_neq hF rfl rfl) (fun a hF => ?_)
      replace hF := Fr.bool (t := false) (by first | decide | (simp; done) | rfl) hF
      refine pv hF hW (y_move hF rfl) (fun a hF => ?_)
      replace hF := Fr.bool (t := false) (by first | decide | (simp; done) | rfl) hF
      refine pv hF hW (y_move hF rfl) (fun a hF => ?_) (ws hF rfl rfl)
      refine pv hF hW (y_neq hF rfl rfl) (fun a hF => ?_) (ws hF rfl rfl)
      refine Fr.splitD hF ?_ ?_
      · intro h4 hF
        refine pv hF hW (y_pick hF rfl rfl) (fun a hF => ?_)
        refine l_nil ?_
        replace hF := (hF.k 0 rfl (hF.k 1 rfl (hF.k 2 rfl (hF.k 3 rfl (hF.k 6 rfl (hF.k 7 rfl (hF.k 8 rfl (hF.k 9 rfl (hF.k 10 rfl (hF.k 34 rfl hF.nil))))))))))
        refine t_n ?_
        refine c_t hF rfl ?_
        refine c_sr ?_
        refine pe (e_call hF rfl rfl en_34 (by rfl) rfl rfl (confBegun_any _) ?_)
        rintro e w1 ⟨rfl, hb⟩
        replace hW := hW.kept hb
        clear hb
        refine ⟨_, rfl, fun a hF => ?_⟩
        replace hF := hF.drop 6
        refine pv hF hW (y_assign hF rfl) (fun a hF => ?_)
        refine l_nil ?_
        replace hF := (hF.k 0 rfl (hF.k 1 rfl (hF.k 2 rfl (hF.k 3 rfl (hF.k 6 rfl (hF.k 7 rfl (hF.k 8 rfl (hF.k 9 rfl (hF.k 10 rfl (hF.k 34 rfl hF.nil))))))))))
        refine t_n ?_
        refine wp_ret ?_
        refine t_r ?_
        refine ret1 Try.results9 hF (rv_t hF rfl) ?_
        exact ⟨rfl, hW.below⟩
      · intro h4 hF
        exfalso
        omega
  · have hcalma := fun w1 (hb : Below w.heap.size w w1) => calm_no (hx.below hb) rfl rfl ha
    have hcalmb := fun w1 (hb : Below w.heap.size w w1) => confCalm_any (hx.below hb) b
    generalize thereErr x.sys a = E at *
    generalize thereErr x.sys b = F at *
    rw [x.val_eq] at *
    refine enter Try.func9 rfl Try.ntmps9 rfl (fun a hF => ?_)
    have hW := Wd.start w NoB
    refine c_sr ?_
    refine pe (e_box hF hW rfl rfl rfl rfl ?_)
    intro b1 a wc hF hW
    refine pv hF hW (y_assign hF rfl) (fun a hF => ?_)
    refine l_nil ?_
    refine t_n ?_
    refine c_sr ?_
    refine pv hF hW (y_loadAll hF rfl 0 rfl Try.underlying68 rfl sz_68) (fun a hF => ?_)
    refine pv hF hW (y_move hF rfl) (fun a hF => ?_)
    refine pe (e_call hF rfl rfl en_31 (by rfl) rfl rfl (hcalma _ hW.below) ?_)
    rintro e w1 ⟨y, rfl, hy, hb, hr⟩
    replace hW := hW.gotR hb hr
    refine ⟨_, rfl, fun a hF => ?_⟩
    replace hF := Fr.cast (v' := .tuple #[.agg #[.slice y.pa y.parts.length y.pc, .slice y.ha y.chans.length y.hc, .slice y.sa y.slots.length y.sc], .int .i64 E]) rfl hF
    refine pv hF hW (y_move hF rfl) (fun a hF => ?_)
    refine pv hF hW (y_extract hF rfl rfl) (fun a hF => ?_)
    refine pv hF hW (y_extract hF rfl rfl) (fun a hF => ?_)
    refine pe (e_alloc hF hW ze_68 rfl rfl rfl ?_)
    intro b2 a wc hF hW
    refine pe (e_storeAll rfl hF hW rfl rfl 0 rfl rfl rfl (by kernel_rfl) sz_68 ?_)
    intro wc hW
    refine pv hF hW (y_assign hF rfl) (fun a hF => ?_)
    refine l_nil ?_
    replace hF := (hF.k 0 rfl (hF.k 1 rfl (hF.k 2 rfl (hF.k 3 rfl (hF.k 6 rfl (hF.k 7 rfl (hF.k 8 rfl hF.nil)))))))
    refine t_n ?_
    refine c_sr ?_
    refine pv hF hW (y_loadAll hF rfl 2 rfl Try.underlying68 rfl sz_68) (fun a hF => ?_)
    refine pv hF hW (y_move hF rfl) (fun a hF => ?_)
    refine pe (e_call hF rfl rfl en_31 (by rfl) rfl rfl (hcalmb _ hW.below) ?_)
    rintro e w1 ⟨z, rfl, hz, hb, hr⟩
    replace hW := hW.gotR hb hr
    refine ⟨_, rfl, fun a hF => ?_⟩
    replace hF := Fr.cast (v' := .tuple #[.agg #[.slice z.pa z.parts.length z.pc, .slice z.ha z.chans.length z.hc, .slice z.sa z.slots.length z.sc], .int .i64 F]) rfl hF
    refine pv hF hW (y_move hF rfl) (fun a hF => ?_)
    refine pv hF hW (y_extract hF rfl rfl) (fun a hF => ?_)
    refine pv hF hW (y_extract hF rfl rfl) (fun a hF => ?_)
    refine pe (e_alloc hF hW ze_68 rfl rfl rfl ?_)
    intro b3 a wc hF hW
    refine pe (e_storeAll rfl hF hW rfl rfl 0 rfl rfl rfl (by kernel_rfl) sz_68 ?_)
    intro wc hW
    refine pv hF hW (y_assign hF rfl) (fun a hF => ?_)
    refine l_nil ?_
    replace hF := (hF.k 0 rfl (hF.k 1 rfl (hF.k 2 rfl (hF.k 3 rfl (hF.k 6 rfl (hF.k 7 rfl (hF.k 8 rfl (hF.k 9 rfl (hF.k 10 rfl hF.nil)))))))))
    refine t_n ?_
    refine c_s ?_
    refine c_sr ?_
    refine pv hF hW (y_move hF rfl) (fun a hF => ?_)
    refine pv hF hW (y_neq hF rfl rfl) (fun a hF => ?_)
    refine Fr.splitD hF ?_ ?_
    · intro h4 hF
      refine pv hF hW (y_move hF rfl) (fun a hF => ?_)
      refine p_skip hF (wn hF rfl rfl rfl) rfl rfl (fun a hF => ?_)
      refine p_skip hF (wn hF rfl rfl rfl) rfl rfl (fun a hF => ?_)
      refine pv hF hW (y_pick hF rfl rfl) (fun a hF => ?_)
      refine l_nil ?_
      replace hF := (hF.k 0 rfl (hF.k 1 rfl (hF.k 2 rfl (hF.k 3 rfl (hF.k 6 rfl (hF.k 7 rfl (hF.k 8 rfl (hF.k 9 rfl (hF.k 10 rfl (hF.k 34 rfl hF.nil))))))))))
      refine t_n ?_
      refine c_t hF rfl ?_
      refine c_sr ?_
      refine pe (e_call hF rfl rfl en_34 (by rfl) rfl rfl (confBegun_any _) ?_)
      rintro e w1 ⟨rfl, hb⟩
      replace hW := hW.kept hb
      clear hb
      refine ⟨_, rfl, fun a hF => ?_⟩
      replace hF := hF.drop 6
      refine pv hF hW (y_assign hF rfl) (fun a hF => ?_)
      refine l_nil ?_
      replace hF := (hF.k 0 rfl (hF.k 1 rfl (hF.k 2 rfl (hF.k 3 rfl (hF.k 6 rfl (hF.k 7 rfl (hF.k 8 rfl (hF.k 9 rfl (hF.k 10 rfl (hF.k 34 rfl hF.nil))))))))))
      refine t_n ?_
      refine wp_ret ?_
      refine t_r ?_
      refine ret1 Try.results9 hF (rv_t hF rfl) ?_
      exact ⟨rfl, hW.below⟩
    · intro h4 hF
      exfalso
      omega

set_option maxRecDepth 100000 in
theorem confCalm_contract (H : Type) (enc : TypeId × Value → H) (W : World) (base : Nat) (args : Array Value) (ds gs : List (DataW H)) (before : List MemPlace)
    (hval : ∀ (j : Nat) t v, Try.f9.params[j]? = some t → args[j]? = some v → Value.okWide Try.prog W .any base t v)
    (hW : DataW.Whole enc Try.prog Try.f9.params.toList Rows.confCalmSpec.vars false W args.toList ds gs before) :
    Calls Try.prog 9 args W fun e W' => ∃ v, e = .returned v ∧ Rows.confCalmSpec.post enc Try.prog Try.f9 false true false false W args v W' := by
  have hW' := hW
  obtain ⟨p, q, hA0, hV, rfl, hfz, hnd⟩ := hW
  have hA : DataW.TrodAll enc Try.prog W 0 (fun _ => true) true Try.f9.params.toList args.toList ds p := hA0
  rw [Try.params9] at hA hval
  obtain ⟨v0, v1, v2, d0, d1, d2, p0, p1, p2, rfl, rfl, rfl, h0, h1, h2⟩ := trodAll_three hA
  obtain ⟨x, rfl, hx⟩ := sys_open (hval 0 68 v0 rfl rfl) h0
  obtain ⟨n, rfl, rfl, rfl, wk1⟩ := open_int Try.underlying3 (hval 1 3 v1 rfl rfl) h1
  obtain ⟨m, rfl, rfl, rfl, wk2⟩ := open_int Try.underlying3 (hval 2 3 v2 rfl rfl) h2
  refine (confCalm_run x n m W hx).mono fun e W' ⟨he, hb⟩ => ?_
  subst he
  exact ⟨_, rfl, law_post Try.laidOut hW' hb rfl (by kernel_rfl) Try.underlying4 (by kernel_rfl) rfl⟩

set_option maxRecDepth 100000 in
theorem confCalm_lifted (os : Os) (started : os.Started) (H : Type) (enc : TypeId × Value → H) :
    ReturnsInHanded {} Try.checked os 9 .any (Rows.confCalmSpec.pre6 enc Try.prog Try.f9 Rows.confCalmRow.domain false) (Rows.confCalmSpec.post enc Try.prog Try.f9 false true false false) := by
  refine returnsInHanded_of_change (C := Try.checked) Try.own started (by kernel_rfl) Try.func9
    (ChangeSpec.witness6 (enc := enc) (C := Try.checked) false ⟨#[], #[.agg #[.slice none 0 0, .slice none 0 0, .slice none 0 0], .int .i64 0, .int .i64 0], []⟩ 8 (by kernel_rfl) (by kernel_rfl) (by kernel_rfl) (by kernel_rfl)) ?_
  intro W base args ds gs before hval hW _ _
  exact confCalm_contract H enc W base args ds gs before hval hW

theorem confCalm_holds : Rows.ConfCalmSaid :=
  OpenClaim.holds_of_wide 9 Try.f9 rfl rfl rfl rfl rfl rfl rfl ⟨rfl, rfl, rfl, rfl, rfl⟩ rfl rfl rfl rfl rfl (by kernel_rfl) Try.func9 (by kernel_rfl)
    (of_decide_eq_true (by kernel_rfl)) (by unfold Func.isWrapper; first | (rw [if_pos (by decide +kernel)]; kernel_rfl) | (rw [if_neg (by decide +kernel)]; exact ⟨rfl, rfl⟩))
    (fun os started H enc _ => confCalm_lifted os started H enc)
end Go.Proofs.Ytebklpbbglojmaa
