/- The law ConfChecks answers true for every input. -/
import Derived.Test.YtebklpbbglojmaaConfPl
namespace Go.Proofs.Ytebklpbbglojmaa
set_option linter.unusedVariables false
set_option linter.unusedSimpArgs false
open Go.ChangeShapes Go.WideShapes Go.ChangeAt Go.RowKit

set_option maxRecDepth 100000

theorem confChecks_run (x : SysD) (p : Int) (w : World) (hx : x.At w) :
    Calls Try.prog 8 #[x.val, .int .i64 p] w fun e w' => e = .returned (.bool true) ∧ Below w.heap.size w w' := by
  by_cases h0 : thereErr x.sys p = 0
  · obtain ⟨hk, hpp⟩ := there_zero h0
    have hpp' := part_len hpp
    obtain ⟨n, rfl⟩ : ∃ n : Nat, p = n := ⟨p.toNat, (Int.toNat_of_nonneg hpp.1).symm⟩
    have hcalm := fun w1 (hb : Below w.heap.size w w1) => calm_ok (hx.below hb) rfl h0
    have hthere := fun w1 (hb : Below w.heap.size w w1) => thereRR_any (hx.below hb) n
    have hcalmR := fun w1 (hb : Below w.heap.size w w1) => calmOf_any (hx.below hb) (p := n) hk (by omega)
    have hchk := fun w1 (hb : Below w.heap.size w w1) => confCheck_any (hx.below hb)
    have hchkR := fun w1 (hb : Below w.heap.size w w1) => checkSystem_any (hx.below hb)
    rw [h0] at hthere
    rw [hk] at hchk hchkR
    rw [Int.toNat_natCast] at hcalm
    rw [x.val_eq] at *
    refine enter Try.func8 rfl Try.ntmps8 rfl (fun a hF => ?_)
    have hW := Wd.start w NoB
    refine c_sr ?_
    refine pe (e_box hF hW rfl rfl rfl rfl ?_)
    intro b1 a wc hF hW
    refine pv hF hW (y_assign hF rfl) (fun a hF => ?_)
    refine l_nil ?_
    refine t_n ?_
    refine c_sr ?_
    refine pv hF hW (y_loadAll hF rfl 0 rfl Try.underlying68 rfl sz_68) (fun a hF => ?_)
    refine pv hF hW (y_move hF rfl) (fun a hF => ?_)
    refine pe (e_call hF rfl rfl en_31 (by rfl) rfl rfl (hcalm _ hW.below) ?_)
    rintro e w1 ⟨y, rfl, hy, hb, hr⟩
    replace hW := hW.gotR hb hr
    refine ⟨_, rfl, fun a hF => ?_⟩
    replace hF := Fr.cast (v' := .tuple #[.agg #[.slice y.pa y.parts.length y.pc, .slice y.ha y.chans.length y.hc, .slice y.sa y.slots.length y.sc], .int .i64 0]) rfl hF
    refine pv hF hW (y_move hF rfl) (fun a hF => ?_)
    refine pv hF hW (y_extract hF rfl rfl) (fun a hF => ?_)
    refine pv hF hW (y_extract hF rfl rfl) (fun a hF => ?_)
    refine pe (e_alloc hF hW ze_68 rfl rfl rfl ?_)
    intro b2 a wc hF hW
    refine pe (e_storeAll rfl hF hW rfl rfl 0 rfl rfl rfl (by kernel_rfl) sz_68 ?_)
    intro wc hW
    refine pv hF hW (y_assign hF rfl) (fun a hF => ?_)
    refine l_nil ?_
    replace hF := (hF.k 0 rfl (hF.k 1 rfl (hF.k 2 rfl (hF.k 4 rfl (hF.k 5 rfl (hF.k 6 rfl hF.nil))))))
    refine t_n ?_
    refine c_sr ?_
    refine pv hF hW (y_loadAll hF rfl 2 rfl Try.underlying68 rfl sz_68) (fun a hF => ?_)
    refine pv hF hW (y_move hF rfl) (fun a hF => ?_)
    refine pe (e_call hF rfl rfl en_32 (by rfl) rfl rfl (hthere _ hW.below) ?_)
    rintro e w1 ⟨rfl, hb⟩
    replace hW := hW.kept hb
    clear hb
    refine ⟨_, rfl, fun a hF => ?_⟩
    refine pv hF hW (y_assign hF rfl) (fun a hF => ?_)
    refine l_nil ?_
    replace hF := (hF.k 0 rfl (hF.k 1 rfl (hF.k 2 rfl (hF.k 4 rfl (hF.k 5 rfl (hF.k 6 rfl (hF.k 7 rfl hF.nil)))))))
    refine t_n ?_
    refine c_sr ?_
    refine pe (e_alloc hF hW ze_68 rfl rfl rfl ?_)
    intro b3 a wc hF hW
    refine l_nil ?_
    refine t_n ?_
    refine c_s ?_
    refine c_sr ?_
    refine pv hF hW (y_move hF rfl) (fun a hF => ?_)
    refine pv hF hW (y_eql hF rfl rfl) (fun a hF => ?_)
    replace hF := Fr.bool (t := true) (by first | decide | (simp; done) | rfl) hF
    refine l_nil ?_
    replace hF := (hF.k 0 rfl (hF.k 1 rfl (hF.k 2 rfl (hF.k 4 rfl (hF.k 5 rfl (hF.k 6 rfl (hF.k 7 rfl (hF.k 8 rfl (hF.k 19 rfl hF.nil)))))))))
    refine t_n ?_
    refine c_t hF rfl ?_
    refine c_r ?_
    refine pv hF hW (y_loadAll hF rfl 3 rfl Try.underlying68 rfl sz_68) (fun a hF => ?_)
    refine pv hF hW (y_move hF rfl) (fun a hF => ?_)
    refine pe (e_call hF rfl rfl en_33 (by rfl) rfl rfl (hcalmR _ hW.below) ?_)
    rintro e w1 ⟨z, rfl, hz, hb, hr⟩
    replace hW := hW.gotR hb hr
    refine ⟨_, rfl, fun a hF => ?_⟩
    replace hF := Fr.cast (v' := .agg #[.slice z.pa z.parts.length z.pc, .slice z.ha z.chans.length z.hc, .slice z.sa z.slots.length z.sc]) rfl hF
    refine pe (e_storeAll rfl hF hW rfl rfl 1 rfl rfl rfl (by kernel_rfl) sz_68 ?_)
    intro wc hW
    refine l_nil ?_
    replace hF := (hF.k 0 rfl (hF.k 1 rfl (hF.k 2 rfl (hF.k 4 rfl (hF.k 5 rfl (hF.k 6 rfl (hF.k 7 rfl (hF.k 8 rfl (hF.k 19 rfl hF.nil)))))))))
    refine t_n ?_
    refine c_sd mixed_ok hW (hW) ?_
    clear hW; intro wc hW hS
    refine d_1 0 (by kernel_rfl) ?_
    refine d_op rfl rfl (e_call hF rfl rfl en_34 (by rfl) rfl rfl (confBegun_any _) ?_)
    rintro e w1 ⟨rfl, hb⟩
    replace hW := hW.kept hb
    clear hb
    refine ⟨_, rfl, fun a hF => ?_⟩
    refine ⟨hW, ?_⟩
    replace hS := hW
    refine dv 1 rfl hF hS (y_move hF rfl) (fun a hF => ?_)
    refine dv 2 rfl hF hS (y_loadAll hF rfl 4 rfl Try.underlying68 rfl sz_68) (fun a hF => ?_) (ws hF rfl rfl)
    refine dv 4 rfl hF hS (y_loadAll hF rfl 4 rfl Try.underlying68 rfl sz_68) (fun a hF => ?_) (ws hF rfl rfl)
    refine d_1 3 (by kernel_rfl) ?_
    refine d_op rfl (ws hF rfl rfl) (e_call hF rfl rfl en_35 (by rfl) rfl rfl (hchk _ hW.below) ?_)
    rintro e w1 ⟨rfl, hb⟩
    replace hW := hW.kept hb
    clear hb
    refine ⟨_, rfl, fun a hF => ?_⟩
    refine ⟨hW, ?_⟩
    replace hS := hW
    refine d_1 5 (by kernel_rfl) ?_
    refine d_op rfl (ws hF rfl rfl) (e_call hF rfl rfl en_36 (by rfl) rfl rfl (hchkR _ hW.below) ?_)
    rintro e w1 ⟨rfl, hb⟩
    replace hW := hW.kept hb
    clear hb
    refine ⟨_, rfl, fun a hF => ?_⟩
    refine ⟨hW, ?_⟩
    replace hS := hW
    refine dv 6 rfl hF hS (y_eql hF rfl rfl) (fun a hF => ?_) (ws hF rfl rfl)
    replace hF := Fr.bool (t := true) (by first | decide | (simp; done) | rfl) hF
    refine dv 7 rfl hF hS (y_pick hF rfl rfl) (fun a hF => ?_)
    replace hF := Fr.bool (t := true) (by first | decide | (simp; done) | rfl) hF
    refine dv 8 rfl hF hS (y_move hF rfl) (fun a hF => ?_)
    replace hF := Fr.bool (t := true) (by first | decide | (simp; done) | rfl) hF
    refine dv 9 rfl hF hS (y_move hF rfl) (fun a hF => ?_) (ws hF rfl rfl)
    refine dv 10 rfl hF hS (y_move hF rfl) (fun a hF => ?_) (ws hF rfl rfl)
    refine dv 11 rfl hF hS (y_eql hF rfl rfl) (fun a hF => ?_) (ws hF rfl rfl)
    replace hF := Fr.bool (t := true) (by first | decide | (simp; done) | rfl) hF
    refine dv 12 rfl hF hS (y_pick hF rfl rfl) (fun a hF => ?_)
    replace hF := Fr.bool (t := true) (by first | decide | (simp; done) | rfl) hF
    refine dv 13 rfl hF hS (y_move hF rfl) (fun a hF => ?_)
    replace hF := Fr.bool (t := true) (by first | decide | (simp; done) | rfl) hF
    refine dv 14 rfl hF hS (y_loadAll hF rfl 2 rfl Try.underlying68 rfl sz_68) (fun a hF => ?_) (ws hF rfl rfl)
    refine dv 15 rfl hF hS (y_loadAll hF rfl 1 rfl Try.underlying68 rfl sz_68) (fun a hF => ?_) (ws hF rfl rfl)
    refine d_1 16 (by kernel_rfl) ?_
    refine d_op rfl (ws hF rfl rfl) (e_call hF rfl rfl en_37 (by rfl) rfl rfl (same_true (hW.res 3 rfl) (hW.res 0 rfl) (hy.trans hz.symm)) ?_)
    rintro e w1 ⟨rfl, hb⟩
    replace hW := hW.kept hb
    clear hb
    refine ⟨_, rfl, fun a hF => ?_⟩
    refine ⟨hW, ?_⟩
    replace hS := hW
    refine dv 17 rfl hF hS (y_pick hF rfl rfl) (fun a hF => ?_)
    replace hF := hF.drop 4
    refine dv 18 rfl hF hS (y_assign hF rfl) (fun a hF => ?_)
    clear hS
    refine d_nil (by kernel_rfl) ?_
    replace hF := (hF.k 0 rfl (hF.k 1 rfl (hF.k 2 rfl (hF.k 4 rfl (hF.k 5 rfl (hF.k 6 rfl (hF.k 7 rfl (hF.k 8 rfl (hF.k 19 rfl hF.nil)))))))))
    refine t_n ?_
    refine wp_ret ?_
    refine ret1 Try.results8 hF (rv_t hF rfl) ?_
    exact ⟨rfl, hW.below⟩
  · have hcalm := fun w1 (hb : Below w.heap.size w w1) => calm_no (hx.below hb) rfl rfl h0
    have hthere := fun w1 (hb : Below w.heap.size w w1) => thereRR_any (hx.below hb) p
    have hchk := fun w1 (hb : Below w.heap.size w w1) => confCheck_any (hx.below hb)
    have hchkR := fun w1 (hb : Below w.heap.size w w1) => checkSystem_any (hx.below hb)
    generalize thereErr x.sys p = E at *
    generalize chkSys x.sys = C at *
    rw [x.val_eq] at *
    refine enter Try.func8 rfl Try.ntmps8 rfl (fun a hF => ?_)
    have hW := Wd.start w NoB
    refine c_sr ?_
    refine pe (e_box hF hW rfl rfl rfl rfl ?_)
    intro b1 a wc hF hW
    refine pv hF hW (y_assign hF rfl) (fun a hF => ?_)
    refine l_nil ?_
    refine t_n ?_
    refine c_sr ?_
    refine pv hF hW (y_loadAll hF rfl 0 rfl Try.underlying68 rfl sz_68) (fun a hF => ?_)
    refine pv hF hW (y_move hF rfl) (fun a hF => ?_)
    refine pe (e_call hF rfl rfl en_31 (by rfl) rfl rfl (hcalm _ hW.below) ?_)
    rintro e w1 ⟨y, rfl, hy, hb, hr⟩
    replace hW := hW.gotR hb hr
    refine ⟨_, rfl, fun a hF => ?_⟩
    replace hF := Fr.cast (v' := .tuple #[.agg #[.slice y.pa y.parts.length y.pc, .slice y.ha y.chans.length y.hc, .slice y.sa y.slots.length y.sc], .int .i64 E]) rfl hF
    refine pv hF hW (y_move hF rfl) (fun a hF => ?_)
    refine pv hF hW (y_extract hF rfl rfl) (fun a hF => ?_)
    refine pv hF hW (y_extract hF rfl rfl) (fun a hF => ?_)
    refine pe (e_alloc hF hW ze_68 rfl rfl rfl ?_)
    intro b2 a wc hF hW
    refine pe (e_storeAll rfl hF hW rfl rfl 0 rfl rfl rfl (by kernel_rfl) sz_68 ?_)
    intro wc hW
    refine pv hF hW (y_assign hF rfl) (fun a hF => ?_)
    refine l_nil ?_
    replace hF := (hF.k 0 rfl (hF.k 1 rfl (hF.k 2 rfl (hF.k 4 rfl (hF.k 5 rfl (hF.k 6 rfl hF.nil))))))
    refine t_n ?_
    refine c_sr ?_
    refine pv hF hW (y_loadAll hF rfl 2 rfl Try.underlying68 rfl sz_68) (fun a hF => ?_)
    refine pv hF hW (y_move hF rfl) (fun a hF => ?_)
    refine pe (e_call hF rfl rfl en_32 (by rfl) rfl rfl (hthere _ hW.below) ?_)
    rintro e w1 ⟨rfl, hb⟩
    replace hW := hW.kept hb
    clear hb
    refine ⟨_, rfl, fun a hF => ?_⟩
    refine pv hF hW (y_assign hF rfl) (fun a hF => ?_)
    refine l_nil ?_
    replace hF := (hF.k 0 rfl (hF.k 1 rfl (hF.k 2 rfl (hF.k 4 rfl (hF.k 5 rfl (hF.k 6 rfl (hF.k 7 rfl hF.nil)))))))
    refine t_n ?_
    refine c_sr ?_
    refine pe (e_alloc hF hW ze_68 rfl rfl rfl ?_)
    intro b3 a wc hF hW
    refine l_nil ?_
    refine t_n ?_
    refine c_s ?_
    refine c_sr ?_
    refine pv hF hW (y_move hF rfl) (fun a hF => ?_)
    refine pv hF hW (y_eql hF rfl rfl) (fun a hF => ?_)
    refine Fr.splitD hF ?_ ?_
    · intro h4 hF
      exfalso
      omega
    · intro h4 hF
      refine l_nil ?_
      replace hF := (hF.k 0 rfl (hF.k 1 rfl (hF.k 2 rfl (hF.k 4 rfl (hF.k 5 rfl (hF.k 6 rfl (hF.k 7 rfl (hF.k 8 rfl (hF.k 19 rfl hF.nil)))))))))
      refine t_n ?_
      refine c_f hF rfl ?_
      refine wp_skip ?_
      refine t_n ?_
      refine c_sd mixed_ok hW (hW) ?_
      clear hW; intro wc hW hS
      refine d_1 0 (by kernel_rfl) ?_
      refine d_op rfl rfl (e_call hF rfl rfl en_34 (by rfl) rfl rfl (confBegun_any _) ?_)
      rintro e w1 ⟨rfl, hb⟩
      replace hW := hW.kept hb
      clear hb
      refine ⟨_, rfl, fun a hF => ?_⟩
      refine ⟨hW, ?_⟩
      replace hS := hW
      refine dv 1 rfl hF hS (y_move hF rfl) (fun a hF => ?_)
      refine dv 2 rfl hF hS (y_loadAll hF rfl 3 rfl Try.underlying68 rfl sz_68) (fun a hF => ?_) (ws hF rfl rfl)
      refine dv 4 rfl hF hS (y_loadAll hF rfl 3 rfl Try.underlying68 rfl sz_68) (fun a hF => ?_) (ws hF rfl rfl)
      refine d_1 3 (by kernel_rfl) ?_
      refine d_op rfl (ws hF rfl rfl) (e_call hF rfl rfl en_35 (by rfl) rfl rfl (hchk _ hW.below) ?_)
      rintro e w1 ⟨rfl, hb⟩
      replace hW := hW.kept hb
      clear hb
      refine ⟨_, rfl, fun a hF => ?_⟩
      refine ⟨hW, ?_⟩
      replace hS := hW
      refine d_1 5 (by kernel_rfl) ?_
      refine d_op rfl (ws hF rfl rfl) (e_call hF rfl rfl en_36 (by rfl) rfl rfl (hchkR _ hW.below) ?_)
      rintro e w1 ⟨rfl, hb⟩
      replace hW := hW.kept hb
      clear hb
      refine ⟨_, rfl, fun a hF => ?_⟩
      refine ⟨hW, ?_⟩
      replace hS := hW
      refine dv 6 rfl hF hS (y_eql hF rfl rfl) (fun a hF => ?_) (ws hF rfl rfl)
      refine Fr.splitD hF ?_ ?_
      · intro h5 hF
        refine dv 7 rfl hF hS (y_pick hF rfl rfl) (fun a hF => ?_)
        refine dv 8 rfl hF hS (y_move hF rfl) (fun a hF => ?_)
        refine dv 9 rfl hF hS (y_move hF rfl) (fun a hF => ?_) (ws hF rfl rfl)
        refine dv 10 rfl hF hS (y_move hF rfl) (fun a hF => ?_) (ws hF rfl rfl)
        refine dv 11 rfl hF hS (y_eql hF rfl rfl) (fun a hF => ?_) (ws hF rfl rfl)
        refine Fr.splitD hF ?_ ?_
        · intro h6 hF
          refine dv 12 rfl hF hS (y_pick hF rfl rfl) (fun a hF => ?_)
          refine dv 13 rfl hF hS (y_move hF rfl) (fun a hF => ?_)
          refine dv 14 rfl hF hS (y_loadAll hF rfl 1 rfl Try.underlying68 rfl sz_68) (fun a hF => ?_) (ws hF rfl rfl)
          refine dv 15 rfl hF hS (y_loadAll hF rfl 0 rfl Try.underlying68 rfl sz_68) (fun a hF => ?_) (ws hF rfl rfl)
          refine d_1 16 (by kernel_rfl) ?_
          refine d_op rfl (ws hF rfl rfl) (e_call hF rfl rfl en_37 (by rfl) rfl rfl (same_true (y := SysD.zero) (hW.res 2 rfl) (SysD.zero_at _) hy) ?_)
          rintro e w1 ⟨rfl, hb⟩
          replace hW := hW.kept hb
          clear hb
          refine ⟨_, rfl, fun a hF => ?_⟩
          refine ⟨hW, ?_⟩
          replace hS := hW
          refine dv 17 rfl hF hS (y_pick hF rfl rfl) (fun a hF => ?_)
          replace hF := hF.drop 4
          refine dv 18 rfl hF hS (y_assign hF rfl) (fun a hF => ?_)
          clear hS
          refine d_nil (by kernel_rfl) ?_
          replace hF := (hF.k 0 rfl (hF.k 1 rfl (hF.k 2 rfl (hF.k 4 rfl (hF.k 5 rfl (hF.k 6 rfl (hF.k 7 rfl (hF.k 8 rfl (hF.k 19 rfl hF.nil)))))))))
          refine t_n ?_
          refine wp_ret ?_
          refine ret1 Try.results8 hF (rv_t hF rfl) ?_
          exact ⟨rfl, hW.below⟩
        · intro h6 hF
          exfalso
          exact h6 rfl
      · intro h5 hF
        exfalso
        exact h5 rfl

set_option maxRecDepth 100000 in
theorem confChecks_contract (H : Type) (enc : TypeId × Value → H) (W : World) (base : Nat) (args : Array Value) (ds gs : List (DataW H)) (before : List MemPlace)
    (hval : ∀ (j : Nat) t v, Try.f8.params[j]? = some t → args[j]? = some v → Value.okWide Try.prog W .any base t v)
    (hW : DataW.Whole enc Try.prog Try.f8.params.toList Rows.confChecksSpec.vars false W args.toList ds gs before) :
    Calls Try.prog 8 args W fun e W' => ∃ v, e = .returned v ∧ Rows.confChecksSpec.post enc Try.prog Try.f8 false true false false W args v W' := by
  have hW' := hW
  obtain ⟨p, q, hA0, hV, rfl, hfz, hnd⟩ := hW
  have hA : DataW.TrodAll enc Try.prog W 0 (fun _ => true) true Try.f8.params.toList args.toList ds p := hA0
  rw [Try.params8] at hA hval
  obtain ⟨v0, v1, d0, d1, p0, p1, rfl, rfl, rfl, h0, h1⟩ := trodAll_two hA
  obtain ⟨x, rfl, hx⟩ := sys_open (hval 0 68 v0 rfl rfl) h0
  obtain ⟨n, rfl, rfl, rfl, wk1⟩ := open_int Try.underlying3 (hval 1 3 v1 rfl rfl) h1
  refine (confChecks_run x n W hx).mono fun e W' ⟨he, hb⟩ => ?_
  subst he
  exact ⟨_, rfl, law_post Try.laidOut hW' hb rfl (by kernel_rfl) Try.underlying4 (by kernel_rfl) rfl⟩

set_option maxRecDepth 100000 in
theorem confChecks_lifted (os : Os) (started : os.Started) (H : Type) (enc : TypeId × Value → H) :
    ReturnsInHanded {} Try.checked os 8 .any (Rows.confChecksSpec.pre6 enc Try.prog Try.f8 Rows.confChecksRow.domain false) (Rows.confChecksSpec.post enc Try.prog Try.f8 false true false false) := by
  refine returnsInHanded_of_change (C := Try.checked) Try.own started (by kernel_rfl) Try.func8
    (ChangeSpec.witness6 (enc := enc) (C := Try.checked) false ⟨#[], #[.agg #[.slice none 0 0, .slice none 0 0, .slice none 0 0], .int .i64 0], []⟩ 8 (by kernel_rfl) (by kernel_rfl) (by kernel_rfl) (by kernel_rfl)) ?_
  intro W base args ds gs before hval hW _ _
  exact confChecks_contract H enc W base args ds gs before hval hW

theorem confChecks_holds : Rows.ConfChecksSaid :=
  OpenClaim.holds_of_wide 8 Try.f8 rfl rfl rfl rfl rfl rfl rfl ⟨rfl, rfl, rfl, rfl, rfl⟩ rfl rfl rfl rfl rfl (by kernel_rfl) Try.func8 (by kernel_rfl)
    (of_decide_eq_true (by kernel_rfl)) (by unfold Func.isWrapper; first | (rw [if_pos (by decide +kernel)]; kernel_rfl) | (rw [if_neg (by decide +kernel)]; exact ⟨rfl, rfl⟩))
    (fun os started H enc _ => confChecks_lifted os started H enc)
end Go.Proofs.Ytebklpbbglojmaa
