/- The law SchedTells answers true for every input. -/
import Derived.Test.YtebklpbbglojmaaSchedLaw
namespace Go.Proofs.Ytebklpbbglojmaa
set_option linter.unusedVariables false
set_option linter.unusedSimpArgs false
open Go.ChangeShapes Go.WideShapes Go.ChangeAt Go.RowKit

set_option maxRecDepth 100000

theorem schedTells_run (x : SysD) (t : Int) (w : World) (hx : x.At w) :
    Calls Try.prog 10 #[x.val, .int .i64 t] w fun e w' => e = .returned (.bool true) ∧ Below w.heap.size w w' := by
  have hfr := fun w1 (hb : Below w.heap.size w w1) => schedFrame_any (hx.below hb)
  have hchk := fun w1 (hb : Below w.heap.size w w1) => checkSystem_any (hx.below hb)
  by_cases hk : chkSys x.sys = 0
  · have hs := fun k (h : k < x.slots.length) => (slots_ok hk h).2
    have hfo := fun w1 (hb : Below w.heap.size w w1) => frameOf_any (hx.below hb) hk
    rw [show frameOf x.sys = ((turnsL x.slots).length : Int) from (if_pos hk).trans (turnsL_all hs).symm, hk] at hfr
    rw [hk] at hchk
    by_cases ht : t < 0
    · have hwho := fun w1 (hb : Below w.heap.size w w1) => who_neg (hx.below hb) hk t ht
      rw [x.val_eq] at *
      refine enter Try.func10 rfl Try.ntmps10 rfl (fun a hF => ?_)
      have hW := Wd.start w NoB
      refine c_sr ?_
      refine pe (e_box hF hW rfl rfl rfl rfl ?_)
      intro b1 a wc hF hW
      refine pv hF hW (y_assign hF rfl) (fun a hF => ?_)
      refine l_nil ?_
      refine t_n ?_
      refine c_sr ?_
      refine pv hF hW (y_loadAll hF rfl 0 rfl Try.underlying68 rfl sz_68) (fun a hF => ?_)
      refine pe (e_call hF rfl rfl en_38 (by rfl) rfl rfl (hfr _ hW.below) ?_)
      rintro e w1 ⟨rfl, hb⟩
      replace hW := hW.kept hb
      clear hb
      refine ⟨_, rfl, fun a hF => ?_⟩
      refine pv hF hW (y_move hF rfl) (fun a hF => ?_)
      refine pv hF hW (y_extract hF rfl rfl) (fun a hF => ?_)
      refine pv hF hW (y_extract hF rfl rfl) (fun a hF => ?_)
      refine pv hF hW (y_assign hF rfl) (fun a hF => ?_)
      refine pv hF hW (y_assign hF rfl) (fun a hF => ?_)
      refine l_nil ?_
      replace hF := (hF.k 0 rfl (hF.k 1 rfl (hF.k 2 rfl (hF.k 4 rfl (hF.k 5 rfl (hF.k 6 rfl hF.nil))))))
      refine t_n ?_
      refine c_sr ?_
      refine pv hF hW (y_loadAll hF rfl 0 rfl Try.underlying68 rfl sz_68) (fun a hF => ?_)
      refine pv hF hW (y_move hF rfl) (fun a hF => ?_)
      refine pe (e_call hF rfl rfl en_39 (by rfl) rfl rfl (hwho _ hW.below) ?_)
      rintro e w1 ⟨rfl, hb⟩
      replace hW := hW.kept hb
      clear hb
      refine ⟨_, rfl, fun a hF => ?_⟩
      refine pv hF hW (y_move hF rfl) (fun a hF => ?_)
      refine pv hF hW (y_extract hF rfl rfl) (fun a hF => ?_)
      refine pv hF hW (y_extract hF rfl rfl) (fun a hF => ?_)
      refine pv hF hW (y_assign hF rfl) (fun a hF => ?_)
      refine pv hF hW (y_assign hF rfl) (fun a hF => ?_)
      refine l_nil ?_
      replace hF := (hF.k 0 rfl (hF.k 1 rfl (hF.k 2 rfl (hF.k 4 rfl (hF.k 5 rfl (hF.k 6 rfl (hF.k 7 rfl (hF.k 8 rfl hF.nil))))))))
      refine t_n ?_
      refine c_sr ?_
      refine pv hF hW (y_loadAll hF rfl 0 rfl Try.underlying68 rfl sz_68) (fun a hF => ?_)
      refine pe (e_call hF rfl rfl en_36 (by rfl) rfl rfl (hchk _ hW.below) ?_)
      rintro e w1 ⟨rfl, hb⟩
      replace hW := hW.kept hb
      clear hb
      refine ⟨_, rfl, fun a hF => ?_⟩
      refine pv hF hW (y_assign hF rfl) (fun a hF => ?_)
      refine l_nil ?_
      replace hF := (hF.k 0 rfl (hF.k 1 rfl (hF.k 2 rfl (hF.k 4 rfl (hF.k 5 rfl (hF.k 6 rfl (hF.k 7 rfl (hF.k 8 rfl (hF.k 9 rfl hF.nil)))))))))
      refine t_n ?_
      refine c_sr ?_
      refine pv hF hW (y_move hF rfl) (fun a hF => ?_)
      refine pv hF hW (y_assign hF rfl) (fun a hF => ?_)
      refine l_nil ?_
      replace hF := (hF.k 0 rfl (hF.k 1 rfl (hF.k 2 rfl (hF.k 4 rfl (hF.k 5 rfl (hF.k 6 rfl (hF.k 7 rfl (hF.k 8 rfl (hF.k 9 rfl (hF.k 10 rfl hF.nil))))))))))
      refine t_n ?_
      refine c_s ?_
      refine c_sr ?_
      refine pv hF hW (y_move hF rfl) (fun a hF => ?_)
      refine pv hF hW (y_eql hF rfl rfl) (fun a hF => ?_)
      replace hF := Fr.bool (t := true) (by first | decide | (simp; done) | rfl) hF
      refine pv hF hW (y_move hF rfl) (fun a hF => ?_)
      replace hF := Fr.bool (t := true) (by first | decide | (simp; done) | rfl) hF
      refine pv hF hW (y_move hF rfl) (fun a hF => ?_) (ws hF rfl rfl)
      refine pv hF hW (y_lss hF rfl rfl) (fun a hF => ?_) (ws hF rfl rfl)
      refine Fr.splitD hF ?_ ?_
      · intro h2 hF
        refine pv hF hW (y_pick hF rfl rfl) (fun a hF => ?_)
        refine l_nil ?_
        replace hF := (hF.k 0 rfl (hF.k 1 rfl (hF.k 2 rfl (hF.k 4 rfl (hF.k 5 rfl (hF.k 6 rfl (hF.k 7 rfl (hF.k 8 rfl (hF.k 9 rfl (hF.k 10 rfl (hF.k 32 rfl hF.nil)))))))))))
        refine t_n ?_
        refine c_t hF rfl ?_
        refine c_r ?_
        replace hF := hF.drop 10
        refine pv hF hW (y_assign hF rfl) (fun a hF => ?_)
        refine l_nil ?_
        refine t_n ?_
        refine c_sr ?_
        refine pv hF hW (y_assign hF rfl) (fun a hF => ?_)
        refine pv hF hW (y_assign hF rfl) (fun a hF => ?_)
        refine l_nil ?_
        refine t_n ?_
        refine c_s ?_
        refine c_sr ?_
        refine pv hF hW (y_move hF rfl) (fun a hF => ?_)
        refine pv hF hW (y_eql hF rfl rfl) (fun a hF => ?_)
        replace hF := Fr.bool (t := true) (by first | decide | (simp; done) | rfl) hF
        refine l_nil ?_
        replace hF := (hF.k 0 rfl (hF.k 1 rfl (hF.k 2 rfl (hF.k 4 rfl (hF.k 5 rfl (hF.k 6 rfl (hF.k 7 rfl (hF.k 8 rfl (hF.k 9 rfl (hF.k 10 rfl (hF.k 11 rfl (hF.k 12 rfl (hF.k 32 rfl (hF.k 34 rfl hF.nil))))))))))))))
        refine t_n ?_
        refine c_t hF rfl ?_
        refine c_r ?_
        refine pv hF hW (y_loadAll hF rfl 0 rfl Try.underlying68 rfl sz_68) (fun a hF => ?_)
        refine pe (e_call hF rfl rfl en_40 (by rfl) rfl rfl (hfo _ hW.below) ?_)
        rintro e w1 ⟨rfl, hb⟩
        replace hW := hW.kept hb
        clear hb
        refine ⟨_, rfl, fun a hF => ?_⟩
        replace hF := hF.drop 11
        refine pv hF hW (y_assign hF rfl) (fun a hF => ?_)
        refine l_nil ?_
        replace hF := (hF.k 0 rfl (hF.k 1 rfl (hF.k 2 rfl (hF.k 4 rfl (hF.k 5 rfl (hF.k 6 rfl (hF.k 7 rfl (hF.k 8 rfl (hF.k 9 rfl (hF.k 10 rfl (hF.k 11 rfl (hF.k 12 rfl (hF.k 32 rfl (hF.k 34 rfl hF.nil))))))))))))))
        refine t_n ?_
        refine c_s ?_
        refine c_sr ?_
        refine pv hF hW (y_move hF rfl) (fun a hF => ?_)
        refine pv hF hW (y_eql hF rfl rfl) (fun a hF => ?_)
        replace hF := Fr.bool (t := false) (by first | decide | (simp; done) | rfl) hF
        refine l_nil ?_
        replace hF := (hF.k 0 rfl (hF.k 1 rfl (hF.k 2 rfl (hF.k 4 rfl (hF.k 5 rfl (hF.k 6 rfl (hF.k 7 rfl (hF.k 8 rfl (hF.k 9 rfl (hF.k 10 rfl (hF.k 11 rfl (hF.k 12 rfl (hF.k 32 rfl (hF.k 34 rfl (hF.k 38 rfl hF.nil)))))))))))))))
        refine t_n ?_
        refine c_f hF rfl ?_
        refine wp_skip ?_
        refine t_n ?_
        refine c_sr ?_
        refine pe (e_call hF rfl rfl en_42 (by rfl) rfl rfl (schedBegun_any _) ?_)
        rintro e w1 ⟨rfl, hb⟩
        replace hW := hW.kept hb
        clear hb
        refine ⟨_, rfl, fun a hF => ?_⟩
        refine pv hF hW (y_move hF rfl) (fun a hF => ?_)
        refine pv hF hW (y_move hF rfl) (fun a hF => ?_) (ws hF rfl rfl)
        refine pv hF hW (y_move hF rfl) (fun a hF => ?_) (ws hF rfl rfl)
        refine pv hF hW (y_eql hF rfl rfl) (fun a hF => ?_) (ws hF rfl rfl)
        refine Fr.splitD hF ?_ ?_
        · intro h3 hF
          refine pv hF hW (y_pick hF rfl rfl) (fun a hF => ?_)
          refine pv hF hW (y_move hF rfl) (fun a hF => ?_)
          refine pv hF hW (y_move hF rfl) (fun a hF => ?_) (ws hF rfl rfl)
          refine pv hF hW (y_move hF rfl) (fun a hF => ?_) (ws hF rfl rfl)
          refine pv hF hW (y_eql hF rfl rfl) (fun a hF => ?_) (ws hF rfl rfl)
          replace hF := Fr.bool (t := true) (by first | decide | (simp; done) | rfl) hF
          refine pv hF hW (y_pick hF rfl rfl) (fun a hF => ?_)
          replace hF := Fr.bool (t := true) (by first | decide | (simp; done) | rfl) hF
          refine pv hF hW (y_move hF rfl) (fun a hF => ?_)
          replace hF := Fr.bool (t := true) (by first | decide | (simp; done) | rfl) hF
          refine pv hF hW (y_move hF rfl) (fun a hF => ?_) (ws hF rfl rfl)
          refine pv hF hW (y_move hF rfl) (fun a hF => ?_) (ws hF rfl rfl)
          refine pv hF hW (y_eql hF rfl rfl) (fun a hF => ?_) (ws hF rfl rfl)
          replace hF := Fr.bool (t := true) (by first | decide | (simp; done) | rfl) hF
          refine pv hF hW (y_pick hF rfl rfl) (fun a hF => ?_)
          replace hF := Fr.bool (t := true) (by first | decide | (simp; done) | rfl) hF
          refine pv hF hW (y_move hF rfl) (fun a hF => ?_)
          replace hF := Fr.bool (t := true) (by first | decide | (simp; done) | rfl) hF
          refine pv hF hW (y_move hF rfl) (fun a hF => ?_) (ws hF rfl rfl)
          refine pv hF hW (y_move hF rfl) (fun a hF => ?_) (ws hF rfl rfl)
          refine pv hF hW (y_eql hF rfl rfl) (fun a hF => ?_) (ws hF rfl rfl)
          replace hF := Fr.bool (t := true) (by first | decide | (simp; done) | rfl) hF
          refine pv hF hW (y_pick hF rfl rfl) (fun a hF => ?_)
          replace hF := Fr.bool (t := true) (by first | decide | (simp; done) | rfl) hF
          replace hF := hF.drop 4
          refine pv hF hW (y_assign hF rfl) (fun a hF => ?_)
          replace hF := Fr.bool (t := true) (by first | decide | (simp; done) | rfl) hF
          refine l_nil ?_
          replace hF := (hF.k 0 rfl (hF.k 1 rfl (hF.k 2 rfl (hF.k 4 rfl (hF.k 5 rfl (hF.k 6 rfl (hF.k 7 rfl (hF.k 8 rfl (hF.k 9 rfl (hF.k 10 rfl (hF.k 11 rfl (hF.k 12 rfl (hF.k 32 rfl (hF.k 34 rfl (hF.k 38 rfl hF.nil)))))))))))))))
          refine t_n ?_
          refine wp_ret ?_
          refine ret1 Try.results10 hF (rv_t hF rfl) ?_
          exact ⟨rfl, hW.below⟩
        · intro h3 hF
          exfalso
          exact h3 rfl
      · intro h2 hF
        exfalso
        omega
    · have hwho := fun w1 (hb : Below w.heap.size w w1) => who_val (hx.below hb) hk (t := t) (by omega)
      have hwof := fun w1 (hb : Below w.heap.size w w1) => whoOf_any (hx.below hb) hk (t := t) (by omega)
      rw [x.val_eq] at *
      refine enter Try.func10 rfl Try.ntmps10 rfl (fun a hF => ?_)
      have hW := Wd.start w NoB
      refine c_sr ?_
      refine pe (e_box hF hW rfl rfl rfl rfl ?_)
      intro b1 a wc hF hW
      refine pv hF hW (y_assign hF rfl) (fun a hF => ?_)
      refine l_nil ?_
      refine t_n ?_
      refine c_sr ?_
      refine pv hF hW (y_loadAll hF rfl 0 rfl Try.underlying68 rfl sz_68) (fun a hF => ?_)
      refine pe (e_call hF rfl rfl en_38 (by rfl) rfl rfl (hfr _ hW.below) ?_)
      rintro e w1 ⟨rfl, hb⟩
      replace hW := hW.kept hb
      clear hb
      refine ⟨_, rfl, fun a hF => ?_⟩
      refine pv hF hW (y_move hF rfl) (fun a hF => ?_)
      refine pv hF hW (y_extract hF rfl rfl) (fun a hF => ?_)
      refine pv hF hW (y_extract hF rfl rfl) (fun a hF => ?_)
      refine pv hF hW (y_assign hF rfl) (fun a hF => ?_)
      refine pv hF hW (y_assign hF rfl) (fun a hF => ?_)
      refine l_nil ?_
      replace hF := (hF.k 0 rfl (hF.k 1 rfl (hF.k 2 rfl (hF.k 4 rfl (hF.k 5 rfl (hF.k 6 rfl hF.nil))))))
      refine t_n ?_
      refine c_sr ?_
      refine pv hF hW (y_loadAll hF rfl 0 rfl Try.underlying68 rfl sz_68) (fun a hF => ?_)
      refine pv hF hW (y_move hF rfl) (fun a hF => ?_)
      refine pe (e_call hF rfl rfl en_39 (by rfl) rfl rfl (hwho _ hW.below) ?_)
      rintro e w1 ⟨rfl, hb⟩
      replace hW := hW.kept hb
      clear hb
      refine ⟨_, rfl, fun a hF => ?_⟩
      refine pv hF hW (y_move hF rfl) (fun a hF => ?_)
      refine pv hF hW (y_extract hF rfl rfl) (fun a hF => ?_)
      refine pv hF hW (y_extract hF rfl rfl) (fun a hF => ?_)
      refine pv hF hW (y_assign hF rfl) (fun a hF => ?_)
      refine pv hF hW (y_assign hF rfl) (fun a hF => ?_)
      refine l_nil ?_
      replace hF := (hF.k 0 rfl (hF.k 1 rfl (hF.k 2 rfl (hF.k 4 rfl (hF.k 5 rfl (hF.k 6 rfl (hF.k 7 rfl (hF.k 8 rfl hF.nil))))))))
      refine t_n ?_
      refine c_sr ?_
      refine pv hF hW (y_loadAll hF rfl 0 rfl Try.underlying68 rfl sz_68) (fun a hF => ?_)
      refine pe (e_call hF rfl rfl en_36 (by rfl) rfl rfl (hchk _ hW.below) ?_)
      rintro e w1 ⟨rfl, hb⟩
      replace hW := hW.kept hb
      clear hb
      refine ⟨_, rfl, fun a hF => ?_⟩
      refine pv hF hW (y_assign hF rfl) (fun a hF => ?_)
      refine l_nil ?_
      replace hF := (hF.k 0 rfl (hF.k 1 rfl (hF.k 2 rfl (hF.k 4 rfl (hF.k 5 rfl (hF.k 6 rfl (hF.k 7 rfl (hF.k 8 rfl (hF.k 9 rfl hF.nil)))))))))
      refine t_n ?_
      refine c_sr ?_
      refine pv hF hW (y_move hF rfl) (fun a hF => ?_)
      refine pv hF hW (y_assign hF rfl) (fun a hF => ?_)
      refine l_nil ?_
      replace hF := (hF.k 0 rfl (hF.k 1 rfl (hF.k 2 rfl (hF.k 4 rfl (hF.k 5 rfl (hF.k 6 rfl (hF.k 7 rfl (hF.k 8 rfl (hF.k 9 rfl (hF.k 10 rfl hF.nil))))))))))
      refine t_n ?_
      refine c_s ?_
      refine c_sr ?_
      refine pv hF hW (y_move hF rfl) (fun a hF => ?_)
      refine pv hF hW (y_eql hF rfl rfl) (fun a hF => ?_)
      replace hF := Fr.bool (t := true) (by first | decide | (simp; done) | rfl) hF
      refine pv hF hW (y_move hF rfl) (fun a hF => ?_)
      replace hF := Fr.bool (t := true) (by first | decide | (simp; done) | rfl) hF
      refine pv hF hW (y_move hF rfl) (fun a hF => ?_) (ws hF rfl rfl)
      refine pv hF hW (y_lss hF rfl rfl) (fun a hF => ?_) (ws hF rfl rfl)
      refine Fr.splitD hF ?_ ?_
      · intro h2 hF
        exfalso
        omega
      · intro h2 hF
        refine pv hF hW (y_pick hF rfl rfl) (fun a hF => ?_)
        refine l_nil ?_
        replace hF := (hF.k 0 rfl (hF.k 1 rfl (hF.k 2 rfl (hF.k 4 rfl (hF.k 5 rfl (hF.k 6 rfl (hF.k 7 rfl (hF.k 8 rfl (hF.k 9 rfl (hF.k 10 rfl (hF.k 32 rfl hF.nil)))))))))))
        refine t_n ?_
        refine c_f hF rfl ?_
        refine wp_skip ?_
        refine t_n ?_
        refine c_sr ?_
        refine pv hF hW (y_assign hF rfl) (fun a hF => ?_)
        refine pv hF hW (y_assign hF rfl) (fun a hF => ?_)
        refine l_nil ?_
        refine t_n ?_
        refine c_s ?_
        refine c_sr ?_
        refine pv hF hW (y_move hF rfl) (fun a hF => ?_)
        refine pv hF hW (y_eql hF rfl rfl) (fun a hF => ?_)
        replace hF := Fr.bool (t := true) (by first | decide | (simp; done) | rfl) hF
        refine l_nil ?_
        replace hF := (hF.k 0 rfl (hF.k 1 rfl (hF.k 2 rfl (hF.k 4 rfl (hF.k 5 rfl (hF.k 6 rfl (hF.k 7 rfl (hF.k 8 rfl (hF.k 9 rfl (hF.k 10 rfl (hF.k 11 rfl (hF.k 12 rfl (hF.k 32 rfl (hF.k 34 rfl hF.nil))))))))))))))
        refine t_n ?_
        refine c_t hF rfl ?_
        refine c_r ?_
        refine pv hF hW (y_loadAll hF rfl 0 rfl Try.underlying68 rfl sz_68) (fun a hF => ?_)
        refine pe (e_call hF rfl rfl en_40 (by rfl) rfl rfl (hfo _ hW.below) ?_)
        rintro e w1 ⟨rfl, hb⟩
        replace hW := hW.kept hb
        clear hb
        refine ⟨_, rfl, fun a hF => ?_⟩
        replace hF := hF.drop 11
        refine pv hF hW (y_assign hF rfl) (fun a hF => ?_)
        refine l_nil ?_
        replace hF := (hF.k 0 rfl (hF.k 1 rfl (hF.k 2 rfl (hF.k 4 rfl (hF.k 5 rfl (hF.k 6 rfl (hF.k 7 rfl (hF.k 8 rfl (hF.k 9 rfl (hF.k 10 rfl (hF.k 11 rfl (hF.k 12 rfl (hF.k 32 rfl (hF.k 34 rfl hF.nil))))))))))))))
        refine t_n ?_
        refine c_s ?_
        refine c_sr ?_
        refine pv hF hW (y_move hF rfl) (fun a hF => ?_)
        refine pv hF hW (y_eql hF rfl rfl) (fun a hF => ?_)
        replace hF := Fr.bool (t := true) (by first | decide | (simp; done) | rfl) hF
        refine l_nil ?_
        replace hF := (hF.k 0 rfl (hF.k 1 rfl (hF.k 2 rfl (hF.k 4 rfl (hF.k 5 rfl (hF.k 6 rfl (hF.k 7 rfl (hF.k 8 rfl (hF.k 9 rfl (hF.k 10 rfl (hF.k 11 rfl (hF.k 12 rfl (hF.k 32 rfl (hF.k 34 rfl (hF.k 38 rfl hF.nil)))))))))))))))
        refine t_n ?_
        refine c_t hF rfl ?_
        refine c_r ?_
        refine pv hF hW (y_loadAll hF rfl 0 rfl Try.underlying68 rfl sz_68) (fun a hF => ?_)
        refine pv hF hW (y_move hF rfl) (fun a hF => ?_)
        refine pe (e_call hF rfl rfl en_41 (by rfl) rfl rfl (hwof _ hW.below) ?_)
        rintro e w1 ⟨rfl, hb⟩
        replace hW := hW.kept hb
        clear hb
        refine ⟨_, rfl, fun a hF => ?_⟩
        replace hF := hF.drop 12
        refine pv hF hW (y_assign hF rfl) (fun a hF => ?_)
        refine l_nil ?_
        replace hF := (hF.k 0 rfl (hF.k 1 rfl (hF.k 2 rfl (hF.k 4 rfl (hF.k 5 rfl (hF.k 6 rfl (hF.k 7 rfl (hF.k 8 rfl (hF.k 9 rfl (hF.k 10 rfl (hF.k 11 rfl (hF.k 12 rfl (hF.k 32 rfl (hF.k 34 rfl (hF.k 38 rfl hF.nil)))))))))))))))
        refine t_n ?_
        refine c_sr ?_
        refine pe (e_call hF rfl rfl en_42 (by rfl) rfl rfl (schedBegun_any _) ?_)
        rintro e w1 ⟨rfl, hb⟩
        replace hW := hW.kept hb
        clear hb
        refine ⟨_, rfl, fun a hF => ?_⟩
        refine pv hF hW (y_move hF rfl) (fun a hF => ?_)
        refine pv hF hW (y_move hF rfl) (fun a hF => ?_) (ws hF rfl rfl)
        refine pv hF hW (y_move hF rfl) (fun a hF => ?_) (ws hF rfl rfl)
        refine pv hF hW (y_eql hF rfl rfl) (fun a hF => ?_) (ws hF rfl rfl)
        refine Fr.splitD hF ?_ ?_
        · intro h3 hF
          refine pv hF hW (y_pick hF rfl rfl) (fun a hF => ?_)
          refine pv hF hW (y_move hF rfl) (fun a hF => ?_)
          refine pv hF hW (y_move hF rfl) (fun a hF => ?_) (ws hF rfl rfl)
          refine pv hF hW (y_move hF rfl) (fun a hF => ?_) (ws hF rfl rfl)
          refine pv hF hW (y_eql hF rfl rfl) (fun a hF => ?_) (ws hF rfl rfl)
          replace hF := Fr.bool (t := true) (by first | decide | (simp; done) | rfl) hF
          refine pv hF hW (y_pick hF rfl rfl) (fun a hF => ?_)
          replace hF := Fr.bool (t := true) (by first | decide | (simp; done) | rfl) hF
          refine pv hF hW (y_move hF rfl) (fun a hF => ?_)
          replace hF := Fr.bool (t := true) (by first | decide | (simp; done) | rfl) hF
          refine pv hF hW (y_move hF rfl) (fun a hF => ?_) (ws hF rfl rfl)
          refine pv hF hW (y_move hF rfl) (fun a hF => ?_) (ws hF rfl rfl)
          refine pv hF hW (y_eql hF rfl rfl) (fun a hF => ?_) (ws hF rfl rfl)
          refine Fr.splitD hF ?_ ?_
          · intro h4 hF
            refine pv hF hW (y_pick hF rfl rfl) (fun a hF => ?_)
            refine pv hF hW (y_move hF rfl) (fun a hF => ?_)
            refine pv hF hW (y_move hF rfl) (fun a hF => ?_) (ws hF rfl rfl)
            refine pv hF hW (y_move hF rfl) (fun a hF => ?_) (ws hF rfl rfl)
            refine pv hF hW (y_eql hF rfl rfl) (fun a hF => ?_) (ws hF rfl rfl)
            replace hF := Fr.bool (t := true) (by first | decide | (simp; done) | rfl) hF
            refine pv hF hW (y_pick hF rfl rfl) (fun a hF => ?_)
            replace hF := Fr.bool (t := true) (by first | decide | (simp; done) | rfl) hF
            replace hF := hF.drop 4
            refine pv hF hW (y_assign hF rfl) (fun a hF => ?_)
            replace hF := Fr.bool (t := true) (by first | decide | (simp; done) | rfl) hF
            refine l_nil ?_
            replace hF := (hF.k 0 rfl (hF.k 1 rfl (hF.k 2 rfl (hF.k 4 rfl (hF.k 5 rfl (hF.k 6 rfl (hF.k 7 rfl (hF.k 8 rfl (hF.k 9 rfl (hF.k 10 rfl (hF.k 11 rfl (hF.k 12 rfl (hF.k 32 rfl (hF.k 34 rfl (hF.k 38 rfl hF.nil)))))))))))))))
            refine t_n ?_
            refine wp_ret ?_
            refine ret1 Try.results10 hF (rv_t hF rfl) ?_
            exact ⟨rfl, hW.below⟩
          · intro h4 hF
            exfalso
            exact h4 rfl
        · intro h3 hF
          exfalso
          exact h3 rfl
  · have hwho := fun w1 (hb : Below w.heap.size w w1) => who_bad (hx.below hb) hk t
    rw [show frameOf x.sys = 0 from if_neg hk] at hfr
    generalize chkSys x.sys = E at *
    rw [x.val_eq] at *
    refine enter Try.func10 rfl Try.ntmps10 rfl (fun a hF => ?_)
    have hW := Wd.start w NoB
    refine c_sr ?_
    refine pe (e_box hF hW rfl rfl rfl rfl ?_)
    intro b1 a wc hF hW
    refine pv hF hW (y_assign hF rfl) (fun a hF => ?_)
    refine l_nil ?_
    refine t_n ?_
    refine c_sr ?_
    refine pv hF hW (y_loadAll hF rfl 0 rfl Try.underlying68 rfl sz_68) (fun a hF => ?_)
    refine pe (e_call hF rfl rfl en_38 (by rfl) rfl rfl (hfr _ hW.below) ?_)
    rintro e w1 ⟨rfl, hb⟩
    replace hW := hW.kept hb
    clear hb
    refine ⟨_, rfl, fun a hF => ?_⟩
    refine pv hF hW (y_move hF rfl) (fun a hF => ?_)
    refine pv hF hW (y_extract hF rfl rfl) (fun a hF => ?_)
    refine pv hF hW (y_extract hF rfl rfl) (fun a hF => ?_)
    refine pv hF hW (y_assign hF rfl) (fun a hF => ?_)
    refine pv hF hW (y_assign hF rfl) (fun a hF => ?_)
    refine l_nil ?_
    replace hF := (hF.k 0 rfl (hF.k 1 rfl (hF.k 2 rfl (hF.k 4 rfl (hF.k 5 rfl (hF.k 6 rfl hF.nil))))))
    refine t_n ?_
    refine c_sr ?_
    refine pv hF hW (y_loadAll hF rfl 0 rfl Try.underlying68 rfl sz_68) (fun a hF => ?_)
    refine pv hF hW (y_move hF rfl) (fun a hF => ?_)
    refine pe (e_call hF rfl rfl en_39 (by rfl) rfl rfl (hwho _ hW.below) ?_)
    rintro e w1 ⟨rfl, hb⟩
    replace hW := hW.kept hb
    clear hb
    refine ⟨_, rfl, fun a hF => ?_⟩
    refine pv hF hW (y_move hF rfl) (fun a hF => ?_)
    refine pv hF hW (y_extract hF rfl rfl) (fun a hF => ?_)
    refine pv hF hW (y_extract hF rfl rfl) (fun a hF => ?_)
    refine pv hF hW (y_assign hF rfl) (fun a hF => ?_)
    refine pv hF hW (y_assign hF rfl) (fun a hF => ?_)
    refine l_nil ?_
    replace hF := (hF.k 0 rfl (hF.k 1 rfl (hF.k 2 rfl (hF.k 4 rfl (hF.k 5 rfl (hF.k 6 rfl (hF.k 7 rfl (hF.k 8 rfl hF.nil))))))))
    refine t_n ?_
    refine c_sr ?_
    refine pv hF hW (y_loadAll hF rfl 0 rfl Try.underlying68 rfl sz_68) (fun a hF => ?_)
    refine pe (e_call hF rfl rfl en_36 (by rfl) rfl rfl (hchk _ hW.below) ?_)
    rintro e w1 ⟨rfl, hb⟩
    replace hW := hW.kept hb
    clear hb
    refine ⟨_, rfl, fun a hF => ?_⟩
    refine pv hF hW (y_assign hF rfl) (fun a hF => ?_)
    refine l_nil ?_
    replace hF := (hF.k 0 rfl (hF.k 1 rfl (hF.k 2 rfl (hF.k 4 rfl (hF.k 5 rfl (hF.k 6 rfl (hF.k 7 rfl (hF.k 8 rfl (hF.k 9 rfl hF.nil)))))))))
    refine t_n ?_
    refine c_sr ?_
    refine pv hF hW (y_move hF rfl) (fun a hF => ?_)
    refine pv hF hW (y_assign hF rfl) (fun a hF => ?_)
    refine l_nil ?_
    replace hF := (hF.k 0 rfl (hF.k 1 rfl (hF.k 2 rfl (hF.k 4 rfl (hF.k 5 rfl (hF.k 6 rfl (hF.k 7 rfl (hF.k 8 rfl (hF.k 9 rfl (hF.k 10 rfl hF.nil))))))))))
    refine t_n ?_
    refine c_s ?_
    refine c_sr ?_
    refine pv hF hW (y_move hF rfl) (fun a hF => ?_)
    refine pv hF hW (y_eql hF rfl rfl) (fun a hF => ?_)
    refine Fr.splitD hF ?_ ?_
    · intro h2 hF
      exfalso
      omega
    · intro h2 hF
      refine pv hF hW (y_move hF rfl) (fun a hF => ?_)
      refine p_skip hF (wn hF rfl rfl rfl) rfl rfl (fun a hF => ?_)
      refine p_skip hF (wn hF rfl rfl rfl) rfl rfl (fun a hF => ?_)
      refine pv hF hW (y_pick hF rfl rfl) (fun a hF => ?_)
      refine l_nil ?_
      replace hF := (hF.k 0 rfl (hF.k 1 rfl (hF.k 2 rfl (hF.k 4 rfl (hF.k 5 rfl (hF.k 6 rfl (hF.k 7 rfl (hF.k 8 rfl (hF.k 9 rfl (hF.k 10 rfl (hF.k 32 rfl hF.nil)))))))))))
      refine t_n ?_
      refine c_f hF rfl ?_
      refine wp_skip ?_
      refine t_n ?_
      refine c_sr ?_
      refine pv hF hW (y_assign hF rfl) (fun a hF => ?_)
      refine pv hF hW (y_assign hF rfl) (fun a hF => ?_)
      refine l_nil ?_
      refine t_n ?_
      refine c_s ?_
      refine c_sr ?_
      refine pv hF hW (y_move hF rfl) (fun a hF => ?_)
      refine pv hF hW (y_eql hF rfl rfl) (fun a hF => ?_)
      refine Fr.splitD hF ?_ ?_
      · intro h3 hF
        exfalso
        omega
      · intro h3 hF
        refine l_nil ?_
        replace hF := (hF.k 0 rfl (hF.k 1 rfl (hF.k 2 rfl (hF.k 4 rfl (hF.k 5 rfl (hF.k 6 rfl (hF.k 7 rfl (hF.k 8 rfl (hF.k 9 rfl (hF.k 10 rfl (hF.k 11 rfl (hF.k 12 rfl (hF.k 32 rfl (hF.k 34 rfl hF.nil))))))))))))))
        refine t_n ?_
        refine c_f hF rfl ?_
        refine wp_skip ?_
        refine t_n ?_
        refine c_s ?_
        refine c_sr ?_
        refine pv hF hW (y_move hF rfl) (fun a hF => ?_)
        refine pv hF hW (y_eql hF rfl rfl) (fun a hF => ?_)
        refine Fr.splitD hF ?_ ?_
        · intro h4 hF
          exfalso
          omega
        · intro h4 hF
          refine l_nil ?_
          replace hF := (hF.k 0 rfl (hF.k 1 rfl (hF.k 2 rfl (hF.k 4 rfl (hF.k 5 rfl (hF.k 6 rfl (hF.k 7 rfl (hF.k 8 rfl (hF.k 9 rfl (hF.k 10 rfl (hF.k 11 rfl (hF.k 12 rfl (hF.k 32 rfl (hF.k 34 rfl (hF.k 38 rfl hF.nil)))))))))))))))
          refine t_n ?_
          refine c_f hF rfl ?_
          refine wp_skip ?_
          refine t_n ?_
          refine c_sr ?_
          refine pe (e_call hF rfl rfl en_42 (by rfl) rfl rfl (schedBegun_any _) ?_)
          rintro e w1 ⟨rfl, hb⟩
          replace hW := hW.kept hb
          clear hb
          refine ⟨_, rfl, fun a hF => ?_⟩
          refine pv hF hW (y_move hF rfl) (fun a hF => ?_)
          refine pv hF hW (y_move hF rfl) (fun a hF => ?_) (ws hF rfl rfl)
          refine pv hF hW (y_move hF rfl) (fun a hF => ?_) (ws hF rfl rfl)
          refine pv hF hW (y_eql hF rfl rfl) (fun a hF => ?_) (ws hF rfl rfl)
          replace hF := Fr.bool (t := true) (by first | decide | (simp; done) | rfl) hF
          refine pv hF hW (y_pick hF rfl rfl) (fun a hF => ?_)
          replace hF := Fr.bool (t := true) (by first | decide | (simp; done) | rfl) hF
          refine pv hF hW (y_move hF rfl) (fun a hF => ?_)
          replace hF := Fr.bool (t := true) (by first | decide | (simp; done) | rfl) hF
          refine pv hF hW (y_move hF rfl) (fun a hF => ?_) (ws hF rfl rfl)
          refine pv hF hW (y_move hF rfl) (fun a hF => ?_) (ws hF rfl rfl)
          refine pv hF hW (y_eql hF rfl rfl) (fun a hF => ?_) (ws hF rfl rfl)
          refine Fr.splitD hF ?_ ?_
          · intro h5 hF
            refine pv hF hW (y_pick hF rfl rfl) (fun a hF => ?_)
            refine pv hF hW (y_move hF rfl) (fun a hF => ?_)
            refine pv hF hW (y_move hF rfl) (fun a hF => ?_) (ws hF rfl rfl)
            refine pv hF hW (y_move hF rfl) (fun a hF => ?_) (ws hF rfl rfl)
            refine pv hF hW (y_eql hF rfl rfl) (fun a hF => ?_) (ws hF rfl rfl)
            replace hF := Fr.bool (t := true) (by first | decide | (simp; done) | rfl) hF
            refine pv hF hW (y_pick hF rfl rfl) (fun a hF => ?_)
            replace hF := Fr.bool (t := true) (by first | decide | (simp; done) | rfl) hF
            refine pv hF hW (y_move hF rfl) (fun a hF => ?_)
            replace hF := Fr.bool (t := true) (by first | decide | (simp; done) | rfl) hF
            refine pv hF hW (y_move hF rfl) (fun a hF => ?_) (ws hF rfl rfl)
            refine pv hF hW (y_move hF rfl) (fun a hF => ?_) (ws hF rfl rfl)
            refine pv hF hW (y_eql hF rfl rfl) (fun a hF => ?_) (ws hF rfl rfl)
            refine Fr.splitD hF ?_ ?_
            · intro h6 hF
              refine pv hF hW (y_pick hF rfl rfl) (fun a hF => ?_)
              replace hF := hF.drop 4
              refine pv hF hW (y_assign hF rfl) (fun a hF => ?_)
              refine l_nil ?_
              replace hF := (hF.k 0 rfl (hF.k 1 rfl (hF.k 2 rfl (hF.k 4 rfl (hF.k 5 rfl (hF.k 6 rfl (hF.k 7 rfl (hF.k 8 rfl (hF.k 9 rfl (hF.k 10 rfl (hF.k 11 rfl (hF.k 12 rfl (hF.k 32 rfl (hF.k 34 rfl (hF.k 38 rfl hF.nil)))))))))))))))
              refine t_n ?_
              refine wp_ret ?_
              refine ret1 Try.results10 hF (rv_t hF rfl) ?_
              exact ⟨rfl, hW.below⟩
            · intro h6 hF
              exfalso
              exact h6 rfl
          · intro h5 hF
            exfalso
            exact h5 rfl

set_option maxRecDepth 100000 in
theorem schedTells_contract (H : Type) (enc : TypeId × Value → H) (W : World) (base : Nat) (args : Array Value) (ds gs : List (DataW H)) (before : List MemPlace)
    (hval : ∀ (j : Nat) t v, Try.f10.params[j]? = some t → args[j]? = some v → Value.okWide Try.prog W .any base t v)
    (hW : DataW.Whole enc Try.prog Try.f10.params.toList Rows.schedTellsSpec.vars false W args.toList ds gs before) :
    Calls Try.prog 10 args W fun e W' => ∃ v, e = .returned v ∧ Rows.schedTellsSpec.post enc Try.prog Try.f10 false true false false W args v W' := by
  have hW' := hW
  obtain ⟨p, q, hA0, hV, rfl, hfz, hnd⟩ := hW
  have hA : DataW.TrodAll enc Try.prog W 0 (fun _ => true) true Try.f10.params.toList args.toList ds p := hA0
  rw [Try.params10] at hA hval
  obtain ⟨v0, v1, d0, d1, p0, p1, rfl, rfl, rfl, h0, h1⟩ := trodAll_two hA
  obtain ⟨x, rfl, hx⟩ := sys_open (hval 0 68 v0 rfl rfl) h0
  obtain ⟨n, rfl, rfl, rfl, wk1⟩ := open_int Try.underlying3 (hval 1 3 v1 rfl rfl) h1
  refine (schedTells_run x n W hx).mono fun e W' ⟨he, hb⟩ => ?_
  subst he
  exact ⟨_, rfl, law_post Try.laidOut hW' hb rfl (by kernel_rfl) Try.underlying4 (by kernel_rfl) rfl⟩

set_option maxRecDepth 100000 in
theorem schedTells_lifted (os : Os) (started : os.Started) (H : Type) (enc : TypeId × Value → H) :
    ReturnsInHanded {} Try.checked os 10 .any (Rows.schedTellsSpec.pre6 enc Try.prog Try.f10 Rows.schedTellsRow.domain false) (Rows.schedTellsSpec.post enc Try.prog Try.f10 false true false false) := by
  refine returnsInHanded_of_change (C := Try.checked) Try.own started (by kernel_rfl) Try.func10
    (ChangeSpec.witness6 (enc := enc) (C := Try.checked) false ⟨#[], #[.agg #[.slice none 0 0, .slice none 0 0, .slice none 0 0], .int .i64 0], []⟩ 8 (by kernel_rfl) (by kernel_rfl) (by kernel_rfl) (by kernel_rfl)) ?_
  intro W base args ds gs before hval hW _ _
  exact schedTells_contract H enc W base args ds gs before hval hW

theorem schedTells_holds : Rows.SchedTellsSaid :=
  OpenClaim.holds_of_wide 10 Try.f10 rfl rfl rfl rfl rfl rfl rfl ⟨rfl, rfl, rfl, rfl, rfl⟩ rfl rfl rfl rfl rfl (by kernel_rfl) Try.func10 (by kernel_rfl)
    (of_decide_eq_true (by kernel_rfl)) (by unfold Func.isWrapper; first | (rw [if_pos (by decide +kernel)]; kernel_rfl) | (rw [if_neg (by decide +kernel)]; exact ⟨rfl, rfl⟩))
    (fun os started H enc _ => schedTells_lifted os started H enc)
end Go.Proofs.Ytebklpbbglojmaa
