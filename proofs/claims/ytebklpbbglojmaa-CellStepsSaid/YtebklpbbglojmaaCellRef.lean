/- The reference's functions on cells: CellFine, StepError, ReplyError, ReplyOf, SameCells. -/
import Derived.Test.YtebklpbbglojmaaTys
import Derived.Test.YtebklpbbglojmaaCellIO
import Derived.Test.YtebklpbbglojmaaSame
namespace Go.Proofs.Ytebklpbbglojmaa
set_option linter.unusedVariables false
set_option linter.unusedSimpArgs false
open Go.RowKit

set_option maxRecDepth 100000

theorem truth_any (b : Bool) (w : World) : Calls Try.prog 55 #[.bool b] w fun e w' => e = .returned (.int .i64 (bitI b)) ∧ Below w.heap.size w w' := by
  cases b
  · refine enter Try.func55 rfl Try.ntmps55 rfl (fun a hF => ?_)
    have hW := Wd.start w NoB
    refine c_sr ?_
    refine pv hF hW (y_assign hF rfl) (fun a hF => ?_)
    refine l_nil ?_
    refine t_n ?_
    refine c_s ?_
    refine c_sr ?_
    refine pv hF hW (y_move hF rfl) (fun a hF => ?_)
    refine l_nil ?_
    refine t_n ?_
    refine c_f hF rfl ?_
    refine wp_skip ?_
    refine t_n ?_
    refine c_sr ?_
    replace hF := hF.drop 2
    refine pv hF hW (y_assign hF rfl) (fun a hF => ?_)
    refine l_nil ?_
    refine t_n ?_
    refine wp_ret ?_
    refine ret1 Try.results55 hF (rv_t hF rfl) ?_
    exact ⟨rfl, hW.below⟩
  · refine enter Try.func55 rfl Try.ntmps55 rfl (fun a hF => ?_)
    have hW := Wd.start w NoB
    refine c_sr ?_
    refine pv hF hW (y_assign hF rfl) (fun a hF => ?_)
    refine l_nil ?_
    refine t_n ?_
    refine c_s ?_
    refine c_sr ?_
    refine pv hF hW (y_move hF rfl) (fun a hF => ?_)
    refine l_nil ?_
    refine t_n ?_
    refine c_t hF rfl ?_
    refine c_sr ?_
    replace hF := hF.drop 2
    refine pv hF hW (y_assign hF rfl) (fun a hF => ?_)
    refine l_nil ?_
    refine t_n ?_
    refine wp_ret ?_
    refine t_r ?_
    refine ret1 Try.results55 hF (rv_t hF rfl) ?_
    exact ⟨rfl, hW.below⟩

theorem cellFineR_any (c : Cel) (ov : Value) (hwf : c.wf) (w : World) (ho : Ints w ov c.out) : Calls Try.prog 26 #[celV c ov] w fun e w' => e = .returned (.bool (cellFine c)) ∧ Below w.heap.size w w' := by
  obtain ⟨at_, regs, mem, rd, out, en⟩ := c
  obtain ⟨r0, r1, r2, r3, hregs⟩ := len_four hwf.1
  obtain ⟨m0, m1, m2, m3, m4, m5, m6, m7, hmem⟩ := len_eight hwf.2
  dsimp only at hregs hmem
  subst hregs hmem
  clear hwf
  obtain ⟨A, k, rfl⟩ := ho.form rfl
  rw [celV_eq]
  refine enter Try.func26 rfl Try.ntmps26 rfl (fun a hF => ?_)
  have hW := Wd.start w NoB
  refine c_sr ?_
  refine pe (e_box hF hW rfl rfl rfl rfl ?_)
  intro b1 a wc hF hW
  refine pv hF hW (y_assign hF rfl) (fun a hF => ?_)
  refine l_nil ?_
  refine t_n ?_
  refine c_sr ?_
  refine pv hF hW (y_fieldOwn hF rfl fa_46_0) (fun a hF => ?_)
  refine pv hF hW (y_loadOwn hF rfl 0 rfl rfl Try.underlying3 rfl) (fun a hF => ?_)
  refine pe (e_call hF rfl rfl en_50 (by rfl) rfl rfl (withinD_any _ _ _ _) ?_)
  rintro e w1 ⟨rfl, hb⟩
  replace hW := hW.kept hb
  clear hb
  refine ⟨_, rfl, fun a hF => ?_⟩
  refine Fr.splitB hF ?_ ?_
  · intro h2 hF
    refine pv hF hW (y_move hF rfl) (fun a hF => ?_)
    refine pv hF hW (y_fieldOwn hF rfl fa_46_3) (fun a hF => ?_) (ws hF rfl rfl)
    refine pv hF hW (y_loadOwn hF rfl 0 rfl rfl Try.underlying3 rfl) (fun a hF => ?_) (ws hF rfl rfl)
    refine pe (e_call hF rfl rfl en_50 (by rfl) rfl rfl (withinD_any _ _ _ _) ?_) (ws hF rfl rfl)
    rintro e w1 ⟨rfl, hb⟩
    replace hW := hW.kept hb
    clear hb
    refine ⟨_, rfl, fun a hF => ?_⟩
    refine Fr.splitB hF ?_ ?_
    · intro h3 hF
      refine pv hF hW (y_pick hF rfl rfl) (fun a hF => ?_)
      refine pv hF hW (y_move hF rfl) (fun a hF => ?_)
      refine pv hF hW (y_fieldOwn hF rfl fa_46_5) (fun a hF => ?_) (ws hF rfl rfl)
      refine pv hF hW (y_loadOwn hF rfl 0 rfl rfl Try.underlying3 rfl) (fun a hF => ?_) (ws hF rfl rfl)
      refine pe (e_call hF rfl rfl en_50 (by rfl) rfl rfl (withinD_any _ _ _ _) ?_) (ws hF rfl rfl)
      rintro e w1 ⟨rfl, hb⟩
      replace hW := hW.kept hb
      clear hb
      refine ⟨_, rfl, fun a hF => ?_⟩
      refine Fr.splitB hF ?_ ?_
      · intro h4 hF
        refine pv hF hW (y_pick hF rfl rfl) (fun a hF => ?_)
        refine pv hF hW (y_move hF rfl) (fun a hF => ?_)
        refine pv hF hW (y_fieldOwn hF rfl fa_46_4) (fun a hF => ?_) (ws hF rfl rfl)
        refine pv hF hW (y_loadOwn hF rfl 0 rfl rfl Try.underlying22 rfl) (fun a hF => ?_) (ws hF rfl rfl)
        refine pv hF hW (y_len hF rfl Try.underlying22) (fun a hF => ?_) (ws hF rfl rfl)
        refine pv hF hW (y_leq hF rfl rfl) (fun a hF => ?_) (ws hF rfl rfl)
        refine Fr.splitD hF ?_ ?_
        · intro h5 hF
          refine pv hF hW (y_pick hF rfl rfl) (fun a hF => ?_)
          replace hF := hF.drop 2
          refine pv hF hW (y_assign hF rfl) (fun a hF => ?_)
          refine l_nil ?_
          replace hF := (hF.k 0 rfl (hF.k 1 rfl (hF.k 2 rfl hF.nil)))
          refine t_n ?_
          refine wp_ret ?_
          refine ret1 Try.results26 hF (rv_t hF rfl) ?_
          simp only [decide_eq_true_eq, decide_eq_false_iff_not] at *
          refine ⟨?_, hW.below⟩
          first | rw [show cellFine _ = true by unfold cellFine; simp only [decide_eq_true_eq]; omega] | rw [show cellFine _ = false by unfold cellFine; simp only [decide_eq_false_iff_not]; omega]
        · intro h5 hF
          refine pv hF hW (y_pick hF rfl rfl) (fun a hF => ?_)
          replace hF := hF.drop 2
          refine pv hF hW (y_assign hF rfl) (fun a hF => ?_)
          refine l_nil ?_
          replace hF := (hF.k 0 rfl (hF.k 1 rfl (hF.k 2 rfl hF.nil)))
          refine t_n ?_
          refine wp_ret ?_
          refine ret1 Try.results26 hF (rv_t hF rfl) ?_
          simp only [decide_eq_true_eq, decide_eq_false_iff_not] at *
          refine ⟨?_, hW.below⟩
          first | rw [show cellFine _ = true by unfold cellFine; simp only [decide_eq_true_eq]; omega] | rw [show cellFine _ = false by unfold cellFine; simp only [decide_eq_false_iff_not]; omega]
      · intro h4 hF
        refine pv hF hW (y_pick hF rfl rfl) (fun a hF => ?_)
        refine pv hF hW (y_move hF rfl) (fun a hF => ?_)
        refine p_skip hF (wn hF rfl rfl rfl) rfl rfl (fun a hF => ?_)
        refine p_skip hF (wn hF rfl rfl rfl) rfl rfl (fun a hF => ?_)
        refine p_skip hF (wn hF rfl rfl rfl) rfl rfl (fun a hF => ?_)
        refine p_skip hF (wn hF rfl rfl rfl) rfl rfl (fun a hF => ?_)
        refine pv hF hW (y_pick hF rfl rfl) (fun a hF => ?_)
        replace hF := hF.drop 2
        refine pv hF hW (y_assign hF rfl) (fun a hF => ?_)
        refine l_nil ?_
        replace hF := (hF.k 0 rfl (hF.k 1 rfl (hF.k 2 rfl hF.nil)))
        refine t_n ?_
        refine wp_ret ?_
        refine ret1 Try.results26 hF (rv_t hF rfl) ?_
        simp only [decide_eq_true_eq, decide_eq_false_iff_not] at *
        refine ⟨?_, hW.below⟩
        first | rw [show cellFine _ = true by unfold cellFine; simp only [decide_eq_true_eq]; omega] | rw [show cellFine _ = false by unfold cellFine; simp only [decide_eq_false_iff_not]; omega]
    · intro h3 hF
      refine pv hF hW (y_pick hF rfl rfl) (fun a hF => ?_)
      refine pv hF hW (y_move hF rfl) (fun a hF => ?_)
      refine p_skip hF (wn hF rfl rfl rfl) rfl rfl (fun a hF => ?_)
      refine p_skip hF (wn hF rfl rfl rfl) rfl rfl (fun a hF => ?_)
      refine p_skip hF (wn hF rfl rfl rfl) rfl rfl (fun a hF => ?_)
      refine pv hF hW (y_pick hF rfl rfl) (fun a hF => ?_)
      refine pv hF hW (y_move hF rfl) (fun a hF => ?_)
      refine p_skip hF (wn hF rfl rfl rfl) rfl rfl (fun a hF => ?_)
      refine p_skip hF (wn hF rfl rfl rfl) rfl rfl (fun a hF => ?_)
      refine p_skip hF (wn hF rfl rfl rfl) rfl rfl (fun a hF => ?_)
      refine p_skip hF (wn hF rfl rfl rfl) rfl rfl (fun a hF => ?_)
      refine pv hF hW (y_pick hF rfl rfl) (fun a hF => ?_)
      replace hF := hF.drop 2
      refine pv hF hW (y_assign hF rfl) (fun a hF => ?_)
      refine l_nil ?_
      replace hF := (hF.k 0 rfl (hF.k 1 rfl (hF.k 2 rfl hF.nil)))
      refine t_n ?_
      refine wp_ret ?_
      refine ret1 Try.results26 hF (rv_t hF rfl) ?_
      simp only [decide_eq_true_eq, decide_eq_false_iff_not] at *
      refine ⟨?_, hW.below⟩
      first | rw [show cellFine _ = true by unfold cellFine; simp only [decide_eq_true_eq]; omega] | rw [show cellFine _ = false by unfold cellFine; simp only [decide_eq_false_iff_not]; omega]
  · intro h2 hF
    refine pv hF hW (y_move hF rfl) (fun a hF => ?_)
    refine p_skip hF (wn hF rfl rfl rfl) rfl rfl (fun a hF => ?_)
    refine p_skip hF (wn hF rfl rfl rfl) rfl rfl (fun a hF => ?_)
    refine p_skip hF (wn hF rfl rfl rfl) rfl rfl (fun a hF => ?_)
    refine pv hF hW (y_pick hF rfl rfl) (fun a hF => ?_)
    refine pv hF hW (y_move hF rfl) (fun a hF => ?_)
    refine p_skip hF (wn hF rfl rfl rfl) rfl rfl (fun a hF => ?_)
    refine p_skip hF (wn hF rfl rfl rfl) rfl rfl (fun a hF => ?_)
    refine p_skip hF (wn hF rfl rfl rfl) rfl rfl (fun a hF => ?_)
    refine pv hF hW (y_pick hF rfl rfl) (fun a hF => ?_)
    refine pv hF hW (y_move hF rfl) (fun a hF => ?_)
    refine p_skip hF (wn hF rfl rfl rfl) rfl rfl (fun a hF => ?_)
    refine p_skip hF (wn hF rfl rfl rfl) rfl rfl (fun a hF => ?_)
    refine p_skip hF (wn hF rfl rfl rfl) rfl rfl (fun a hF => ?_)
    refine p_skip hF (wn hF rfl rfl rfl) rfl rfl (fun a hF => ?_)
    refine pv hF hW (y_pick hF rfl rfl) (fun a hF => ?_)
    replace hF := hF.drop 2
    refine pv hF hW (y_assign hF rfl) (fun a hF => ?_)
    refine l_nil ?_
    replace hF := (hF.k 0 rfl (hF.k 1 rfl (hF.k 2 rfl hF.nil)))
    refine t_n ?_
    refine wp_ret ?_
    refine ret1 Try.results26 hF (rv_t hF rfl) ?_
    simp only [decide_eq_true_eq, decide_eq_false_iff_not] at *
    refine ⟨?_, hW.below⟩
    first | rw [show cellFine _ = true by unfold cellFine; simp only [decide_eq_true_eq]; omega] | rw [show cellFine _ = false by unfold cellFine; simp only [decide_eq_false_iff_not]; omega]

theorem stepError_any (p : Prt) (c : Cel) (cv iv ov : Value) (hwf : c.wf) (w : World) (ho : Ints w ov c.out) (hc : Code_ w cv p.code) (hi : Ints w iv p.inp) :
    Calls Try.prog 22 #[.agg #[cv, iv], celV c ov] w fun e w' => e = .returned (.int .i64 (stepErr p c)) ∧ Below w.heap.size w w' := by
  have hcf := fun w1 (hb : Below w.heap.size w w1) => cellFineR_any c ov hwf w1 (ho.below hb)
  have hcc := fun w1 (hb : Below w.heap.size w w1) => checkCode_any cv p.code w1 (hc.below hb)
  obtain ⟨Ac, cc, rfl⟩ := hc.form rfl
  obtain ⟨Ai, ci, rfl⟩ := hi.form rfl
  obtain ⟨at_, regs, mem, rd, out, en⟩ := c
  obtain ⟨r0, r1, r2, r3, hregs⟩ := len_four hwf.1
  obtain ⟨m0, m1, m2, m3, m4, m5, m6, m7, hmem⟩ := len_eight hwf.2
  dsimp only at hregs hmem
  subst hregs hmem
  clear hwf
  obtain ⟨A, k, rfl⟩ := ho.form rfl
  rw [celV_eq] at *
  refine enter Try.func22 rfl Try.ntmps22 rfl (fun a hF => ?_)
  have hW := Wd.start w NoB
  refine c_sr ?_
  refine pe (e_box hF hW rfl rfl rfl rfl ?_)
  intro b1 a wc hF hW
  refine pe (e_box hF hW rfl rfl rfl rfl ?_)
  intro b2 a wc hF hW
  refine pv hF hW (y_assign hF rfl) (fun a hF => ?_)
  refine l_nil ?_
  refine t_n ?_
  refine c_s ?_
  refine c_sr ?_
  refine pv hF hW (y_fieldOwn hF rfl fa_42_0) (fun a hF => ?_)
  refine pv hF hW (y_loadOwn hF rfl 1 rfl rfl Try.underlying40 rfl) (fun a hF => ?_)
  refine pe (e_call hF rfl rfl en_48 (by rfl) rfl rfl (hcc _ hW.below) ?_)
  rintro e w1 ⟨rfl, hb⟩
  replace hW := hW.kept hb
  clear hb
  refine ⟨_, rfl, fun a hF => ?_⟩
  refine pv hF hW (y_assign hF rfl) (fun a hF => ?_)
  refine l_nil ?_
  replace hF := (hF.k 0 rfl (hF.k 1 rfl (hF.k 2 rfl (hF.k 3 rfl (hF.k 4 rfl (hF.k 5 rfl hF.nil))))))
  refine t_n ?_
  refine c_sr ?_
  refine pv hF hW (y_move hF rfl) (fun a hF => ?_)
  refine pv hF hW (y_neq hF rfl rfl) (fun a hF => ?_)
  refine Fr.splitD hF ?_ ?_
  · intro h3 hF
    refine l_nil ?_
    replace hF := (hF.k 0 rfl (hF.k 1 rfl (hF.k 2 rfl (hF.k 3 rfl (hF.k 4 rfl (hF.k 5 rfl (hF.k 10 rfl hF.nil)))))))
    refine t_n ?_
    refine c_t hF rfl ?_
    refine c_sr ?_
    refine pv hF hW (y_move hF rfl) (fun a hF => ?_)
    replace hF := hF.drop 4
    refine pv hF hW (y_assign hF rfl) (fun a hF => ?_)
    refine l_nil ?_
    replace hF := (hF.k 0 rfl (hF.k 1 rfl (hF.k 2 rfl (hF.k 3 rfl (hF.k 4 rfl (hF.k 5 rfl (hF.k 10 rfl hF.nil)))))))
    refine t_n ?_
    refine wp_ret ?_
    refine t_r ?_
    refine ret1 Try.results22 hF (rv_t hF rfl) ?_
    refine ⟨?_, hW.below⟩
    simp only [stepErr]
    repeat' split
    all_goals first | rfl | (exfalso; simp_all; done) | (exfalso; omega) | (simp_all; done) | (simp_all; omega)
  · intro h3 hF
    refine l_nil ?_
    replace hF := (hF.k 0 rfl (hF.k 1 rfl (hF.k 2 rfl (hF.k 3 rfl (hF.k 4 rfl (hF.k 5 rfl (hF.k 10 rfl hF.nil)))))))
    refine t_n ?_
    refine c_f hF rfl ?_
    refine wp_skip ?_
    refine t_n ?_
    refine c_s ?_
    refine c_sr ?_
    refine pv hF hW (y_fieldOwn hF rfl fa_42_1) (fun a hF => ?_)
    refine pv hF hW (y_loadOwn hF rfl 1 rfl rfl Try.underlying22 rfl) (fun a hF => ?_)
    refine pv hF hW (y_len hF rfl Try.underlying22) (fun a hF => ?_)
    refine pv hF hW (y_gtr hF rfl rfl) (fun a hF => ?_)
    refine Fr.splitD hF ?_ ?_
    · intro h4 hF
      refine l_nil ?_
      replace hF := (hF.k 0 rfl (hF.k 1 rfl (hF.k 2 rfl (hF.k 3 rfl (hF.k 4 rfl (hF.k 5 rfl (hF.k 10 rfl (hF.k 15 rfl hF.nil))))))))
      refine t_n ?_
      refine c_t hF rfl ?_
      refine c_sr ?_
      replace hF := hF.drop 4
      refine pv hF hW (y_assign hF rfl) (fun a hF => ?_)
      refine l_nil ?_
      refine t_n ?_
      refine wp_ret ?_
      refine t_r ?_
      refine ret1 Try.results22 hF (rv_t hF rfl) ?_
      refine ⟨?_, hW.below⟩
      simp only [stepErr]
      repeat' split
      all_goals first | rfl | (exfalso; simp_all; done) | (exfalso; omega) | (simp_all; done) | (simp_all; omega)
    · intro h4 hF
      refine l_nil ?_
      replace hF := (hF.k 0 rfl (hF.k 1 rfl (hF.k 2 rfl (hF.k 3 rfl (hF.k 4 rfl (hF.k 5 rfl (hF.k 10 rfl (hF.k 15 rfl hF.nil))))))))
      refine t_n ?_
      refine c_f hF rfl ?_
      refine wp_skip ?_
      refine t_n ?_
      refine c_s ?_
      refine c_sr ?_
      refine pv hF hW (y_loadAll hF rfl 0 rfl Try.underlying46 rfl sz_46) (fun a hF => ?_)
      refine pe (e_call hF rfl rfl en_26 (by rfl) rfl rfl (hcf _ hW.below) ?_)
      rintro e w1 ⟨rfl, hb⟩
      replace hW := hW.kept hb
      clear hb
      refine ⟨_, rfl, fun a hF => ?_⟩
      refine Fr.splitB hF ?_ ?_
      · intro h5 hF
        refine pv hF hW (y_not hF rfl) (fun a hF => ?_)
        replace hF := Fr.bool (t := false) (by first | decide | (simp; done) | rfl) hF
        refine pv hF hW (y_move hF rfl) (fun a hF => ?_)
        replace hF := Fr.bool (t := false) (by first | decide | (simp; done) | rfl) hF
        refine pv hF hW (y_fieldOwn hF rfl fa_46_3) (fun a hF => ?_) (ws hF rfl rfl)
        refine pv hF hW (y_loadOwn hF rfl 0 rfl rfl Try.underlying3 rfl) (fun a hF => ?_) (ws hF rfl rfl)
        refine pv hF hW (y_fieldOwn hF rfl fa_42_1) (fun a hF => ?_) (ws hF rfl rfl)
        refine pv hF hW (y_loadOwn hF rfl 1 rfl rfl Try.underlying22 rfl) (fun a hF => ?_) (ws hF rfl rfl)
        refine pv hF hW (y_len hF rfl Try.underlying22) (fun a hF => ?_) (ws hF rfl rfl)
        refine pv hF hW (y_gtr hF rfl rfl) (fun a hF => ?_) (ws hF rfl rfl)
        refine Fr.splitD hF ?_ ?_
        · intro h6 hF
          refine pv hF hW (y_pick hF rfl rfl) (fun a hF => ?_)
          refine l_nil ?_
          replace hF := (hF.k 0 rfl (hF.k 1 rfl (hF.k 2 rfl (hF.k 3 rfl (hF.k 4 rfl (hF.k 5 rfl (hF.k 10 rfl (hF.k 15 rfl (hF.k 26 rfl hF.nil)))))))))
          refine t_n ?_
          refine c_t hF rfl ?_
          refine c_sr ?_
          replace hF := hF.drop 4
          refine pv hF hW (y_assign hF rfl) (fun a hF => ?_)
          refine l_nil ?_
          refine t_n ?_
          refine wp_ret ?_
          refine t_r ?_
          refine ret1 Try.results22 hF (rv_t hF rfl) ?_
          refine ⟨?_, hW.below⟩
          simp only [stepErr]
          repeat' split
          all_goals first | rfl | (exfalso; simp_all; done) | (exfalso; omega) | (simp_all; done) | (simp_all; omega)
        · intro h6 hF
          refine pv hF hW (y_pick hF rfl rfl) (fun a hF => ?_)
          refine l_nil ?_
          replace hF := (hF.k 0 rfl (hF.k 1 rfl (hF.k 2 rfl (hF.k 3 rfl (hF.k 4 rfl (hF.k 5 rfl (hF.k 10 rfl (hF.k 15 rfl (hF.k 26 rfl hF.nil)))))))))
          refine t_n ?_
          refine c_f hF rfl ?_
          refine wp_skip ?_
          refine t_n ?_
          refine c_sr ?_
          replace hF := hF.drop 4
          refine pv hF hW (y_assign hF rfl) (fun a hF => ?_)
          refine l_nil ?_
          refine t_n ?_
          refine wp_ret ?_
          refine ret1 Try.results22 hF (rv_t hF rfl) ?_
          refine ⟨?_, hW.below⟩
          simp only [stepErr]
          repeat' split
          all_goals first | rfl | (exfalso; simp_all; done) | (exfalso; omega) | (simp_all; done) | (simp_all; omega)
      · intro h5 hF
        refine pv hF hW (y_not hF rfl) (fun a hF => ?_)
        replace hF := Fr.bool (t := true) (by first | decide | (simp; done) | rfl) hF
        refine pv hF hW (y_move hF rfl) (fun a hF => ?_)
        replace hF := Fr.bool (t := true) (by first | decide | (simp; done) | rfl) hF
        refine p_skip hF (wn hF rfl rfl rfl) rfl rfl (fun a hF => ?_)
        refine p_skip hF (wn hF rfl rfl rfl) rfl rfl (fun a hF => ?_)
        refine p_skip hF (wn hF rfl rfl rfl) rfl rfl (fun a hF => ?_)
        refine p_skip hF (wn hF rfl rfl rfl) rfl rfl (fun a hF => ?_)
        refine p_skip hF (wn hF rfl rfl rfl) rfl rfl (fun a hF => ?_)
        refine p_skip hF (wn hF rfl rfl rfl) rfl rfl (fun a hF => ?_)
        refine pv hF hW (y_pick hF rfl rfl) (fun a hF => ?_)
        refine l_nil ?_
        replace hF := (hF.k 0 rfl (hF.k 1 rfl (hF.k 2 rfl (hF.k 3 rfl (hF.k 4 rfl (hF.k 5 rfl (hF.k 10 rfl (hF.k 15 rfl (hF.k 26 rfl hF.nil)))))))))
        refine t_n ?_
        refine c_t hF rfl ?_
        refine c_sr ?_
        replace hF := hF.drop 4
        refine pv hF hW (y_assign hF rfl) (fun a hF => ?_)
        refine l_nil ?_
        refine t_n ?_
        refine wp_ret ?_
        refine t_r ?_
        refine ret1 Try.results22 hF (rv_t hF rfl) ?_
        refine ⟨?_, hW.below⟩
        simp only [stepErr]
        repeat' split
        all_goals first | rfl | (exfalso; simp_all; done) | (exfalso; omega) | (simp_all; done) | (simp_all; omega)

theorem sameIntsB {w : World} {u v : Value} {l m : List Int} (hu : Ints w u l) (hv : Ints w v m) :
    Calls Try.prog 19 #[u, v] w fun e w' => e = .returned (.bool (decide (l = m))) ∧ Below w.heap.size w w' :=
  (sameInts_any hu hv).mono fun e w' ⟨he, hd⟩ => ⟨he, hd.below _⟩

theorem sameCells_any (c d : Cel) (ov pv : Value) (hwf : c.wf) (hwd : d.wf) (w : World) (ho : Ints w ov c.out) (hp : Ints w pv d.out) :
    Calls Try.prog 27 #[celV c ov, celV d pv] w fun e w' => e = .returned (.bool (decide (c = d))) ∧ Below w.heap.size w w' := by
  obtain ⟨A, k, rfl⟩ := ho.form rfl
  obtain ⟨B, l, rfl⟩ := hp.form rfl
  obtain ⟨at_, regs, mem, rd, out, en⟩ := c
  obtain ⟨r0, r1, r2, r3, hregs⟩ := len_four hwf.1
  obtain ⟨m0, m1, m2, m3, m4, m5, m6, m7, hmem⟩ := len_eight hwf.2
  obtain ⟨at2, regs2, mem2, rd2, out2, en2⟩ := d
  obtain ⟨s0, s1, s2, s3, hregs2⟩ := len_four hwd.1
  obtain ⟨n0, n1, n2, n3, n4, n5, n6, n7, hmem2⟩ := len_eight hwd.2
  dsimp only at *
  subst hregs hmem hregs2 hmem2
  clear hwf hwd
  rw [celV_eq, celV_eq]
  refine enter Try.func27 rfl Try.ntmps27 rfl (fun a hF => ?_)
  have hW := Wd.start w NoB
  refine c_sr ?_
  refine pe (e_box hF hW rfl rfl rfl rfl ?_)
  intro b1 a wc hF hW
  refine pe (e_box hF hW rfl rfl rfl rfl ?_)
  intro b2 a wc hF hW
  refine pv hF hW (y_assign hF rfl) (fun a hF => ?_)
  refine l_nil ?_
  refine t_n ?_
  refine c_sr ?_
  refine pv hF hW (y_fieldOwn hF rfl fa_46_0) (fun a hF => ?_)
  refine pv hF hW (y_loadOwn hF rfl 1 rfl rfl Try.underlying3 rfl) (fun a hF => ?_)
  refine pv hF hW (y_fieldOwn hF rfl fa_46_0) (fun a hF => ?_)
  refine pv hF hW (y_loadOwn hF rfl 0 rfl rfl Try.underlying3 rfl) (fun a hF => ?_)
  refine pv hF hW (y_eql hF rfl rfl) (fun a hF => ?_)
  refine Fr.splitD hF ?_ ?_
  · intro h3 hF
    refine pv hF hW (y_move hF rfl) (fun a hF => ?_)
    refine pv hF hW (y_fieldOwn hF rfl fa_46_1) (fun a hF => ?_) (ws hF rfl rfl)
    refine pv hF hW (y_loadN hF rfl 1 rfl Try.underlying43 rfl sz_43 rfl) (fun a hF => ?_) (ws hF rfl rfl)
    refine pv hF hW (y_fieldOwn hF rfl fa_46_1) (fun a hF => ?_) (ws hF rfl rfl)
    refine pv hF hW (y_loadN hF rfl 0 rfl Try.underlying43 rfl sz_43 rfl) (fun a hF => ?_) (ws hF rfl rfl)
    refine pv hF hW (y_bin hF rfl rfl (fun w => eqt_43 _ _ _ _ _ _ _ _ _ _ w)) (fun a hF => ?_) (ws hF rfl rfl)
    refine Fr.splitD hF ?_ ?_
    · intro h4 hF
      refine pv hF hW (y_pick hF rfl rfl) (fun a hF => ?_)
      refine pv hF hW (y_move hF rfl) (fun a hF => ?_)
      refine pv hF hW (y_fieldOwn hF rfl fa_46_2) (fun a hF => ?_) (ws hF rfl rfl)
      refine pv hF hW (y_loadN hF rfl 1 rfl Try.underlying44 rfl sz_44 rfl) (fun a hF => ?_) (ws hF rfl rfl)
      refine pv hF hW (y_fieldOwn hF rfl fa_46_2) (fun a hF => ?_) (ws hF rfl rfl)
      refine pv hF hW (y_loadN hF rfl 0 rfl Try.underlying44 rfl sz_44 rfl) (fun a hF => ?_) (ws hF rfl rfl)
      refine pv hF hW (y_bin hF rfl rfl (fun w => eqt_44 _ _ _ _ _ _ _ _ _ _ _ _ _ _ _ _ _ _ w)) (fun a hF => ?_) (ws hF rfl rfl)
      refine Fr.splitD hF ?_ ?_
      · intro h5 hF
        refine pv hF hW (y_pick hF rfl rfl) (fun a hF => ?_)
        refine pv hF hW (y_move hF rfl) (fun a hF => ?_)
        refine pv hF hW (y_fieldOwn hF rfl fa_46_3) (fun a hF => ?_) (ws hF rfl rfl)
        refine pv hF hW (y_loadOwn hF rfl 1 rfl rfl Try.underlying3 rfl) (fun a hF => ?_) (ws hF rfl rfl)
        refine pv hF hW (y_fieldOwn hF rfl fa_46_3) (fun a hF => ?_) (ws hF rfl rfl)
        refine pv hF hW (y_loadOwn hF rfl 0 rfl rfl Try.underlying3 rfl) (fun a hF => ?_) (ws hF rfl rfl)
        refine pv hF hW (y_eql hF rfl rfl) (fun a hF => ?_) (ws hF rfl rfl)
        refine Fr.splitD hF ?_ ?_
        · intro h6 hF
          refine pv hF hW (y_pick hF rfl rfl) (fun a hF => ?_)
          refine pv hF hW (y_move hF rfl) (fun a hF => ?_)
          refine pv hF hW (y_fieldOwn hF rfl fa_46_5) (fun a hF => ?_) (ws hF rfl rfl)
          refine pv hF hW (y_loadOwn hF rfl 1 rfl rfl Try.underlying3 rfl) (fun a hF => ?_) (ws hF rfl rfl)
          refine pv hF hW (y_fieldOwn hF rfl fa_46_5) (fun a hF => ?_) (ws hF rfl rfl)
          refine pv hF hW (y_loadOwn hF rfl 0 rfl rfl Try.underlying3 rfl) (fun a hF => ?_) (ws hF rfl rfl)
          refine pv hF hW (y_eql hF rfl rfl) (fun a hF => ?_) (ws hF rfl rfl)
          refine Fr.splitD hF ?_ ?_
          · intro h7 hF
            refine pv hF hW (y_pick hF rfl rfl) (fun a hF => ?_)
            refine pv hF hW (y_move hF rfl) (fun a hF => ?_)
            refine pv hF hW (y_fieldOwn hF rfl fa_46_4) (fun a hF => ?_) (ws hF rfl rfl)
            refine pv hF hW (y_loadOwn hF rfl 1 rfl rfl Try.underlying22 rfl) (fun a hF => ?_) (ws hF rfl rfl)
            refine pv hF hW (y_fieldOwn hF rfl fa_46_4) (fun a hF => ?_) (ws hF rfl rfl)
            refine pv hF hW (y_loadOwn hF rfl 0 rfl rfl Try.underlying22 rfl) (fun a hF => ?_) (ws hF rfl rfl)
            refine pe (e_call hF rfl rfl en_19 (by rfl) rfl rfl (sameIntsB (ho.below hW.below) (hp.below hW.below)) ?_) (ws hF rfl rfl)
            rintro e w1 ⟨rfl, hb⟩
            replace hW := hW.kept hb
            clear hb
            refine ⟨_, rfl, fun a hF => ?_⟩
            refine Fr.splitB hF ?_ ?_
            · intro h8 hF
              refine pv hF hW (y_pick hF rfl rfl) (fun a hF => ?_)
              replace hF := hF.drop 4
              refine pv hF hW (y_assign hF rfl) (fun a hF => ?_)
              refine l_nil ?_
              replace hF := (hF.k 0 rfl (hF.k 1 rfl (hF.k 2 rfl (hF.k 3 rfl (hF.k 4 rfl hF.nil)))))
              refine t_n ?_
              refine wp_ret ?_
              refine ret1 Try.results27 hF (rv_t hF rfl) ?_
              refine ⟨?_, hW.below⟩
              simp_all
            · intro h8 hF
              refine pv hF hW (y_pick hF rfl rfl) (fun a hF => ?_)
              replace hF := hF.drop 4
              refine pv hF hW (y_assign hF rfl) (fun a hF => ?_)
              refine l_nil ?_
              replace hF := (hF.k 0 rfl (hF.k 1 rfl (hF.k 2 rfl (hF.k 3 rfl (hF.k 4 rfl hF.nil)))))
              refine t_n ?_
              refine wp_ret ?_
              refine ret1 Try.results27 hF (rv_t hF rfl) ?_
              refine ⟨?_, hW.below⟩
              simp_all
          · intro h7 hF
            refine pv hF hW (y_pick hF rfl rfl) (fun a hF => ?_)
            refine pv hF hW (y_move hF rfl) (fun a hF => ?_)
            refine p_skip hF (wn hF rfl rfl rfl) rfl rfl (fun a hF => ?_)
            refine p_skip hF (wn hF rfl rfl rfl) rfl rfl (fun a hF => ?_)
            refine p_skip hF (wn hF rfl rfl rfl) rfl rfl (fun a hF => ?_)
            refine p_skip hF (wn hF rfl rfl rfl) rfl rfl (fun a hF => ?_)
            refine p_skip hF (wn hF rfl rfl rfl) rfl rfl (fun a hF => ?_)
            refine pv hF hW (y_pick hF rfl rfl) (fun a hF => ?_)
            replace hF := hF.drop 4
            refine pv hF hW (y_assign hF rfl) (fun a hF => ?_)
            refine l_nil ?_
            replace hF := (hF.k 0 rfl (hF.k 1 rfl (hF.k 2 rfl (hF.k 3 rfl (hF.k 4 rfl hF.nil)))))
            refine t_n ?_
            refine wp_ret ?_
            refine ret1 Try.results27 hF (rv_t hF rfl) ?_
            refine ⟨?_, hW.below⟩
            simp_all
        · intro h6 hF
          refine pv hF hW (y_pick hF rfl rfl) (fun a hF => ?_)
          refine pv hF hW (y_move hF rfl) (fun a hF => ?_)
          refine p_skip hF (wn hF rfl rfl rfl) rfl rfl (fun a hF => ?_)
          refine p_skip hF (wn hF rfl rfl rfl) rfl rfl (fun a hF => ?_)
          refine p_skip hF (wn hF rfl rfl rfl) rfl rfl (fun a hF => ?_)
          refine p_skip hF (wn hF rfl rfl rfl) rfl rfl (fun a hF => ?_)
          refine p_skip hF (wn hF rfl rfl rfl) rfl rfl (fun a hF => ?_)
          refine pv hF hW (y_pick hF rfl rfl) (fun a hF => ?_)
          refine pv hF hW (y_move hF rfl) (fun a hF => ?_)
          refine p_skip hF (wn hF rfl rfl rfl) rfl rfl (fun a hF => ?_)
          refine p_skip hF (wn hF rfl rfl rfl) rfl rfl (fun a hF => ?_)
          refine p_skip hF (wn hF rfl rfl rfl) rfl rfl (fun a hF => ?_)
          refine p_skip hF (wn hF rfl rfl rfl) rfl rfl (fun a hF => ?_)
          refine p_skip hF (wn hF rfl rfl rfl) rfl rfl (fun a hF => ?_)
          refine pv hF hW (y_pick hF rfl rfl) (fun a hF => ?_)
          replace hF := hF.drop 4
          refine pv hF hW (y_assign hF rfl) (fun a hF => ?_)
          refine l_nil ?_
          replace hF := (hF.k 0 rfl (hF.k 1 rfl (hF.k 2 rfl (hF.k 3 rfl (hF.k 4 rfl hF.nil)))))
          refine t_n ?_
          refine wp_ret ?_
          refine ret1 Try.results27 hF (rv_t hF rfl) ?_
          refine ⟨?_, hW.below⟩
          simp_all
      · intro h5 hF
        refine pv hF hW (y_pick hF rfl rfl) (fun a hF => ?_)
        refine pv hF hW (y_move hF rfl) (fun a hF => ?_)
        refine p_skip hF (wn hF rfl rfl rfl) rfl rfl (fun a hF => ?_)
        refine p_skip hF (wn hF rfl rfl rfl) rfl rfl (fun a hF => ?_)
        refine p_skip hF (wn hF rfl rfl rfl) rfl rfl (fun a hF => ?_)
        refine p_skip hF (wn hF rfl rfl rfl) rfl rfl (fun a hF => ?_)
        refine p_skip hF (wn hF rfl rfl rfl) rfl rfl (fun a hF => ?_)
        refine pv hF hW (y_pick hF rfl rfl) (fun a hF => ?_)
        refine pv hF hW (y_move hF rfl) (fun a hF => ?_)
        refine p_skip hF (wn hF rfl rfl rfl) rfl rfl (fun a hF => ?_)
        refine p_skip hF (wn hF rfl rfl rfl) rfl rfl (fun a hF => ?_)
        refine p_skip hF (wn hF rfl rfl rfl) rfl rfl (fun a hF => ?_)
        refine p_skip hF (wn hF rfl rfl rfl) rfl rfl (fun a hF => ?_)
        refine p_skip hF (wn hF rfl rfl rfl) rfl rfl (fun a hF => ?_)
        refine pv hF hW (y_pick hF rfl rfl) (fun a hF => ?_)
        refine pv hF hW (y_move hF rfl) (fun a hF => ?_)
        refine p_skip hF (wn hF rfl rfl rfl) rfl rfl (fun a hF => ?_)
        refine p_skip hF (wn hF rfl rfl rfl) rfl rfl (fun a hF => ?_)
        refine p_skip hF (wn hF rfl rfl rfl) rfl rfl (fun a hF => ?_)
        refine p_skip hF (wn hF rfl rfl rfl) rfl rfl (fun a hF => ?_)
        refine p_skip hF (wn hF rfl rfl rfl) rfl rfl (fun a hF => ?_)
        refine pv hF hW (y_pick hF rfl rfl) (fun a hF => ?_)
        replace hF := hF.drop 4
        refine pv hF hW (y_assign hF rfl) (fun a hF => ?_)
        refine l_nil ?_
        replace hF := (hF.k 0 rfl (hF.k 1 rfl (hF.k 2 rfl (hF.k 3 rfl (hF.k 4 rfl hF.nil)))))
        refine t_n ?_
        refine wp_ret ?_
        refine ret1 Try.results27 hF (rv_t hF rfl) ?_
        refine ⟨?_, hW.below⟩
        simp_all
    · intro h4 hF
      refine pv hF hW (y_pick hF rfl rfl) (fun a hF => ?_)
      refine pv hF hW (y_move hF rfl) (fun a hF => ?_)
      refine p_skip hF (wn hF rfl rfl rfl) rfl rfl (fun a hF => ?_)
      refine p_skip hF (wn hF rfl rfl rfl) rfl rfl (fun a hF => ?_)
      refine p_skip hF (wn hF rfl rfl rfl) rfl rfl (fun a hF => ?_)
      refine p_skip hF (wn hF rfl rfl rfl) rfl rfl (fun a hF => ?_)
      refine p_skip hF (wn hF rfl rfl rfl) rfl rfl (fun a hF => ?_)
      refine pv hF hW (y_pick hF rfl rfl) (fun a hF => ?_)
      refine pv hF hW (y_move hF rfl) (fun a hF => ?_)
      refine p_skip hF (wn hF rfl rfl rfl) rfl rfl (fun a hF => ?_)
      refine p_skip hF (wn hF rfl rfl rfl) rfl rfl (fun a hF => ?_)
      refine p_skip hF (wn hF rfl rfl rfl) rfl rfl (fun a hF => ?_)
      refine p_skip hF (wn hF rfl rfl rfl) rfl rfl (fun a hF => ?_)
      refine p_skip hF (wn hF rfl rfl rfl) rfl rfl (fun a hF => ?_)
      refine pv hF hW (y_pick hF rfl rfl) (fun a hF => ?_)
      refine pv hF hW (y_move hF rfl) (fun a hF => ?_)
      refine p_skip hF (wn hF rfl rfl rfl) rfl rfl (fun a hF => ?_)
      refine p_skip hF (wn hF rfl rfl rfl) rfl rfl (fun a hF => ?_)
      refine p_skip hF (wn hF rfl rfl rfl) rfl rfl (fun a hF => ?_)
      refine p_skip hF (wn hF rfl rfl rfl) rfl rfl (fun a hF => ?_)
      refine p_skip hF (wn hF rfl rfl rfl) rfl rfl (fun a hF => ?_)
      refine pv hF hW (y_pick hF rfl rfl) (fun a hF => ?_)
      refine pv hF hW (y_move hF rfl) (fun a hF => ?_)
      refine p_skip hF (wn hF rfl rfl rfl) rfl rfl (fun a hF => ?_)
      refine p_skip hF (wn hF rfl rfl rfl) rfl rfl (fun a hF => ?_)
      refine p_skip hF (wn hF rfl rfl rfl) rfl rfl (fun a hF => ?_)
      refine p_skip hF (wn hF rfl rfl rfl) rfl rfl (fun a hF => ?_)
      refine p_skip hF (wn hF rfl rfl rfl) rfl rfl (fun a hF => ?_)
      refine pv hF hW (y_pick hF rfl rfl) (fun a hF => ?_)
      replace hF := hF.drop 4
      refine pv hF hW (y_assign hF rfl) (fun a hF => ?_)
      refine l_nil ?_
      replace hF := (hF.k 0 rfl (hF.k 1 rfl (hF.k 2 rfl (hF.k 3 rfl (hF.k 4 rfl hF.nil)))))
      refine t_n ?_
      refine wp_ret ?_
      refine ret1 Try.results27 hF (rv_t hF rfl) ?_
      refine ⟨?_, hW.below⟩
      simp_all
  · intro h3 hF
    refine pv hF hW (y_move hF rfl) (fun a hF => ?_)
    refine p_skip hF (wn hF rfl rfl rfl) rfl rfl (fun a hF => ?_)
    refine p_skip hF (wn hF rfl rfl rfl) rfl rfl (fun a hF => ?_)
    refine p_skip hF (wn hF rfl rfl rfl) rfl rfl (fun a hF => ?_)
    refine p_skip hF (wn hF rfl rfl rfl) rfl rfl (fun a hF => ?_)
    refine p_skip hF (wn hF rfl rfl rfl) rfl rfl (fun a hF => ?_)
    refine pv hF hW (y_pick hF rfl rfl) (fun a hF => ?_)
    refine pv hF hW (y_move hF rfl) (fun a hF => ?_)
    refine p_skip hF (wn hF rfl rfl rfl) rfl rfl (fun a hF => ?_)
    refine p_skip hF (wn hF rfl rfl rfl) rfl rfl (fun a hF => ?_)
    refine p_skip hF (wn hF rfl rfl rfl) rfl rfl (fun a hF => ?_)
    refine p_skip hF (wn hF rfl rfl rfl) rfl rfl (fun a hF => ?_)
    refine p_skip hF (wn hF rfl rfl rfl) rfl rfl (fun a hF => ?_)
    refine pv hF hW (y_pick hF rfl rfl) (fun a hF => ?_)
    refine pv hF hW (y_move hF rfl) (fun a hF => ?_)
    refine p_skip hF (wn hF rfl rfl rfl) rfl rfl (fun a hF => ?_)
    refine p_skip hF (wn hF rfl rfl rfl) rfl rfl (fun a hF => ?_)
    refine p_skip hF (wn hF rfl rfl rfl) rfl rfl (fun a hF => ?_)
    refine p_skip hF (wn hF rfl rfl rfl) rfl rfl (fun a hF => ?_)
    refine p_skip hF (wn hF rfl rfl rfl) rfl rfl (fun a hF => ?_)
    refine pv hF hW (y_pick hF rfl rfl) (fun a hF => ?_)
    refine pv hF hW (y_move hF rfl) (fun a hF => ?_)
    refine p_skip hF (wn hF rfl rfl rfl) rfl rfl (fun a hF => ?_)
    refine p_skip hF (wn hF rfl rfl rfl) rfl rfl (fun a hF => ?_)
    refine p_skip hF (wn hF rfl rfl rfl) rfl rfl (fun a hF => ?_)
    refine p_skip hF (wn hF rfl rfl rfl) rfl rfl (fun a hF => ?_)
    refine p_skip hF (wn hF rfl rfl rfl) rfl rfl (fun a hF => ?_)
    refine pv hF hW (y_pick hF rfl rfl) (fun a hF => ?_)
    refine pv hF hW (y_move hF rfl) (fun a hF => ?_)
    refine p_skip hF (wn hF rfl rfl rfl) rfl rfl (fun a hF => ?_)
    refine p_skip hF (wn hF rfl rfl rfl) rfl rfl (fun a hF => ?_)
    refine p_skip hF (wn hF rfl rfl rfl) rfl rfl (fun a hF => ?_)
    refine p_skip hF (wn hF rfl rfl rfl) rfl rfl (fun a hF => ?_)
    refine p_skip hF (wn hF rfl rfl rfl) rfl rfl (fun a hF => ?_)
    refine pv hF hW (y_pick hF rfl rfl) (fun a hF => ?_)
    replace hF := hF.drop 4
    refine pv hF hW (y_assign hF rfl) (fun a hF => ?_)
    refine l_nil ?_
    replace hF := (hF.k 0 rfl (hF.k 1 rfl (hF.k 2 rfl (hF.k 3 rfl (hF.k 4 rfl hF.nil)))))
    refine t_n ?_
    refine wp_ret ?_
    refine ret1 Try.results27 hF (rv_t hF rfl) ?_
    refine ⟨?_, hW.below⟩
    simp_all

theorem replyError_any (c : Cel) (k : Wnt) (kind : Int) (ov : Value) (hwf : c.wf) (w : World) (ho : Ints w ov c.out) :
    Calls Try.prog 29 #[celV c ov, wntV k, .int .i64 kind] w fun e w' => e = .returned (.int .i64 (replyErr c k kind)) ∧ Below w.heap.size w w' := by
  have hcf := fun w1 (hb : Below w.heap.size w w1) => cellFineR_any c ov hwf w1 (ho.below hb)
  obtain ⟨A, n, rfl⟩ := ho.form rfl
  obtain ⟨at_, regs, mem, rd, out, en⟩ := c
  obtain ⟨r0, r1, r2, r3, hregs⟩ := len_four hwf.1
  obtain ⟨m0, m1, m2, m3, m4, m5, m6, m7, hmem⟩ := len_eight hwf.2
  dsimp only at hregs hmem
  subst hregs hmem
  clear hwf
  rw [celV_eq] at *
  obtain ⟨kk, kc, kr, kf, kv⟩ := k
  refine enter Try.func29 rfl Try.ntmps29 rfl (fun a hF => ?_)
  have hW := Wd.start w NoB
  refine c_sr ?_
  refine pe (e_box hF hW rfl rfl rfl rfl ?_)
  intro b1 a wc hF hW
  refine pe (e_box hF hW rfl rfl rfl rfl ?_)
  intro b2 a wc hF hW
  refine pv hF hW (y_assign hF rfl) (fun a hF => ?_)
  refine l_nil ?_
  refine t_n ?_
  refine c_s ?_
  refine c_sr ?_
  refine pv hF hW (y_loadAll hF rfl 1 rfl Try.underlying46 rfl sz_46) (fun a hF => ?_)
  refine pe (e_call hF rfl rfl en_26 (by rfl) rfl rfl (hcf _ hW.below) ?_)
  rintro e w1 ⟨rfl, hb⟩
  replace hW := hW.kept hb
  clear hb
  refine ⟨_, rfl, fun a hF => ?_⟩
  refine Fr.splitB hF ?_ ?_
  · intro h3 hF
    refine pv hF hW (y_not hF rfl) (fun a hF => ?_)
    replace hF := Fr.bool (t := false) (by first | decide | (simp; done) | rfl) hF
    refine l_nil ?_
    replace hF := (hF.k 0 rfl (hF.k 1 rfl (hF.k 2 rfl (hF.k 3 rfl (hF.k 4 rfl (hF.k 6 rfl (hF.k 9 rfl hF.nil)))))))
    refine t_n ?_
    refine c_f hF rfl ?_
    refine wp_skip ?_
    refine t_n ?_
    refine c_s ?_
    refine c_sr ?_
    refine pv hF hW (y_fieldOwn hF rfl fa_48_0) (fun a hF => ?_)
    refine pv hF hW (y_loadOwn hF rfl 0 rfl rfl Try.underlying3 rfl) (fun a hF => ?_)
    refine pv hF hW (y_neq hF rfl rfl) (fun a hF => ?_)
    refine Fr.splitD hF ?_ ?_
    · intro h4 hF
      refine pv hF hW (y_move hF rfl) (fun a hF => ?_)
      refine pv hF hW (y_fieldOwn hF rfl fa_48_0) (fun a hF => ?_) (ws hF rfl rfl)
      refine pv hF hW (y_loadOwn hF rfl 0 rfl rfl Try.underlying3 rfl) (fun a hF => ?_) (ws hF rfl rfl)
      refine pv hF hW (y_neq hF rfl rfl) (fun a hF => ?_) (ws hF rfl rfl)
      refine Fr.splitD hF ?_ ?_
      · intro h5 hF
        refine pv hF hW (y_pick hF rfl rfl) (fun a hF => ?_)
        refine pv hF hW (y_move hF rfl) (fun a hF => ?_)
        refine p_skip hF (wn hF rfl rfl rfl) rfl rfl (fun a hF => ?_)
        refine p_skip hF (wn hF rfl rfl rfl) rfl rfl (fun a hF => ?_)
        refine p_skip hF (wn hF rfl rfl rfl) rfl rfl (fun a hF => ?_)
        refine pv hF hW (y_pick hF rfl rfl) (fun a hF => ?_)
        refine l_nil ?_
        replace hF := (hF.k 0 rfl (hF.k 1 rfl (hF.k 2 rfl (hF.k 3 rfl (hF.k 4 rfl (hF.k 6 rfl (hF.k 9 rfl (hF.k 22 rfl hF.nil))))))))
        refine t_n ?_
        refine c_t hF rfl ?_
        refine c_sr ?_
        replace hF := hF.drop 6
        refine pv hF hW (y_assign hF rfl) (fun a hF => ?_)
        refine l_nil ?_
        refine t_n ?_
        refine wp_ret ?_
        refine t_r ?_
        refine ret1 Try.results29 hF (rv_t hF rfl) ?_
        refine ⟨?_, hW.below⟩
        have hk : roomIs kind = decide (kind = 1 ∨ kind = 2) := rfl
        simp only [replyErr]
        repeat' split
        all_goals first | rfl | (simp_all; done) | (exfalso; simp_all; done) | (exfalso; simp_all; omega) | (simp_all; omega)
      · intro h5 hF
        refine pv hF hW (y_pick hF rfl rfl) (fun a hF => ?_)
        refine pv hF hW (y_move hF rfl) (fun a hF => ?_)
        refine pv hF hW (y_move hF rfl) (fun a hF => ?_) (ws hF rfl rfl)
        refine pe (e_call hF rfl rfl en_44 (by rfl) rfl rfl (kindFine_any _ _) ?_) (ws hF rfl rfl)
        rintro e w1 ⟨rfl, rfl⟩
        refine ⟨_, rfl, fun a hF => ?_⟩
        refine Fr.splitB hF ?_ ?_
        · intro h6 hF
          refine pv hF hW (y_not hF rfl) (fun a hF => ?_) (ws hF rfl rfl)
          replace hF := Fr.bool (t := false) (by first | decide | (simp; done) | rfl) hF
          refine pv hF hW (y_pick hF rfl rfl) (fun a hF => ?_)
          replace hF := Fr.bool (t := false) (by first | decide | (simp; done) | rfl) hF
          refine l_nil ?_
          replace hF := (hF.k 0 rfl (hF.k 1 rfl (hF.k 2 rfl (hF.k 3 rfl (hF.k 4 rfl (hF.k 6 rfl (hF.k 9 rfl (hF.k 22 rfl hF.nil))))))))
          refine t_n ?_
          refine c_f hF rfl ?_
          refine wp_skip ?_
          refine t_n ?_
          refine c_s ?_
          refine c_sr ?_
          refine pv hF hW (y_fieldOwn hF rfl fa_48_2) (fun a hF => ?_)
          refine pv hF hW (y_loadOwn hF rfl 0 rfl rfl Try.underlying3 rfl) (fun a hF => ?_)
          refine pe (e_call hF rfl rfl en_54 (by rfl) rfl rfl (registerR_any _ _) ?_)
          rintro e w1 ⟨rfl, rfl⟩
          refine ⟨_, rfl, fun a hF => ?_⟩
          refine Fr.splitB hF ?_ ?_
          · intro h7 hF
            refine pv hF hW (y_not hF rfl) (fun a hF => ?_)
            replace hF := Fr.bool (t := false) (by first | decide | (simp; done) | rfl) hF
            refine pv hF hW (y_move hF rfl) (fun a hF => ?_)
            replace hF := Fr.bool (t := false) (by first | decide | (simp; done) | rfl) hF
            refine pv hF hW (y_fieldOwn hF rfl fa_48_3) (fun a hF => ?_) (ws hF rfl rfl)
            refine pv hF hW (y_loadOwn hF rfl 0 rfl rfl Try.underlying3 rfl) (fun a hF => ?_) (ws hF rfl rfl)
            refine pe (e_call hF rfl rfl en_54 (by rfl) rfl rfl (registerR_any _ _) ?_) (ws hF rfl rfl)
            rintro e w1 ⟨rfl, rfl⟩
            refine ⟨_, rfl, fun a hF => ?_⟩
            refine Fr.splitB hF ?_ ?_
            · intro h8 hF
              refine pv hF hW (y_not hF rfl) (fun a hF => ?_) (ws hF rfl rfl)
              replace hF := Fr.bool (t := false) (by first | decide | (simp; done) | rfl) hF
              refine pv hF hW (y_pick hF rfl rfl) (fun a hF => ?_)
              replace hF := Fr.bool (t := false) (by first | decide | (simp; done) | rfl) hF
              refine l_nil ?_
              replace hF := (hF.k 0 rfl (hF.k 1 rfl (hF.k 2 rfl (hF.k 3 rfl (hF.k 4 rfl (hF.k 6 rfl (hF.k 9 rfl (hF.k 22 rfl (hF.k 32 rfl hF.nil)))))))))
              refine t_n ?_
              refine c_f hF rfl ?_
              refine wp_skip ?_
              refine t_n ?_
              refine c_sr ?_
              replace hF := hF.drop 6
              refine pv hF hW (y_assign hF rfl) (fun a hF => ?_)
              refine l_nil ?_
              refine t_n ?_
              refine wp_ret ?_
              refine ret1 Try.results29 hF (rv_t hF rfl) ?_
              refine ⟨?_, hW.below⟩
              have hk : roomIs kind = decide (kind = 1 ∨ kind = 2) := rfl
              simp only [replyErr]
              repeat' split
              all_goals first | rfl | (simp_all; done) | (exfalso; simp_all; done) | (exfalso; simp_all; omega) | (simp_all; omega)
            · intro h8 hF
              refine pv hF hW (y_not hF rfl) (fun a hF => ?_) (ws hF rfl rfl)
              replace hF := Fr.bool (t := true) (by first | decide | (simp; done) | rfl) hF
              refine pv hF hW (y_pick hF rfl rfl) (fun a hF => ?_)
              replace hF := Fr.bool (t := true) (by first | decide | (simp; done) | rfl) hF
              refine l_nil ?_
              replace hF := (hF.k 0 rfl (hF.k 1 rfl (hF.k 2 rfl (hF.k 3 rfl (hF.k 4 rfl (hF.k 6 rfl (hF.k 9 rfl (hF.k 22 rfl (hF.k 32 rfl hF.nil)))))))))
              refine t_n ?_
              refine c_t hF rfl ?_
              refine c_sr ?_
              replace hF := hF.drop 6
              refine pv hF hW (y_assign hF rfl) (fun a hF => ?_)
              refine l_nil ?_
              refine t_n ?_
              refine wp_ret ?_
              refine t_r ?_
              refine ret1 Try.results29 hF (rv_t hF rfl) ?_
              refine ⟨?_, hW.below⟩
              have hk : roomIs kind = decide (kind = 1 ∨ kind = 2) := rfl
              simp only [replyErr]
              repeat' split
              all_goals first | rfl | (simp_all; done) | (exfalso; simp_all; done) | (exfalso; simp_all; omega) | (simp_all; omega)
          · intro h7 hF
            refine pv hF hW (y_not hF rfl) (fun a hF => ?_)
            replace hF := Fr.bool (t := true) (by first | decide | (simp; done) | rfl) hF
            refine pv hF hW (y_move hF rfl) (fun a hF => ?_)
            replace hF := Fr.bool (t := true) (by first | decide | (simp; done) | rfl) hF
            refine p_skip hF (wn hF rfl rfl rfl) rfl rfl (fun a hF => ?_)
            refine p_skip hF (wn hF rfl rfl rfl) rfl rfl (fun a hF => ?_)
            refine p_skip hF (wn hF rfl rfl rfl) rfl rfl (fun a hF => ?_)
            refine p_skip hF (wn hF rfl rfl rfl) rfl rfl (fun a hF => ?_)
            refine pv hF hW (y_pick hF rfl rfl) (fun a hF => ?_)
            refine l_nil ?_
            replace hF := (hF.k 0 rfl (hF.k 1 rfl (hF.k 2 rfl (hF.k 3 rfl (hF.k 4 rfl (hF.k 6 rfl (hF.k 9 rfl (hF.k 22 rfl (hF.k 32 rfl hF.nil)))))))))
            refine t_n ?_
            refine c_t hF rfl ?_
            refine c_sr ?_
            replace hF := hF.drop 6
            refine pv hF hW (y_assign hF rfl) (fun a hF => ?_)
            refine l_nil ?_
            refine t_n ?_
            refine wp_ret ?_
            refine t_r ?_
            refine ret1 Try.results29 hF (rv_t hF rfl) ?_
            refine ⟨?_, hW.below⟩
            have hk : roomIs kind = decide (kind = 1 ∨ kind = 2) := rfl
            simp only [replyErr]
            repeat' split
            all_goals first | rfl | (simp_all; done) | (exfalso; simp_all; done) | (exfalso; simp_all; omega) | (simp_all; omega)
        · intro h6 hF
          refine pv hF hW (y_not hF rfl) (fun a hF => ?_) (ws hF rfl rfl)
          replace hF := Fr.bool (t := true) (by first | decide | (simp; done) | rfl) hF
          refine pv hF hW (y_pick hF rfl rfl) (fun a hF => ?_)
          replace hF := Fr.bool (t := true) (by first | decide | (simp; done) | rfl) hF
          refine l_nil ?_
          replace hF := (hF.k 0 rfl (hF.k 1 rfl (hF.k 2 rfl (hF.k 3 rfl (hF.k 4 rfl (hF.k 6 rfl (hF.k 9 rfl (hF.k 22 rfl hF.nil))))))))
          refine t_n ?_
          refine c_t hF rfl ?_
          refine c_sr ?_
          replace hF := hF.drop 6
          refine pv hF hW (y_assign hF rfl) (fun a hF => ?_)
          refine l_nil ?_
          refine t_n ?_
          refine wp_ret ?_
          refine t_r ?_
          refine ret1 Try.results29 hF (rv_t hF rfl) ?_
          refine ⟨?_, hW.below⟩
          have hk : roomIs kind = decide (kind = 1 ∨ kind = 2) := rfl
          simp only [replyErr]
          repeat' split
          all_goals first | rfl | (simp_all; done) | (exfalso; simp_all; done) | (exfalso; simp_all; omega) | (simp_all; omega)
    · intro h4 hF
      refine pv hF hW (y_move hF rfl) (fun a hF => ?_)
      refine p_skip hF (wn hF rfl rfl rfl) rfl rfl (fun a hF => ?_)
      refine p_skip hF (wn hF rfl rfl rfl) rfl rfl (fun a hF => ?_)
      refine p_skip hF (wn hF rfl rfl rfl) rfl rfl (fun a hF => ?_)
      refine pv hF hW (y_pick hF rfl rfl) (fun a hF => ?_)
      refine pv hF hW (y_move hF rfl) (fun a hF => ?_)
      refine pv hF hW (y_move hF rfl) (fun a hF => ?_) (ws hF rfl rfl)
      refine pe (e_call hF rfl rfl en_44 (by rfl) rfl rfl (kindFine_any _ _) ?_) (ws hF rfl rfl)
      rintro e w1 ⟨rfl, rfl⟩
      refine ⟨_, rfl, fun a hF => ?_⟩
      refine Fr.splitB hF ?_ ?_
      · intro h9 hF
        refine pv hF hW (y_not hF rfl) (fun a hF => ?_) (ws hF rfl rfl)
        replace hF := Fr.bool (t := false) (by first | decide | (simp; done) | rfl) hF
        refine pv hF hW (y_pick hF rfl rfl) (fun a hF => ?_)
        replace hF := Fr.bool (t := false) (by first | decide | (simp; done) | rfl) hF
        refine l_nil ?_
        replace hF := (hF.k 0 rfl (hF.k 1 rfl (hF.k 2 rfl (hF.k 3 rfl (hF.k 4 rfl (hF.k 6 rfl (hF.k 9 rfl (hF.k 22 rfl hF.nil))))))))
        refine t_n ?_
        refine c_f hF rfl ?_
        refine wp_skip ?_
        refine t_n ?_
        refine c_s ?_
        refine c_sr ?_
        refine pv hF hW (y_fieldOwn hF rfl fa_48_2) (fun a hF => ?_)
        refine pv hF hW (y_loadOwn hF rfl 0 rfl rfl Try.underlying3 rfl) (fun a hF => ?_)
        refine pe (e_call hF rfl rfl en_54 (by rfl) rfl rfl (registerR_any _ _) ?_)
        rintro e w1 ⟨rfl, rfl⟩
        refine ⟨_, rfl, fun a hF => ?_⟩
        refine Fr.splitB hF ?_ ?_
        · intro h10 hF
          refine pv hF hW (y_not hF rfl) (fun a hF => ?_)
          replace hF := Fr.bool (t := false) (by first | decide | (simp; done) | rfl) hF
          refine pv hF hW (y_move hF rfl) (fun a hF => ?_)
          replace hF := Fr.bool (t := false) (by first | decide | (simp; done) | rfl) hF
          refine pv hF hW (y_fieldOwn hF rfl fa_48_3) (fun a hF => ?_) (ws hF rfl rfl)
          refine pv hF hW (y_loadOwn hF rfl 0 rfl rfl Try.underlying3 rfl) (fun a hF => ?_) (ws hF rfl rfl)
          refine pe (e_call hF rfl rfl en_54 (by rfl) rfl rfl (registerR_any _ _) ?_) (ws hF rfl rfl)
          rintro e w1 ⟨rfl, rfl⟩
          refine ⟨_, rfl, fun a hF => ?_⟩
          refine Fr.splitB hF ?_ ?_
          · intro h11 hF
            refine pv hF hW (y_not hF rfl) (fun a hF => ?_) (ws hF rfl rfl)
            replace hF := Fr.bool (t := false) (by first | decide | (simp; done) | rfl) hF
            refine pv hF hW (y_pick hF rfl rfl) (fun a hF => ?_)
            replace hF := Fr.bool (t := false) (by first | decide | (simp; done) | rfl) hF
            refine l_nil ?_
            replace hF := (hF.k 0 rfl (hF.k 1 rfl (hF.k 2 rfl (hF.k 3 rfl (hF.k 4 rfl (hF.k 6 rfl (hF.k 9 rfl (hF.k 22 rfl (hF.k 32 rfl hF.nil)))))))))
            refine t_n ?_
            refine c_f hF rfl ?_
            refine wp_skip ?_
            refine t_n ?_
            refine c_sr ?_
            replace hF := hF.drop 6
            refine pv hF hW (y_assign hF rfl) (fun a hF => ?_)
            refine l_nil ?_
            refine t_n ?_
            refine wp_ret ?_
            refine ret1 Try.results29 hF (rv_t hF rfl) ?_
            refine ⟨?_, hW.below⟩
            have hk : roomIs kind = decide (kind = 1 ∨ kind = 2) := rfl
            simp only [replyErr]
            repeat' split
            all_goals first | rfl | (simp_all; done) | (exfalso; simp_all; done) | (exfalso; simp_all; omega) | (simp_all; omega)
          · intro h11 hF
            refine pv hF hW (y_not hF rfl) (fun a hF => ?_) (ws hF rfl rfl)
            replace hF := Fr.bool (t := true) (by first | decide | (simp; done) | rfl) hF
            refine pv hF hW (y_pick hF rfl rfl) (fun a hF => ?_)
            replace hF := Fr.bool (t := true) (by first | decide | (simp; done) | rfl) hF
            refine l_nil ?_
            replace hF := (hF.k 0 rfl (hF.k 1 rfl (hF.k 2 rfl (hF.k 3 rfl (hF.k 4 rfl (hF.k 6 rfl (hF.k 9 rfl (hF.k 22 rfl (hF.k 32 rfl hF.nil)))))))))
            refine t_n ?_
            refine c_t hF rfl ?_
            refine c_sr ?_
            replace hF := hF.drop 6
            refine pv hF hW (y_assign hF rfl) (fun a hF => ?_)
            refine l_nil ?_
            refine t_n ?_
            refine wp_ret ?_
            refine t_r ?_
            refine ret1 Try.results29 hF (rv_t hF rfl) ?_
            refine ⟨?_, hW.below⟩
            have hk : roomIs kind = decide (kind = 1 ∨ kind = 2) := rfl
            simp only [replyErr]
            repeat' split
            all_goals first | rfl | (simp_all; done) | (exfalso; simp_all; done) | (exfalso; simp_all; omega) | (simp_all; omega)
        · intro h10 hF
          refine pv hF hW (y_not hF rfl) (fun a hF => ?_)
          replace hF := Fr.bool (t := true) (by first | decide | (simp; done) | rfl) hF
          refine pv hF hW (y_move hF rfl) (fun a hF => ?_)
          replace hF := Fr.bool (t := true) (by first | decide | (simp; done) | rfl) hF
          refine p_skip hF (wn hF rfl rfl rfl) rfl rfl (fun a hF => ?_)
          refine p_skip hF (wn hF rfl rfl rfl) rfl rfl (fun a hF => ?_)
          refine p_skip hF (wn hF rfl rfl rfl) rfl rfl (fun a hF => ?_)
          refine p_skip hF (wn hF rfl rfl rfl) rfl rfl (fun a hF => ?_)
          refine pv hF hW (y_pick hF rfl rfl) (fun a hF => ?_)
          refine l_nil ?_
          replace hF := (hF.k 0 rfl (hF.k 1 rfl (hF.k 2 rfl (hF.k 3 rfl (hF.k 4 rfl (hF.k 6 rfl (hF.k 9 rfl (hF.k 22 rfl (hF.k 32 rfl hF.nil)))))))))
          refine t_n ?_
          refine c_t hF rfl ?_
          refine c_sr ?_
          replace hF := hF.drop 6
          refine pv hF hW (y_assign hF rfl) (fun a hF => ?_)
          refine l_nil ?_
          refine t_n ?_
          refine wp_ret ?_
          refine t_r ?_
          refine ret1 Try.results29 hF (rv_t hF rfl) ?_
          refine ⟨?_, hW.below⟩
          have hk : roomIs kind = decide (kind = 1 ∨ kind = 2) := rfl
          simp only [replyErr]
          repeat' split
          all_goals first | rfl | (simp_all; done) | (exfalso; simp_all; done) | (exfalso; simp_all; omega) | (simp_all; omega)
      · intro h9 hF
        refine pv hF hW (y_not hF rfl) (fun a hF => ?_) (ws hF rfl rfl)
        replace hF := Fr.bool (t := true) (by first | decide | (simp; done) | rfl) hF
        refine pv hF hW (y_pick hF rfl rfl) (fun a hF => ?_)
        replace hF := Fr.bool (t := true) (by first | decide | (simp; done) | rfl) hF
        refine l_nil ?_
        replace hF := (hF.k 0 rfl (hF.k 1 rfl (hF.k 2 rfl (hF.k 3 rfl (hF.k 4 rfl (hF.k 6 rfl (hF.k 9 rfl (hF.k 22 rfl hF.nil))))))))
        refine t_n ?_
        refine c_t hF rfl ?_
        refine c_sr ?_
        replace hF := hF.drop 6
        refine pv hF hW (y_assign hF rfl) (fun a hF => ?_)
        refine l_nil ?_
        refine t_n ?_
        refine wp_ret ?_
        refine t_r ?_
        refine ret1 Try.results29 hF (rv_t hF rfl) ?_
        refine ⟨?_, hW.below⟩
        have hk : roomIs kind = decide (kind = 1 ∨ kind = 2) := rfl
        simp only [replyErr]
        repeat' split
        all_goals first | rfl | (simp_all; done) | (exfalso; simp_all; done) | (exfalso; simp_all; omega) | (simp_all; omega)
  · intro h3 hF
    refine pv hF hW (y_not hF rfl) (fun a hF => ?_)
    replace hF := Fr.bool (t := true) (by first | decide | (simp; done) | rfl) hF
    refine l_nil ?_
    replace hF := (hF.k 0 rfl (hF.k 1 rfl (hF.k 2 rfl (hF.k 3 rfl (hF.k 4 rfl (hF.k 6 rfl (hF.k 9 rfl hF.nil)))))))
    refine t_n ?_
    refine c_t hF rfl ?_
    refine c_sr ?_
    replace hF := hF.drop 6
    refine pv hF hW (y_assign hF rfl) (fun a hF => ?_)
    refine l_nil ?_
    refine t_n ?_
    refine wp_ret ?_
    refine t_r ?_
    refine ret1 Try.results29 hF (rv_t hF rfl) ?_
    refine ⟨?_, hW.below⟩
    have hk : roomIs kind = decide (kind = 1 ∨ kind = 2) := rfl
    simp only [replyErr]
    repeat' split
    all_goals first | rfl | (simp_all; done) | (exfalso; simp_all; done) | (exfalso; simp_all; omega) | (simp_all; omega)

theorem regs_set (r0 r1 r2 r3 v : Int) {r : Nat} (hr : r < 4) : ∃ q0 q1 q2 q3 : Int, [r0, r1, r2, r3].set r v = [q0, q1, q2, q3] ∧ ∀ x m0 m1 m2 m3 m4 m5 m6 m7 rd ov en : Value,
    ([x, .int .i64 r0, .int .i64 r1, .int .i64 r2, .int .i64 r3, m0, m1, m2, m3, m4, m5, m6, m7, rd, ov, en] : List Value).set (0 + 1 + r * 1) (.int .i64 v) = [x, .int .i64 q0, .int .i64 q1, .int .i64 q2, .int .i64 q3, m0, m1, m2, m3, m4, m5, m6, m7, rd, ov, en] := by
  match r, hr with
  | 0, _ => exact ⟨v, r1, r2, r3, rfl, fun _ _ _ _ _ _ _ _ _ _ _ _ => rfl⟩
  | 1, _ => exact ⟨r0, v, r2, r3, rfl, fun _ _ _ _ _ _ _ _ _ _ _ _ => rfl⟩
  | 2, _ => exact ⟨r0, r1, v, r3, rfl, fun _ _ _ _ _ _ _ _ _ _ _ _ => rfl⟩
  | 3, _ => exact ⟨r0, r1, r2, v, rfl, fun _ _ _ _ _ _ _ _ _ _ _ _ => rfl⟩
/-- the reference's ReplyOf -/
theorem replyOfR_any (c : Cel) (k : Wnt) (kind val : Int) (is : Bool) (ov : Value) (hwf : c.wf) (w : World) (ho : Ints w ov c.out) (h0 : replyErr c k kind = 0) :
    Calls Try.prog 30 #[celV c ov, wntV k, .int .i64 kind, .int .i64 val, .bool is] w (CelBack w (replyOf c k kind val is)) := by
  unfold replyErr at h0
  have hf : cellFine c = true := by
    cases h : cellFine c
    · rw [if_pos h] at h0; cases h0
    · rfl
  rw [if_neg (by simp [hf])] at h0
  have hkk : ¬ ((k.kind ≠ 12 ∧ k.kind ≠ 13) ∨ (kind ≠ 1 ∧ kind ≠ 2)) := fun h => by rw [if_pos h] at h0; cases h0
  rw [if_neg hkk] at h0
  have hrr : (regOk k.reg && regOk k.flag) = true := by
    cases h : (regOk k.reg && regOk k.flag)
    · rw [if_neg (by simp [h])] at h0; cases h0
    · rfl
  simp only [regOk, Bool.and_eq_true, decide_eq_true_eq] at hrr
  have hol : c.out.length ≤ 1048576 := by unfold cellFine at hf; simp only [decide_eq_true_eq] at hf; omega
  clear h0 hf
  have hown := fun w1 (hb : Below w.heap.size w w1) => ownCell_abs c ov hwf w ho hol w1 hb
  obtain ⟨A, n, rfl⟩ := ho.form rfl
  obtain ⟨at_, regs, mem, rd, out, en⟩ := c
  obtain ⟨r0, r1, r2, r3, hregs⟩ := len_four hwf.1
  obtain ⟨m0, m1, m2, m3, m4, m5, m6, m7, hmem⟩ := len_eight hwf.2
  dsimp only at hregs hmem
  subst hregs hmem
  clear hwf
  rw [celV_eq] at *
  obtain ⟨kk, kc, kr, kf, kv⟩ := k
  dsimp only at *
  obtain ⟨⟨hr0, hr4⟩, hf0, hf4⟩ := hrr
  obtain ⟨r, rfl⟩ := Int.eq_ofNat_of_zero_le hr0
  obtain ⟨f, rfl⟩ := Int.eq_ofNat_of_zero_le hf0
  have hr : r < 4 := by omega
  have hf : f < 4 := by omega
  cases is
  case false =>
      refine enter Try.func30 rfl Try.ntmps30 rfl (fun a hF => ?_)
      have hW := Wd.start w NoB
      refine c_sr ?_
      refine pe (e_box hF hW rfl rfl rfl rfl ?_)
      intro b1 a wc hF hW
      refine pe (e_box hF hW rfl rfl rfl rfl ?_)
      intro b2 a wc hF hW
      refine pe (e_alloc hF hW ze_46 rfl rfl rfl ?_)
      intro b3 a wc hF hW
      refine l_nil ?_
      refine t_n ?_
      refine c_sr ?_
      refine pv hF hW (y_loadAll hF rfl 2 rfl Try.underlying46 rfl sz_46) (fun a hF => ?_)
      refine pe (e_call hF rfl rfl en_49 (by rfl) rfl rfl (hown _ hW.below) ?_)
      rintro e w1 ⟨A1, c1, rfl, hown1, hb⟩
      replace hW := hW.got_row (v := .slice A1 out.length c1) (n := out.length) (cs := out.map (.int .i64)) hb hown1
      refine ⟨_, rfl, fun a hF => ?_⟩
      replace hF := Fr.cast (v' := .agg #[.int .i64 at_, .int .i64 r0, .int .i64 r1, .int .i64 r2, .int .i64 r3, .int .i64 m0, .int .i64 m1, .int .i64 m2, .int .i64 m3, .int .i64 m4, .int .i64 m5, .int .i64 m6, .int .i64 m7, .int .i64 rd, .slice A1 out.length c1, .int .i64 en]) rfl hF
      refine pe (e_storeAll rfl hF hW rfl rfl 3 rfl rfl rfl (by kernel_rfl) sz_46 ?_)
      intro wc hW
      refine l_nil ?_
      replace hF := (hF.k 0 rfl (hF.k 1 rfl (hF.k 2 rfl (hF.k 3 rfl (hF.k 4 rfl (hF.k 5 rfl (hF.k 6 rfl (hF.k 10 rfl hF.nil))))))))
      refine t_n ?_
      refine c_s ?_
      refine wp_block ?_
      refine c_sr ?_
      refine pv hF hW (y_fieldOwn hF rfl fa_48_0) (fun a hF => ?_)
      refine pv hF hW (y_loadOwn hF rfl 2 rfl rfl Try.underlying3 rfl) (fun a hF => ?_)
      refine pv hF hW (y_eql hF rfl rfl) (fun a hF => ?_)
      refine Fr.splitD hF ?_ ?_
      · intro h4 hF
        first
          | (exfalso; omega)
          | (refine pv hF hW (y_move hF rfl) (fun a hF => ?_)
             refine pv hF hW (y_move hF rfl) (fun a hF => ?_) (ws hF rfl rfl)
             refine pv hF hW (y_eql hF rfl rfl) (fun a hF => ?_) (ws hF rfl rfl)
             refine Fr.splitD hF ?_ ?_
             · intro h5 hF
               first
                 | (exfalso; omega)
                 | (refine pv hF hW (y_pick hF rfl rfl) (fun a hF => ?_)
                    refine pv hF hW (y_assign hF rfl) (fun a hF => ?_)
                    refine l_nil ?_
                    replace hF := (hF.k 0 rfl (hF.k 1 rfl (hF.k 2 rfl (hF.k 3 rfl (hF.k 4 rfl (hF.k 5 rfl (hF.k 6 rfl (hF.k 10 rfl (hF.k 13 rfl hF.nil)))))))))
                    refine t_n ?_
                    refine c_t hF rfl ?_
                    refine c_d mixed_ok hW ((hW.del 3 rfl)) ?_
                    clear hW; intro wc hW hS
                    refine dv 0 rfl hF hS (y_fieldOwn hF rfl fa_48_2) (fun a hF => ?_)
                    refine dv 1 rfl hF hS (y_loadOwn hF rfl 2 rfl rfl Try.underlying3 rfl) (fun a hF => ?_)
                    refine dv 2 rfl hF hS (y_move hF rfl) (fun a hF => ?_)
                    refine dv 4 rfl hF hS (y_fieldOwn hF rfl fa_46_1) (fun a hF => ?_)
                    refine d_1 3 (by kernel_rfl) ?_
                    refine d_op rfl rfl (e_call hF rfl rfl en_55 (by rfl) rfl rfl (truth_any _ _) ?_)
                    rintro e w1 ⟨rfl, hb⟩
                    replace hW := hW.kept hb
                    clear hb
                    refine ⟨_, rfl, fun a hF => ?_⟩
                    refine ⟨(hW.del 3 rfl), ?_⟩
                    replace hS := (hW.del 3 rfl)
                    refine dv 5 rfl hF hS (y_indexA hF rfl rfl (by first | omega | decide) Try.underlying43 sz_3) (fun a hF => ?_)
                    refine d_1 6 (by kernel_rfl) ?_
                    refine d_op rfl rfl (e_store rfl hF hW rfl rfl 3 rfl (by simp <;> omega) rfl sz_3 ?_)
                    intro wc hW
                    obtain ⟨q0, q1, q2, q3, hq, hl⟩ := regs_set r0 r1 r2 r3 (bitI false) hr
                    replace hW := hW.cast 3 _ rfl (hl _ _ _ _ _ _ _ _ _ _ _ _)
                    refine ⟨(hW.del 3 rfl), ?_⟩
                    replace hS := (hW.del 3 rfl)
                    clear hS
                    refine d_nil (by kernel_rfl) ?_
                    replace hF := (hF.k 0 rfl (hF.k 1 rfl (hF.k 2 rfl (hF.k 3 rfl (hF.k 4 rfl (hF.k 5 rfl (hF.k 6 rfl (hF.k 10 rfl (hF.k 13 rfl hF.nil)))))))))
                    refine b_n ?_
                    refine t_n ?_
                    refine c_sr ?_
                    refine pv hF hW (y_loadAll hF rfl 3 rfl Try.underlying46 rfl sz_46) (fun a hF => ?_)
                    refine pe (e_storeAll rfl hF hW rfl rfl 1 rfl rfl rfl (by kernel_rfl) sz_46 ?_)
                    intro wc hW
                    refine l_nil ?_
                    replace hF := (hF.k 0 rfl (hF.k 1 rfl (hF.k 2 rfl (hF.k 3 rfl (hF.k 4 rfl (hF.k 5 rfl (hF.k 6 rfl (hF.k 10 rfl (hF.k 13 rfl hF.nil)))))))))
                    refine t_n ?_
                    refine wp_ret ?_
                    refine ret1 Try.results30 hF (rv_c hF rfl hW 1 rfl Try.underlying46 rfl sz_46) ?_
                    generalize hR : replyOf _ _ _ _ _ = c'
                    first
                    | (revert hq2; intro hq2; obtain rfl : c' = ⟨at_, [q4, q5, q6, q7], [m0, m1, m2, m3, m4, m5, m6, m7], rd, out, en⟩ := by (rw [← hR]; simp only [replyOf, Int.toNat_natCast]; simp_all))
                    | (revert hq; intro hq; obtain rfl : c' = ⟨at_, [q0, q1, q2, q3], [m0, m1, m2, m3, m4, m5, m6, m7], rd, out, en⟩ := by (rw [← hR]; simp only [replyOf, Int.toNat_natCast]; simp_all))
                    | (obtain rfl : c' = ⟨at_, [r0, r1, r2, r3], [m0, m1, m2, m3, m4, m5, m6, m7], rd, out, en⟩ := by (rw [← hR]; simp only [replyOf, Int.toNat_natCast]; simp_all))
                    exact ⟨_, rfl, ⟨rfl, rfl⟩, hW.row_own 0 rfl, hW.below⟩)
             · intro h5 hF
               first
                 | (exfalso; omega)
                 | (refine pv hF hW (y_pick hF rfl rfl) (fun a hF => ?_)
                    refine pv hF hW (y_assign hF rfl) (fun a hF => ?_)
                    refine l_nil ?_
                    replace hF := (hF.k 0 rfl (hF.k 1 rfl (hF.k 2 rfl (hF.k 3 rfl (hF.k 4 rfl (hF.k 5 rfl (hF.k 6 rfl (hF.k 10 rfl (hF.k 13 rfl hF.nil)))))))))
                    refine t_n ?_
                    refine c_f hF rfl ?_
                    refine c_sr ?_
                    refine pv hF hW (y_fieldOwn hF rfl fa_48_0) (fun a hF => ?_)
                    refine pv hF hW (y_loadOwn hF rfl 2 rfl rfl Try.underlying3 rfl) (fun a hF => ?_)
                    refine pv hF hW (y_eql hF rfl rfl) (fun a hF => ?_)
                    refine Fr.splitD hF ?_ ?_
                    · intro h6 hF
                      first
                        | (exfalso; omega)
                        | (refine pv hF hW (y_assign hF rfl) (fun a hF => ?_)
                           refine l_nil ?_
                           replace hF := (hF.k 0 rfl (hF.k 1 rfl (hF.k 2 rfl (hF.k 3 rfl (hF.k 4 rfl (hF.k 5 rfl (hF.k 6 rfl (hF.k 10 rfl (hF.k 13 rfl (hF.k 27 rfl hF.nil))))))))))
                           refine t_n ?_
                           refine c_t hF rfl ?_
                           refine c_s ?_
                           refine c_sr ?_
                           refine pv hF hW (y_move hF rfl) (fun a hF => ?_)
                           refine l_nil ?_
                           refine t_n ?_
                           refine c_f hF rfl ?_
                           refine wp_skip ?_
                           refine t_n ?_
                           refine c_d mixed_ok hW ((hW.del 3 rfl)) ?_
                           clear hW; intro wc hW hS
                           refine dv 0 rfl hF hS (y_fieldOwn hF rfl fa_48_3) (fun a hF => ?_)
                           refine dv 1 rfl hF hS (y_loadOwn hF rfl 2 rfl rfl Try.underlying3 rfl) (fun a hF => ?_)
                           refine dv 2 rfl hF hS (y_move hF rfl) (fun a hF => ?_)
                           refine dv 4 rfl hF hS (y_fieldOwn hF rfl fa_46_1) (fun a hF => ?_)
                           refine d_1 3 (by kernel_rfl) ?_
                           refine d_op rfl rfl (e_call hF rfl rfl en_55 (by rfl) rfl rfl (truth_any _ _) ?_)
                           rintro e w1 ⟨rfl, hb⟩
                           replace hW := hW.kept hb
                           clear hb
                           refine ⟨_, rfl, fun a hF => ?_⟩
                           refine ⟨(hW.del 3 rfl), ?_⟩
                           replace hS := (hW.del 3 rfl)
                           refine dv 5 rfl hF hS (y_indexA hF rfl rfl (by first | omega | decide) Try.underlying43 sz_3) (fun a hF => ?_)
                           refine d_1 6 (by kernel_rfl) ?_
                           refine d_op rfl rfl (e_store rfl hF hW rfl rfl 3 rfl (by simp <;> omega) rfl sz_3 ?_)
                           intro wc hW
                           obtain ⟨q4, q5, q6, q7, hq2, hl2⟩ := regs_set _ _ _ _ (bitI false) hf
                           replace hW := hW.cast 3 _ rfl (hl2 _ _ _ _ _ _ _ _ _ _ _ _)
                           refine ⟨(hW.del 3 rfl), ?_⟩
                           replace hS := (hW.del 3 rfl)
                           clear hS
                           refine d_nil (by kernel_rfl) ?_
                           replace hF := (hF.k 0 rfl (hF.k 1 rfl (hF.k 2 rfl (hF.k 3 rfl (hF.k 4 rfl (hF.k 5 rfl (hF.k 6 rfl (hF.k 10 rfl (hF.k 13 rfl (hF.k 27 rfl (hF.k 31 rfl hF.nil)))))))))))
                           refine b_n ?_
                           refine t_n ?_
                           refine c_sr ?_
                           refine pv hF hW (y_loadAll hF rfl 3 rfl Try.underlying46 rfl sz_46) (fun a hF => ?_)
                           refine pe (e_storeAll rfl hF hW rfl rfl 1 rfl rfl rfl (by kernel_rfl) sz_46 ?_)
                           intro wc hW
                           refine l_nil ?_
                           replace hF := (hF.k 0 rfl (hF.k 1 rfl (hF.k 2 rfl (hF.k 3 rfl (hF.k 4 rfl (hF.k 5 rfl (hF.k 6 rfl (hF.k 10 rfl (hF.k 13 rfl (hF.k 27 rfl (hF.k 31 rfl hF.nil)))))))))))
                           refine t_n ?_
                           refine wp_ret ?_
                           refine ret1 Try.results30 hF (rv_c hF rfl hW 1 rfl Try.underlying46 rfl sz_46) ?_
                           generalize hR : replyOf _ _ _ _ _ = c'
                           first
                           | (revert hq2; intro hq2; obtain rfl : c' = ⟨at_, [q4, q5, q6, q7], [m0, m1, m2, m3, m4, m5, m6, m7], rd, out, en⟩ := by (rw [← hR]; simp only [replyOf, Int.toNat_natCast]; simp_all))
                           | (revert hq; intro hq; obtain rfl : c' = ⟨at_, [q0, q1, q2, q3], [m0, m1, m2, m3, m4, m5, m6, m7], rd, out, en⟩ := by (rw [← hR]; simp only [replyOf, Int.toNat_natCast]; simp_all))
                           | (obtain rfl : c' = ⟨at_, [r0, r1, r2, r3], [m0, m1, m2, m3, m4, m5, m6, m7], rd, out, en⟩ := by (rw [← hR]; simp only [replyOf, Int.toNat_natCast]; simp_all))
                           exact ⟨_, rfl, ⟨rfl, rfl⟩, hW.row_own 0 rfl, hW.below⟩)
                    · intro h6 hF
                      first
                        | (exfalso; omega)
                        | (refine pv hF hW (y_assign hF rfl) (fun a hF => ?_)
                           refine l_nil ?_
                           replace hF := (hF.k 0 rfl (hF.k 1 rfl (hF.k 2 rfl (hF.k 3 rfl (hF.k 4 rfl (hF.k 5 rfl (hF.k 6 rfl (hF.k 10 rfl (hF.k 13 rfl (hF.k 27 rfl hF.nil))))))))))
                           refine t_n ?_
                           refine c_f hF rfl ?_
                           refine wp_skip ?_
                           refine b_n ?_
                           refine t_n ?_
                           refine c_sr ?_
                           refine pv hF hW (y_loadAll hF rfl 3 rfl Try.underlying46 rfl sz_46) (fun a hF => ?_)
                           refine pe (e_storeAll rfl hF hW rfl rfl 1 rfl rfl rfl (by kernel_rfl) sz_46 ?_)
                           intro wc hW
                           refine l_nil ?_
                           replace hF := (hF.k 0 rfl (hF.k 1 rfl (hF.k 2 rfl (hF.k 3 rfl (hF.k 4 rfl (hF.k 5 rfl (hF.k 6 rfl (hF.k 10 rfl (hF.k 13 rfl (hF.k 27 rfl hF.nil))))))))))
                           refine t_n ?_
                           refine wp_ret ?_
                           refine ret1 Try.results30 hF (rv_c hF rfl hW 1 rfl Try.underlying46 rfl sz_46) ?_
                           generalize hR : replyOf _ _ _ _ _ = c'
                           first
                           | (revert hq2; intro hq2; obtain rfl : c' = ⟨at_, [q4, q5, q6, q7], [m0, m1, m2, m3, m4, m5, m6, m7], rd, out, en⟩ := by (rw [← hR]; simp only [replyOf, Int.toNat_natCast]; simp_all))
                           | (revert hq; intro hq; obtain rfl : c' = ⟨at_, [q0, q1, q2, q3], [m0, m1, m2, m3, m4, m5, m6, m7], rd, out, en⟩ := by (rw [← hR]; simp only [replyOf, Int.toNat_natCast]; simp_all))
                           | (obtain rfl : c' = ⟨at_, [r0, r1, r2, r3], [m0, m1, m2, m3, m4, m5, m6, m7], rd, out, en⟩ := by (rw [← hR]; simp only [replyOf, Int.toNat_natCast]; simp_all))
                           exact ⟨_, rfl, ⟨rfl, rfl⟩, hW.row_own 0 rfl, hW.below⟩)))
      · intro h4 hF
        first
          | (exfalso; omega)
          | (refine pv hF hW (y_move hF rfl) (fun a hF => ?_)
             refine p_skip hF (wn hF rfl rfl rfl) rfl rfl (fun a hF => ?_)
             refine p_skip hF (wn hF rfl rfl rfl) rfl rfl (fun a hF => ?_)
             refine pv hF hW (y_pick hF rfl rfl) (fun a hF => ?_)
             refine pv hF hW (y_assign hF rfl) (fun a hF => ?_)
             refine l_nil ?_
             replace hF := (hF.k 0 rfl (hF.k 1 rfl (hF.k 2 rfl (hF.k 3 rfl (hF.k 4 rfl (hF.k 5 rfl (hF.k 6 rfl (hF.k 10 rfl (hF.k 13 rfl hF.nil)))))))))
             refine t_n ?_
             refine c_f hF rfl ?_
             refine c_sr ?_
             refine pv hF hW (y_fieldOwn hF rfl fa_48_0) (fun a hF => ?_)
             refine pv hF hW (y_loadOwn hF rfl 2 rfl rfl Try.underlying3 rfl) (fun a hF => ?_)
             refine pv hF hW (y_eql hF rfl rfl) (fun a hF => ?_)
             refine Fr.splitD hF ?_ ?_
             · intro h7 hF
               first
                 | (exfalso; omega)
                 | (refine pv hF hW (y_assign hF rfl) (fun a hF => ?_)
                    refine l_nil ?_
                    replace hF := (hF.k 0 rfl (hF.k 1 rfl (hF.k 2 rfl (hF.k 3 rfl (hF.k 4 rfl (hF.k 5 rfl (hF.k 6 rfl (hF.k 10 rfl (hF.k 13 rfl (hF.k 27 rfl hF.nil))))))))))
                    refine t_n ?_
                    refine c_t hF rfl ?_
                    refine c_s ?_
                    refine c_sr ?_
                    refine pv hF hW (y_move hF rfl) (fun a hF => ?_)
                    refine l_nil ?_
                    refine t_n ?_
                    refine c_f hF rfl ?_
                    refine wp_skip ?_
                    refine t_n ?_
                    refine c_d mixed_ok hW ((hW.del 3 rfl)) ?_
                    clear hW; intro wc hW hS
                    refine dv 0 rfl hF hS (y_fieldOwn hF rfl fa_48_3) (fun a hF => ?_)
                    refine dv 1 rfl hF hS (y_loadOwn hF rfl 2 rfl rfl Try.underlying3 rfl) (fun a hF => ?_)
                    refine dv 2 rfl hF hS (y_move hF rfl) (fun a hF => ?_)
                    refine dv 4 rfl hF hS (y_fieldOwn hF rfl fa_46_1) (fun a hF => ?_)
                    refine d_1 3 (by kernel_rfl) ?_
                    refine d_op rfl rfl (e_call hF rfl rfl en_55 (by rfl) rfl rfl (truth_any _ _) ?_)
                    rintro e w1 ⟨rfl, hb⟩
                    replace hW := hW.kept hb
                    clear hb
                    refine ⟨_, rfl, fun a hF => ?_⟩
                    refine ⟨(hW.del 3 rfl), ?_⟩
                    replace hS := (hW.del 3 rfl)
                    refine dv 5 rfl hF hS (y_indexA hF rfl rfl (by first | omega | decide) Try.underlying43 sz_3) (fun a hF => ?_)
                    refine d_1 6 (by kernel_rfl) ?_
                    refine d_op rfl rfl (e_store rfl hF hW rfl rfl 3 rfl (by simp <;> omega) rfl sz_3 ?_)
                    intro wc hW
                    obtain ⟨q4, q5, q6, q7, hq2, hl2⟩ := regs_set _ _ _ _ (bitI false) hf
                    replace hW := hW.cast 3 _ rfl (hl2 _ _ _ _ _ _ _ _ _ _ _ _)
                    refine ⟨(hW.del 3 rfl), ?_⟩
                    replace hS := (hW.del 3 rfl)
                    clear hS
                    refine d_nil (by kernel_rfl) ?_
                    replace hF := (hF.k 0 rfl (hF.k 1 rfl (hF.k 2 rfl (hF.k 3 rfl (hF.k 4 rfl (hF.k 5 rfl (hF.k 6 rfl (hF.k 10 rfl (hF.k 13 rfl (hF.k 27 rfl (hF.k 31 rfl hF.nil)))))))))))
                    refine b_n ?_
                    refine t_n ?_
                    refine c_sr ?_
                    refine pv hF hW (y_loadAll hF rfl 3 rfl Try.underlying46 rfl sz_46) (fun a hF => ?_)
                    refine pe (e_storeAll rfl hF hW rfl rfl 1 rfl rfl rfl (by kernel_rfl) sz_46 ?_)
                    intro wc hW
                    refine l_nil ?_
                    replace hF := (hF.k 0 rfl (hF.k 1 rfl (hF.k 2 rfl (hF.k 3 rfl (hF.k 4 rfl (hF.k 5 rfl (hF.k 6 rfl (hF.k 10 rfl (hF.k 13 rfl (hF.k 27 rfl (hF.k 31 rfl hF.nil)))))))))))
                    refine t_n ?_
                    refine wp_ret ?_
                    refine ret1 Try.results30 hF (rv_c hF rfl hW 1 rfl Try.underlying46 rfl sz_46) ?_
                    generalize hR : replyOf _ _ _ _ _ = c'
                    first
                    | (revert hq2; intro hq2; obtain rfl : c' = ⟨at_, [q4, q5, q6, q7], [m0, m1, m2, m3, m4, m5, m6, m7], rd, out, en⟩ := by (rw [← hR]; simp only [replyOf, Int.toNat_natCast]; simp_all))
                    | (revert hq; intro hq; obtain rfl : c' = ⟨at_, [q0, q1, q2, q3], [m0, m1, m2, m3, m4, m5, m6, m7], rd, out, en⟩ := by (rw [← hR]; simp only [replyOf, Int.toNat_natCast]; simp_all))
                    | (obtain rfl : c' = ⟨at_, [r0, r1, r2, r3], [m0, m1, m2, m3, m4, m5, m6, m7], rd, out, en⟩ := by (rw [← hR]; simp only [replyOf, Int.toNat_natCast]; simp_all))
                    exact ⟨_, rfl, ⟨rfl, rfl⟩, hW.row_own 0 rfl, hW.below⟩)
             · intro h7 hF
               first
                 | (exfalso; omega)
                 | (refine pv hF hW (y_assign hF rfl) (fun a hF => ?_)
                    refine l_nil ?_
                    replace hF := (hF.k 0 rfl (hF.k 1 rfl (hF.k 2 rfl (hF.k 3 rfl (hF.k 4 rfl (hF.k 5 rfl (hF.k 6 rfl (hF.k 10 rfl (hF.k 13 rfl (hF.k 27 rfl hF.nil))))))))))
                    refine t_n ?_
                    refine c_f hF rfl ?_
                    refine wp_skip ?_
                    refine b_n ?_
                    refine t_n ?_
                    refine c_sr ?_
                    refine pv hF hW (y_loadAll hF rfl 3 rfl Try.underlying46 rfl sz_46) (fun a hF => ?_)
                    refine pe (e_storeAll rfl hF hW rfl rfl 1 rfl rfl rfl (by kernel_rfl) sz_46 ?_)
                    intro wc hW
                    refine l_nil ?_
                    replace hF := (hF.k 0 rfl (hF.k 1 rfl (hF.k 2 rfl (hF.k 3 rfl (hF.k 4 rfl (hF.k 5 rfl (hF.k 6 rfl (hF.k 10 rfl (hF.k 13 rfl (hF.k 27 rfl hF.nil))))))))))
                    refine t_n ?_
                    refine wp_ret ?_
                    refine ret1 Try.results30 hF (rv_c hF rfl hW 1 rfl Try.underlying46 rfl sz_46) ?_
                    generalize hR : replyOf _ _ _ _ _ = c'
                    first
                    | (revert hq2; intro hq2; obtain rfl : c' = ⟨at_, [q4, q5, q6, q7], [m0, m1, m2, m3, m4, m5, m6, m7], rd, out, en⟩ := by (rw [← hR]; simp only [replyOf, Int.toNat_natCast]; simp_all))
                    | (revert hq; intro hq; obtain rfl : c' = ⟨at_, [q0, q1, q2, q3], [m0, m1, m2, m3, m4, m5, m6, m7], rd, out, en⟩ := by (rw [← hR]; simp only [replyOf, Int.toNat_natCast]; simp_all))
                    | (obtain rfl : c' = ⟨at_, [r0, r1, r2, r3], [m0, m1, m2, m3, m4, m5, m6, m7], rd, out, en⟩ := by (rw [← hR]; simp only [replyOf, Int.toNat_natCast]; simp_all))
                    exact ⟨_, rfl, ⟨rfl, rfl⟩, hW.row_own 0 rfl, hW.below⟩))
  case true =>
      refine enter Try.func30 rfl Try.ntmps30 rfl (fun a hF => ?_)
      have hW := Wd.start w NoB
      refine c_sr ?_
      refine pe (e_box hF hW rfl rfl rfl rfl ?_)
      intro b1 a wc hF hW
      refine pe (e_box hF hW rfl rfl rfl rfl ?_)
      intro b2 a wc hF hW
      refine pe (e_alloc hF hW ze_46 rfl rfl rfl ?_)
      intro b3 a wc hF hW
      refine l_nil ?_
      refine t_n ?_
      refine c_sr ?_
      refine pv hF hW (y_loadAll hF rfl 2 rfl Try.underlying46 rfl sz_46) (fun a hF => ?_)
      refine pe (e_call hF rfl rfl en_49 (by rfl) rfl rfl (hown _ hW.below) ?_)
      rintro e w1 ⟨A1, c1, rfl, hown1, hb⟩
      replace hW := hW.got_row (v := .slice A1 out.length c1) (n := out.length) (cs := out.map (.int .i64)) hb hown1
      refine ⟨_, rfl, fun a hF => ?_⟩
      replace hF := Fr.cast (v' := .agg #[.int .i64 at_, .int .i64 r0, .int .i64 r1, .int .i64 r2, .int .i64 r3, .int .i64 m0, .int .i64 m1, .int .i64 m2, .int .i64 m3, .int .i64 m4, .int .i64 m5, .int .i64 m6, .int .i64 m7, .int .i64 rd, .slice A1 out.length c1, .int .i64 en]) rfl hF
      refine pe (e_storeAll rfl hF hW rfl rfl 3 rfl rfl rfl (by kernel_rfl) sz_46 ?_)
      intro wc hW
      refine l_nil ?_
      replace hF := (hF.k 0 rfl (hF.k 1 rfl (hF.k 2 rfl (hF.k 3 rfl (hF.k 4 rfl (hF.k 5 rfl (hF.k 6 rfl (hF.k 10 rfl hF.nil))))))))
      refine t_n ?_
      refine c_s ?_
      refine wp_block ?_
      refine c_sr ?_
      refine pv hF hW (y_fieldOwn hF rfl fa_48_0) (fun a hF => ?_)
      refine pv hF hW (y_loadOwn hF rfl 2 rfl rfl Try.underlying3 rfl) (fun a hF => ?_)
      refine pv hF hW (y_eql hF rfl rfl) (fun a hF => ?_)
      refine Fr.splitD hF ?_ ?_
      · intro h4 hF
        first
          | (exfalso; omega)
          | (refine pv hF hW (y_move hF rfl) (fun a hF => ?_)
             refine pv hF hW (y_move hF rfl) (fun a hF => ?_) (ws hF rfl rfl)
             refine pv hF hW (y_eql hF rfl rfl) (fun a hF => ?_) (ws hF rfl rfl)
             refine Fr.splitD hF ?_ ?_
             · intro h5 hF
               first
                 | (exfalso; omega)
                 | (refine pv hF hW (y_pick hF rfl rfl) (fun a hF => ?_)
                    refine pv hF hW (y_assign hF rfl) (fun a hF => ?_)
                    refine l_nil ?_
                    replace hF := (hF.k 0 rfl (hF.k 1 rfl (hF.k 2 rfl (hF.k 3 rfl (hF.k 4 rfl (hF.k 5 rfl (hF.k 6 rfl (hF.k 10 rfl (hF.k 13 rfl hF.nil)))))))))
                    refine t_n ?_
                    refine c_t hF rfl ?_
                    refine c_d mixed_ok hW ((hW.del 3 rfl)) ?_
                    clear hW; intro wc hW hS
                    refine dv 0 rfl hF hS (y_fieldOwn hF rfl fa_48_2) (fun a hF => ?_)
                    refine dv 1 rfl hF hS (y_loadOwn hF rfl 2 rfl rfl Try.underlying3 rfl) (fun a hF => ?_)
                    refine dv 2 rfl hF hS (y_move hF rfl) (fun a hF => ?_)
                    refine dv 4 rfl hF hS (y_fieldOwn hF rfl fa_46_1) (fun a hF => ?_)
                    refine d_1 3 (by kernel_rfl) ?_
                    refine d_op rfl rfl (e_call hF rfl rfl en_55 (by rfl) rfl rfl (truth_any _ _) ?_)
                    rintro e w1 ⟨rfl, hb⟩
                    replace hW := hW.kept hb
                    clear hb
                    refine ⟨_, rfl, fun a hF => ?_⟩
                    refine ⟨(hW.del 3 rfl), ?_⟩
                    replace hS := (hW.del 3 rfl)
                    refine dv 5 rfl hF hS (y_indexA hF rfl rfl (by first | omega | decide) Try.underlying43 sz_3) (fun a hF => ?_)
                    refine d_1 6 (by kernel_rfl) ?_
                    refine d_op rfl rfl (e_store rfl hF hW rfl rfl 3 rfl (by simp <;> omega) rfl sz_3 ?_)
                    intro wc hW
                    obtain ⟨q0, q1, q2, q3, hq, hl⟩ := regs_set r0 r1 r2 r3 (bitI true) hr
                    replace hW := hW.cast 3 _ rfl (hl _ _ _ _ _ _ _ _ _ _ _ _)
                    refine ⟨(hW.del 3 rfl), ?_⟩
                    replace hS := (hW.del 3 rfl)
                    clear hS
                    refine d_nil (by kernel_rfl) ?_
                    replace hF := (hF.k 0 rfl (hF.k 1 rfl (hF.k 2 rfl (hF.k 3 rfl (hF.k 4 rfl (hF.k 5 rfl (hF.k 6 rfl (hF.k 10 rfl (hF.k 13 rfl hF.nil)))))))))
                    refine b_n ?_
                    refine t_n ?_
                    refine c_sr ?_
                    refine pv hF hW (y_loadAll hF rfl 3 rfl Try.underlying46 rfl sz_46) (fun a hF => ?_)
                    refine pe (e_storeAll rfl hF hW rfl rfl 1 rfl rfl rfl (by kernel_rfl) sz_46 ?_)
                    intro wc hW
                    refine l_nil ?_
                    replace hF := (hF.k 0 rfl (hF.k 1 rfl (hF.k 2 rfl (hF.k 3 rfl (hF.k 4 rfl (hF.k 5 rfl (hF.k 6 rfl (hF.k 10 rfl (hF.k 13 rfl hF.nil)))))))))
                    refine t_n ?_
                    refine wp_ret ?_
                    refine ret1 Try.results30 hF (rv_c hF rfl hW 1 rfl Try.underlying46 rfl sz_46) ?_
                    generalize hR : replyOf _ _ _ _ _ = c'
                    first
                    | (revert hq2; intro hq2; obtain rfl : c' = ⟨at_, [q4, q5, q6, q7], [m0, m1, m2, m3, m4, m5, m6, m7], rd, out, en⟩ := by (rw [← hR]; simp only [replyOf, Int.toNat_natCast]; simp_all))
                    | (revert hq; intro hq; obtain rfl : c' = ⟨at_, [q0, q1, q2, q3], [m0, m1, m2, m3, m4, m5, m6, m7], rd, out, en⟩ := by (rw [← hR]; simp only [replyOf, Int.toNat_natCast]; simp_all))
                    | (obtain rfl : c' = ⟨at_, [r0, r1, r2, r3], [m0, m1, m2, m3, m4, m5, m6, m7], rd, out, en⟩ := by (rw [← hR]; simp only [replyOf, Int.toNat_natCast]; simp_all))
                    exact ⟨_, rfl, ⟨rfl, rfl⟩, hW.row_own 0 rfl, hW.below⟩)
             · intro h5 hF
               first
                 | (exfalso; omega)
                 | (refine pv hF hW (y_pick hF rfl rfl) (fun a hF => ?_)
                    refine pv hF hW (y_assign hF rfl) (fun a hF => ?_)
                    refine l_nil ?_
                    replace hF := (hF.k 0 rfl (hF.k 1 rfl (hF.k 2 rfl (hF.k 3 rfl (hF.k 4 rfl (hF.k 5 rfl (hF.k 6 rfl (hF.k 10 rfl (hF.k 13 rfl hF.nil)))))))))
                    refine t_n ?_
                    refine c_f hF rfl ?_
                    refine c_sr ?_
                    refine pv hF hW (y_fieldOwn hF rfl fa_48_0) (fun a hF => ?_)
                    refine pv hF hW (y_loadOwn hF rfl 2 rfl rfl Try.underlying3 rfl) (fun a hF => ?_)
                    refine pv hF hW (y_eql hF rfl rfl) (fun a hF => ?_)
                    refine Fr.splitD hF ?_ ?_
                    · intro h6 hF
                      first
                        | (exfalso; omega)
                        | (refine pv hF hW (y_assign hF rfl) (fun a hF => ?_)
                           refine l_nil ?_
                           replace hF := (hF.k 0 rfl (hF.k 1 rfl (hF.k 2 rfl (hF.k 3 rfl (hF.k 4 rfl (hF.k 5 rfl (hF.k 6 rfl (hF.k 10 rfl (hF.k 13 rfl (hF.k 27 rfl hF.nil))))))))))
                           refine t_n ?_
                           refine c_t hF rfl ?_
                           refine c_s ?_
                           refine c_sr ?_
                           refine pv hF hW (y_move hF rfl) (fun a hF => ?_)
                           refine l_nil ?_
                           refine t_n ?_
                           refine c_t hF rfl ?_
                           refine c_r ?_
                           refine pv hF hW (y_fieldOwn hF rfl fa_48_2) (fun a hF => ?_)
                           refine pv hF hW (y_loadOwn hF rfl 2 rfl rfl Try.underlying3 rfl) (fun a hF => ?_)
                           refine pv hF hW (y_move hF rfl) (fun a hF => ?_)
                           refine pv hF hW (y_fieldOwn hF rfl fa_46_1) (fun a hF => ?_)
                           refine pv hF hW (y_indexA hF rfl rfl (by first | omega | decide) Try.underlying43 sz_3) (fun a hF => ?_)
                           refine pe (e_store rfl hF hW rfl rfl 3 rfl (by simp <;> omega) rfl sz_3 ?_)
                           intro wc hW
                           obtain ⟨q0, q1, q2, q3, hq, hl⟩ := regs_set r0 r1 r2 r3 val hr
                           replace hW := hW.cast 3 _ rfl (hl _ _ _ _ _ _ _ _ _ _ _ _)
                           refine l_nil ?_
                           replace hF := (hF.k 0 rfl (hF.k 1 rfl (hF.k 2 rfl (hF.k 3 rfl (hF.k 4 rfl (hF.k 5 rfl (hF.k 6 rfl (hF.k 10 rfl (hF.k 13 rfl (hF.k 27 rfl (hF.k 31 rfl hF.nil)))))))))))
                           refine t_n ?_
                           refine c_d mixed_ok hW ((hW.del 3 rfl)) ?_
                           clear hW; intro wc hW hS
                           refine dv 0 rfl hF hS (y_fieldOwn hF rfl fa_48_3) (fun a hF => ?_)
                           refine dv 1 rfl hF hS (y_loadOwn hF rfl 2 rfl rfl Try.underlying3 rfl) (fun a hF => ?_)
                           refine dv 2 rfl hF hS (y_move hF rfl) (fun a hF => ?_)
                           refine dv 4 rfl hF hS (y_fieldOwn hF rfl fa_46_1) (fun a hF => ?_)
                           refine d_1 3 (by kernel_rfl) ?_
                           refine d_op rfl rfl (e_call hF rfl rfl en_55 (by rfl) rfl rfl (truth_any _ _) ?_)
                           rintro e w1 ⟨rfl, hb⟩
                           replace hW := hW.kept hb
                           clear hb
                           refine ⟨_, rfl, fun a hF => ?_⟩
                           refine ⟨(hW.del 3 rfl), ?_⟩
                           replace hS := (hW.del 3 rfl)
                           refine dv 5 rfl hF hS (y_indexA hF rfl rfl (by first | omega | decide) Try.underlying43 sz_3) (fun a hF => ?_)
                           refine d_1 6 (by kernel_rfl) ?_
                           refine d_op rfl rfl (e_store rfl hF hW rfl rfl 3 rfl (by simp <;> omega) rfl sz_3 ?_)
                           intro wc hW
                           obtain ⟨q4, q5, q6, q7, hq2, hl2⟩ := regs_set _ _ _ _ (bitI true) hf
                           replace hW := hW.cast 3 _ rfl (hl2 _ _ _ _ _ _ _ _ _ _ _ _)
                           refine ⟨(hW.del 3 rfl), ?_⟩
                           replace hS := (hW.del 3 rfl)
                           clear hS
                           refine d_nil (by kernel_rfl) ?_
                           replace hF := (hF.k 0 rfl (hF.k 1 rfl (hF.k 2 rfl (hF.k 3 rfl (hF.k 4 rfl (hF.k 5 rfl (hF.k 6 rfl (hF.k 10 rfl (hF.k 13 rfl (hF.k 27 rfl (hF.k 31 rfl hF.nil)))))))))))
                           refine b_n ?_
                           refine t_n ?_
                           refine c_sr ?_
                           refine pv hF hW (y_loadAll hF rfl 3 rfl Try.underlying46 rfl sz_46) (fun a hF => ?_)
                           refine pe (e_storeAll rfl hF hW rfl rfl 1 rfl rfl rfl (by kernel_rfl) sz_46 ?_)
                           intro wc hW
                           refine l_nil ?_
                           replace hF := (hF.k 0 rfl (hF.k 1 rfl (hF.k 2 rfl (hF.k 3 rfl (hF.k 4 rfl (hF.k 5 rfl (hF.k 6 rfl (hF.k 10 rfl (hF.k 13 rfl (hF.k 27 rfl (hF.k 31 rfl hF.nil)))))))))))
                           refine t_n ?_
                           refine wp_ret ?_
                           refine ret1 Try.results30 hF (rv_c hF rfl hW 1 rfl Try.underlying46 rfl sz_46) ?_
                           generalize hR : replyOf _ _ _ _ _ = c'
                           first
                           | (revert hq2; intro hq2; obtain rfl : c' = ⟨at_, [q4, q5, q6, q7], [m0, m1, m2, m3, m4, m5, m6, m7], rd, out, en⟩ := by (rw [← hR]; simp only [replyOf, Int.toNat_natCast]; simp_all))
                           | (revert hq; intro hq; obtain rfl : c' = ⟨at_, [q0, q1, q2, q3], [m0, m1, m2, m3, m4, m5, m6, m7], rd, out, en⟩ := by (rw [← hR]; simp only [replyOf, Int.toNat_natCast]; simp_all))
                           | (obtain rfl : c' = ⟨at_, [r0, r1, r2, r3], [m0, m1, m2, m3, m4, m5, m6, m7], rd, out, en⟩ := by (rw [← hR]; simp only [replyOf, Int.toNat_natCast]; simp_all))
                           exact ⟨_, rfl, ⟨rfl, rfl⟩, hW.row_own 0 rfl, hW.below⟩)
                    · intro h6 hF
                      first
                        | (exfalso; omega)
                        | (refine pv hF hW (y_assign hF rfl) (fun a hF => ?_)
                           refine l_nil ?_
                           replace hF := (hF.k 0 rfl (hF.k 1 rfl (hF.k 2 rfl (hF.k 3 rfl (hF.k 4 rfl (hF.k 5 rfl (hF.k 6 rfl (hF.k 10 rfl (hF.k 13 rfl (hF.k 27 rfl hF.nil))))))))))
                           refine t_n ?_
                           refine c_f hF rfl ?_
                           refine wp_skip ?_
                           refine b_n ?_
                           refine t_n ?_
                           refine c_sr ?_
                           refine pv hF hW (y_loadAll hF rfl 3 rfl Try.underlying46 rfl sz_46) (fun a hF => ?_)
                           refine pe (e_storeAll rfl hF hW rfl rfl 1 rfl rfl rfl (by kernel_rfl) sz_46 ?_)
                           intro wc hW
                           refine l_nil ?_
                           replace hF := (hF.k 0 rfl (hF.k 1 rfl (hF.k 2 rfl (hF.k 3 rfl (hF.k 4 rfl (hF.k 5 rfl (hF.k 6 rfl (hF.k 10 rfl (hF.k 13 rfl (hF.k 27 rfl hF.nil))))))))))
                           refine t_n ?_
                           refine wp_ret ?_
                           refine ret1 Try.results30 hF (rv_c hF rfl hW 1 rfl Try.underlying46 rfl sz_46) ?_
                           generalize hR : replyOf _ _ _ _ _ = c'
                           first
                           | (revert hq2; intro hq2; obtain rfl : c' = ⟨at_, [q4, q5, q6, q7], [m0, m1, m2, m3, m4, m5, m6, m7], rd, out, en⟩ := by (rw [← hR]; simp only [replyOf, Int.toNat_natCast]; simp_all))
                           | (revert hq; intro hq; obtain rfl : c' = ⟨at_, [q0, q1, q2, q3], [m0, m1, m2, m3, m4, m5, m6, m7], rd, out, en⟩ := by (rw [← hR]; simp only [replyOf, Int.toNat_natCast]; simp_all))
                           | (obtain rfl : c' = ⟨at_, [r0, r1, r2, r3], [m0, m1, m2, m3, m4, m5, m6, m7], rd, out, en⟩ := by (rw [← hR]; simp only [replyOf, Int.toNat_natCast]; simp_all))
                           exact ⟨_, rfl, ⟨rfl, rfl⟩, hW.row_own 0 rfl, hW.below⟩)))
      · intro h4 hF
        first
          | (exfalso; omega)
          | (refine pv hF hW (y_move hF rfl) (fun a hF => ?_)
             refine p_skip hF (wn hF rfl rfl rfl) rfl rfl (fun a hF => ?_)
             refine p_skip hF (wn hF rfl rfl rfl) rfl rfl (fun a hF => ?_)
             refine pv hF hW (y_pick hF rfl rfl) (fun a hF => ?_)
             refine pv hF hW (y_assign hF rfl) (fun a hF => ?_)
             refine l_nil ?_
             replace hF := (hF.k 0 rfl (hF.k 1 rfl (hF.k 2 rfl (hF.k 3 rfl (hF.k 4 rfl (hF.k 5 rfl (hF.k 6 rfl (hF.k 10 rfl (hF.k 13 rfl hF.nil)))))))))
             refine t_n ?_
             refine c_f hF rfl ?_
             refine c_sr ?_
             refine pv hF hW (y_fieldOwn hF rfl fa_48_0) (fun a hF => ?_)
             refine pv hF hW (y_loadOwn hF rfl 2 rfl rfl Try.underlying3 rfl) (fun a hF => ?_)
             refine pv hF hW (y_eql hF rfl rfl) (fun a hF => ?_)
             refine Fr.splitD hF ?_ ?_
             · intro h7 hF
               first
                 | (exfalso; omega)
                 | (refine pv hF hW (y_assign hF rfl) (fun a hF => ?_)
                    refine l_nil ?_
                    replace hF := (hF.k 0 rfl (hF.k 1 rfl (hF.k 2 rfl (hF.k 3 rfl (hF.k 4 rfl (hF.k 5 rfl (hF.k 6 rfl (hF.k 10 rfl (hF.k 13 rfl (hF.k 27 rfl hF.nil))))))))))
                    refine t_n ?_
                    refine c_t hF rfl ?_
                    refine c_s ?_
                    refine c_sr ?_
                    refine pv hF hW (y_move hF rfl) (fun a hF => ?_)
                    refine l_nil ?_
                    refine t_n ?_
                    refine c_t hF rfl ?_
                    refine c_r ?_
                    refine pv hF hW (y_fieldOwn hF rfl fa_48_2) (fun a hF => ?_)
                    refine pv hF hW (y_loadOwn hF rfl 2 rfl rfl Try.underlying3 rfl) (fun a hF => ?_)
                    refine pv hF hW (y_move hF rfl) (fun a hF => ?_)
                    refine pv hF hW (y_fieldOwn hF rfl fa_46_1) (fun a hF => ?_)
                    refine pv hF hW (y_indexA hF rfl rfl (by first | omega | decide) Try.underlying43 sz_3) (fun a hF => ?_)
                    refine pe (e_store rfl hF hW rfl rfl 3 rfl (by simp <;> omega) rfl sz_3 ?_)
                    intro wc hW
                    obtain ⟨q0, q1, q2, q3, hq, hl⟩ := regs_set r0 r1 r2 r3 val hr
                    replace hW := hW.cast 3 _ rfl (hl _ _ _ _ _ _ _ _ _ _ _ _)
                    refine l_nil ?_
                    replace hF := (hF.k 0 rfl (hF.k 1 rfl (hF.k 2 rfl (hF.k 3 rfl (hF.k 4 rfl (hF.k 5 rfl (hF.k 6 rfl (hF.k 10 rfl (hF.k 13 rfl (hF.k 27 rfl (hF.k 31 rfl hF.nil)))))))))))
                    refine t_n ?_
                    refine c_d mixed_ok hW ((hW.del 3 rfl)) ?_
                    clear hW; intro wc hW hS
                    refine dv 0 rfl hF hS (y_fieldOwn hF rfl fa_48_3) (fun a hF => ?_)
                    refine dv 1 rfl hF hS (y_loadOwn hF rfl 2 rfl rfl Try.underlying3 rfl) (fun a hF => ?_)
                    refine dv 2 rfl hF hS (y_move hF rfl) (fun a hF => ?_)
                    refine dv 4 rfl hF hS (y_fieldOwn hF rfl fa_46_1) (fun a hF => ?_)
                    refine d_1 3 (by kernel_rfl) ?_
                    refine d_op rfl rfl (e_call hF rfl rfl en_55 (by rfl) rfl rfl (truth_any _ _) ?_)
                    rintro e w1 ⟨rfl, hb⟩
                    replace hW := hW.kept hb
                    clear hb
                    refine ⟨_, rfl, fun a hF => ?_⟩
                    refine ⟨(hW.del 3 rfl), ?_⟩
                    replace hS := (hW.del 3 rfl)
                    refine dv 5 rfl hF hS (y_indexA hF rfl rfl (by first | omega | decide) Try.underlying43 sz_3) (fun a hF => ?_)
                    refine d_1 6 (by kernel_rfl) ?_
                    refine d_op rfl rfl (e_store rfl hF hW rfl rfl 3 rfl (by simp <;> omega) rfl sz_3 ?_)
                    intro wc hW
                    obtain ⟨q4, q5, q6, q7, hq2, hl2⟩ := regs_set _ _ _ _ (bitI true) hf
                    replace hW := hW.cast 3 _ rfl (hl2 _ _ _ _ _ _ _ _ _ _ _ _)
                    refine ⟨(hW.del 3 rfl), ?_⟩
                    replace hS := (hW.del 3 rfl)
                    clear hS
                    refine d_nil (by kernel_rfl) ?_
                    replace hF := (hF.k 0 rfl (hF.k 1 rfl (hF.k 2 rfl (hF.k 3 rfl (hF.k 4 rfl (hF.k 5 rfl (hF.k 6 rfl (hF.k 10 rfl (hF.k 13 rfl (hF.k 27 rfl (hF.k 31 rfl hF.nil)))))))))))
                    refine b_n ?_
                    refine t_n ?_
                    refine c_sr ?_
                    refine pv hF hW (y_loadAll hF rfl 3 rfl Try.underlying46 rfl sz_46) (fun a hF => ?_)
                    refine pe (e_storeAll rfl hF hW rfl rfl 1 rfl rfl rfl (by kernel_rfl) sz_46 ?_)
                    intro wc hW
                    refine l_nil ?_
                    replace hF := (hF.k 0 rfl (hF.k 1 rfl (hF.k 2 rfl (hF.k 3 rfl (hF.k 4 rfl (hF.k 5 rfl (hF.k 6 rfl (hF.k 10 rfl (hF.k 13 rfl (hF.k 27 rfl (hF.k 31 rfl hF.nil)))))))))))
                    refine t_n ?_
                    refine wp_ret ?_
                    refine ret1 Try.results30 hF (rv_c hF rfl hW 1 rfl Try.underlying46 rfl sz_46) ?_
                    generalize hR : replyOf _ _ _ _ _ = c'
                    first
                    | (revert hq2; intro hq2; obtain rfl : c' = ⟨at_, [q4, q5, q6, q7], [m0, m1, m2, m3, m4, m5, m6, m7], rd, out, en⟩ := by (rw [← hR]; simp only [replyOf, Int.toNat_natCast]; simp_all))
                    | (revert hq; intro hq; obtain rfl : c' = ⟨at_, [q0, q1, q2, q3], [m0, m1, m2, m3, m4, m5, m6, m7], rd, out, en⟩ := by (rw [← hR]; simp only [replyOf, Int.toNat_natCast]; simp_all))
                    | (obtain rfl : c' = ⟨at_, [r0, r1, r2, r3], [m0, m1, m2, m3, m4, m5, m6, m7], rd, out, en⟩ := by (rw [← hR]; simp only [replyOf, Int.toNat_natCast]; simp_all))
                    exact ⟨_, rfl, ⟨rfl, rfl⟩, hW.row_own 0 rfl, hW.below⟩)
             · intro h7 hF
               first
                 | (exfalso; omega)
                 | (refine pv hF hW (y_assign hF rfl) (fun a hF => ?_)
                    refine l_nil ?_
                    replace hF := (hF.k 0 rfl (hF.k 1 rfl (hF.k 2 rfl (hF.k 3 rfl (hF.k 4 rfl (hF.k 5 rfl (hF.k 6 rfl (hF.k 10 rfl (hF.k 13 rfl (hF.k 27 rfl hF.nil))))))))))
                    refine t_n ?_
                    refine c_f hF rfl ?_
                    refine wp_skip ?_
                    refine b_n ?_
                    refine t_n ?_
                    refine c_sr ?_
                    refine pv hF hW (y_loadAll hF rfl 3 rfl Try.underlying46 rfl sz_46) (fun a hF => ?_)
                    refine pe (e_storeAll rfl hF hW rfl rfl 1 rfl rfl rfl (by kernel_rfl) sz_46 ?_)
                    intro wc hW
                    refine l_nil ?_
                    replace hF := (hF.k 0 rfl (hF.k 1 rfl (hF.k 2 rfl (hF.k 3 rfl (hF.k 4 rfl (hF.k 5 rfl (hF.k 6 rfl (hF.k 10 rfl (hF.k 13 rfl (hF.k 27 rfl hF.nil))))))))))
                    refine t_n ?_
                    refine wp_ret ?_
                    refine ret1 Try.results30 hF (rv_c hF rfl hW 1 rfl Try.underlying46 rfl sz_46) ?_
                    generalize hR : replyOf _ _ _ _ _ = c'
                    first
                    | (revert hq2; intro hq2; obtain rfl : c' = ⟨at_, [q4, q5, q6, q7], [m0, m1, m2, m3, m4, m5, m6, m7], rd, out, en⟩ := by (rw [← hR]; simp only [replyOf, Int.toNat_natCast]; simp_all))
                    | (revert hq; intro hq; obtain rfl : c' = ⟨at_, [q0, q1, q2, q3], [m0, m1, m2, m3, m4, m5, m6, m7], rd, out, en⟩ := by (rw [← hR]; simp only [replyOf, Int.toNat_natCast]; simp_all))
                    | (obtain rfl : c' = ⟨at_, [r0, r1, r2, r3], [m0, m1, m2, m3, m4, m5, m6, m7], rd, out, en⟩ := by (rw [← hR]; simp only [replyOf, Int.toNat_natCast]; simp_all))
                    exact ⟨_, rfl, ⟨rfl, rfl⟩, hW.row_own 0 rfl, hW.below⟩))
end Go.Proofs.Ytebklpbbglojmaa
