/- The law CellSteps answers true for every input. -/
import Derived.Test.YtebklpbbglojmaaCellPlain
namespace Go.Proofs.Ytebklpbbglojmaa
set_option linter.unusedVariables false
set_option linter.unusedSimpArgs false
open Go.ChangeShapes Go.WideShapes Go.ChangeAt Go.RowKit

set_option maxRecDepth 100000



theorem cellSteps_run (p : Prt) (c : Cel) (cv iv ov : Value) (w : World) (hwf : c.wf) (ho : Ints w ov c.out) (hc : Code_ w cv p.code) (hi : Ints w iv p.inp) :
    Calls Try.prog 5 #[.agg #[cv, iv], celV c ov] w fun e w' => e = .returned (.bool true) ∧ Below w.heap.size w w' := by
  have herr := fun w1 (hb : Below w.heap.size w w1) => stepError_any p c cv iv ov hwf w1 (ho.below hb) (hc.below hb) (hi.below hb)
  have hchk := fun w1 (hb : Below w.heap.size w w1) => cellCheck_any c ov hwf w1 (ho.below hb)
  have hfine := fun w1 (hb : Below w.heap.size w w1) => cellFineR_any c ov hwf w1 (ho.below hb)
  by_cases h0 : stepErr p c = 0
  · obtain ⟨d, k, hd⟩ : ∃ d k, stepOf p c = (d, k) := ⟨_, _, rfl⟩
    have hwd : d.wf := by have := stepOf_wf (p := p) hwf; rwa [hd] at this
    have hf : cellFine c = true := by
      unfold stepErr at h0
      split at h0
      · exact absurd h0 (by assumption)
      · split at h0
        · cases h0
        · split at h0
          · rename_i h2; exact h2.1
          · cases h0
    have hstep := fun w1 (hb : Below w.heap.size w w1) => stepTo (hc.below hb) (hi.below hb) (ho.below hb) hwf h0 (fun _ => hd) (fun h => absurd rfl h)
    have hstepR := fun w1 (hb : Below w.heap.size w w1) => stepRTo (hc.below hb) (hi.below hb) (ho.below hb) hwf h0 hd
    have hce : cellErr c = 0 := by simp [cellErr, hf]
    rw [h0] at herr
    rw [hce] at hchk
    rw [hf] at hfine
    clear h0 hf hce hd hc hi
    obtain ⟨dat, dregs, dmem, drd, dout, den⟩ := d
    obtain ⟨d0, d1, d2, d3, hd1⟩ := len_four hwd.1
    obtain ⟨e0, e1, e2, e3, e4, e5, e6, e7, hd2⟩ := len_eight hwd.2
    obtain ⟨kk, kc, kr, kf, kv⟩ := k
    obtain ⟨at_, regs, mem, rd, out, en⟩ := c
    obtain ⟨r0, r1, r2, r3, hregs⟩ := len_four hwf.1
    obtain ⟨m0, m1, m2, m3, m4, m5, m6, m7, hmem⟩ := len_eight hwf.2
    dsimp only at hregs hmem
    subst hregs hmem
    clear hwf
    dsimp only at *
    subst hd1 hd2
    rw [celV_eq] at *
    refine enter Try.func5 rfl Try.ntmps5 rfl (fun a hF => ?_)
    have hW := Wd.start w NoB
    refine c_sr ?_
    refine pe (e_box hF hW rfl rfl rfl rfl ?_)
    intro b1 a wc hF hW
    refine pe (e_box hF hW rfl rfl rfl rfl ?_)
    intro b2 a wc hF hW
    refine pv hF hW (y_assign hF rfl) (fun a hF => ?_)
    refine l_nil ?_
    refine t_n ?_
    refine c_sr ?_
    refine pv hF hW (y_loadAll hF rfl 1 rfl Try.underlying42 rfl sz_42) (fun a hF => ?_)
    refine pv hF hW (y_loadAll hF rfl 0 rfl Try.underlying46 rfl sz_46) (fun a hF => ?_)
    refine pe (e_call hF rfl rfl en_21 (by rfl) rfl rfl (hstep _ hW.below) ?_)
    rintro e w1 ⟨A1, n1, rfl, hr, hb⟩
    replace hW := hW.gotR hb hr
    refine ⟨_, rfl, fun a hF => ?_⟩
    replace hF := Fr.cast (v' := .tuple #[.agg #[.int .i64 dat, .int .i64 d0, .int .i64 d1, .int .i64 d2, .int .i64 d3, .int .i64 e0, .int .i64 e1, .int .i64 e2, .int .i64 e3, .int .i64 e4, .int .i64 e5, .int .i64 e6, .int .i64 e7, .int .i64 drd, .slice A1 dout.length n1, .int .i64 den], .agg #[.int .i64 kk, .int .i64 kc, .int .i64 kr, .int .i64 kf, .int .i64 kv], .int .i64 0]) rfl hF
    refine pv hF hW (y_move hF rfl) (fun a hF => ?_)
    refine pv hF hW (y_extract hF rfl rfl) (fun a hF => ?_)
    refine pv hF hW (y_extract hF rfl rfl) (fun a hF => ?_)
    refine pv hF hW (y_extract hF rfl rfl) (fun a hF => ?_)
    refine pe (e_alloc hF hW ze_46 rfl rfl rfl ?_)
    intro b3 a wc hF hW
    refine pe (e_alloc hF hW ze_48 rfl rfl rfl ?_)
    intro b4 a wc hF hW
    refine pe (e_storeAll rfl hF hW rfl rfl 1 rfl rfl rfl (by kernel_rfl) sz_46 ?_)
    intro wc hW
    refine pe (e_storeAll rfl hF hW rfl rfl 0 rfl rfl rfl (by kernel_rfl) sz_48 ?_)
    intro wc hW
    refine pv hF hW (y_assign hF rfl) (fun a hF => ?_)
    refine l_nil ?_
    replace hF := (hF.k 0 rfl (hF.k 1 rfl (hF.k 2 rfl (hF.k 3 rfl (hF.k 4 rfl (hF.k 5 rfl (hF.k 6 rfl (hF.k 7 rfl hF.nil))))))))
    refine t_n ?_
    refine c_sr ?_
    refine pv hF hW (y_loadAll hF rfl 4 rfl Try.underlying42 rfl sz_42) (fun a hF => ?_)
    refine pv hF hW (y_loadAll hF rfl 3 rfl Try.underlying46 rfl sz_46) (fun a hF => ?_)
    refine pe (e_call hF rfl rfl en_22 (by rfl) rfl rfl (herr _ hW.below) ?_)
    rintro e w1 ⟨rfl, hb⟩
    replace hW := hW.kept hb
    clear hb
    refine ⟨_, rfl, fun a hF => ?_⟩
    refine pv hF hW (y_assign hF rfl) (fun a hF => ?_)
    refine l_nil ?_
    replace hF := (hF.k 0 rfl (hF.k 1 rfl (hF.k 2 rfl (hF.k 3 rfl (hF.k 4 rfl (hF.k 5 rfl (hF.k 6 rfl (hF.k 7 rfl (hF.k 8 rfl hF.nil)))))))))
    refine t_n ?_
    refine c_sr ?_
    refine pe (e_alloc hF hW ze_46 rfl rfl rfl ?_)
    intro b5 a wc hF hW
    refine l_nil ?_
    refine t_n ?_
    refine c_sr ?_
    refine pe (e_alloc hF hW ze_48 rfl rfl rfl ?_)
    intro b6 a wc hF hW
    refine l_nil ?_
    refine t_n ?_
    refine c_s ?_
    refine c_sr ?_
    refine pv hF hW (y_move hF rfl) (fun a hF => ?_)
    refine pv hF hW (y_eql hF rfl rfl) (fun a hF => ?_)
    replace hF := Fr.bool (t := true) (by first | decide | (simp; done) | rfl) hF
    refine l_nil ?_
    replace hF := (hF.k 0 rfl (hF.k 1 rfl (hF.k 2 rfl (hF.k 3 rfl (hF.k 4 rfl (hF.k 5 rfl (hF.k 6 rfl (hF.k 7 rfl (hF.k 8 rfl (hF.k 9 rfl (hF.k 10 rfl (hF.k 22 rfl hF.nil))))))))))))
    refine t_n ?_
    refine c_t hF rfl ?_
    refine c_r ?_
    refine pv hF hW (y_loadAll hF rfl 6 rfl Try.underlying42 rfl sz_42) (fun a hF => ?_)
    refine pv hF hW (y_loadAll hF rfl 5 rfl Try.underlying46 rfl sz_46) (fun a hF => ?_)
    refine pe (e_call hF rfl rfl en_23 (by rfl) rfl rfl (hstepR _ hW.below) ?_)
    rintro e w1 ⟨A2, n2, rfl, hr, hb⟩
    replace hW := hW.gotR hb hr
    refine ⟨_, rfl, fun a hF => ?_⟩
    replace hF := Fr.cast (v' := .tuple #[.agg #[.int .i64 dat, .int .i64 d0, .int .i64 d1, .int .i64 d2, .int .i64 d3, .int .i64 e0, .int .i64 e1, .int .i64 e2, .int .i64 e3, .int .i64 e4, .int .i64 e5, .int .i64 e6, .int .i64 e7, .int .i64 drd, .slice A2 dout.length n2, .int .i64 den], .agg #[.int .i64 kk, .int .i64 kc, .int .i64 kr, .int .i64 kf, .int .i64 kv]]) rfl hF
    refine pv hF hW (y_move hF rfl) (fun a hF => ?_)
    refine pv hF hW (y_extract hF rfl rfl) (fun a hF => ?_)
    refine pv hF hW (y_extract hF rfl rfl) (fun a hF => ?_)
    refine pe (e_storeAll rfl hF hW rfl rfl 2 rfl rfl rfl (by kernel_rfl) sz_46 ?_)
    intro wc hW
    refine pe (e_storeAll rfl hF hW rfl rfl 1 rfl rfl rfl (by kernel_rfl) sz_48 ?_)
    intro wc hW
    refine l_nil ?_
    replace hF := (hF.k 0 rfl (hF.k 1 rfl (hF.k 2 rfl (hF.k 3 rfl (hF.k 4 rfl (hF.k 5 rfl (hF.k 6 rfl (hF.k 7 rfl (hF.k 8 rfl (hF.k 9 rfl (hF.k 10 rfl (hF.k 22 rfl hF.nil))))))))))))
    refine t_n ?_
    refine c_sd mixed_ok hW (hW) ?_
    clear hW; intro wc hW hS
    refine d_1 0 (by kernel_rfl) ?_
    refine d_op rfl rfl (e_call hF rfl rfl en_24 (by rfl) rfl rfl (cellBegun_any _) ?_)
    rintro e w1 ⟨rfl, hb⟩
    replace hW := hW.kept hb
    clear hb
    refine ⟨_, rfl, fun a hF => ?_⟩
    refine ⟨hW, ?_⟩
    replace hS := hW
    refine dv 1 rfl hF hS (y_move hF rfl) (fun a hF => ?_)
    refine dv 2 rfl hF hS (y_loadAll hF rfl 6 rfl Try.underlying46 rfl sz_46) (fun a hF => ?_) (ws hF rfl rfl)
    refine dv 5 rfl hF hS (y_loadAll hF rfl 6 rfl Try.underlying46 rfl sz_46) (fun a hF => ?_) (ws hF rfl rfl)
    refine d_1 3 (by kernel_rfl) ?_
    refine d_op rfl (ws hF rfl rfl) (e_call hF rfl rfl en_25 (by rfl) rfl rfl (hchk _ hW.below) ?_)
    rintro e w1 ⟨rfl, hb⟩
    replace hW := hW.kept hb
    clear hb
    refine ⟨_, rfl, fun a hF => ?_⟩
    refine ⟨hW, ?_⟩
    replace hS := hW
    refine dv 4 rfl hF hS (y_eql hF rfl rfl) (fun a hF => ?_) (ws hF rfl rfl)
    replace hF := Fr.bool (t := true) (by first | decide | (simp; done) | rfl) hF
    refine d_1 6 (by kernel_rfl) ?_
    refine d_op rfl (ws hF rfl rfl) (e_call hF rfl rfl en_26 (by rfl) rfl rfl (hfine _ hW.below) ?_)
    rintro e w1 ⟨rfl, hb⟩
    replace hW := hW.kept hb
    clear hb
    refine ⟨_, rfl, fun a hF => ?_⟩
    refine ⟨hW, ?_⟩
    replace hS := hW
    refine dv 7 rfl hF hS (y_eqb hF rfl rfl Try.underlying4) (fun a hF => ?_) (ws hF rfl rfl)
    refine Fr.splitB hF ?_ ?_
    · intro h7 hF
      first
        | (exfalso; first | omega | (simp_all; done))
        | (refine dv 8 rfl hF hS (y_pick hF rfl rfl) (fun a hF => ?_)
           refine dv 9 rfl hF hS (y_move hF rfl) (fun a hF => ?_)
           refine dv 10 rfl hF hS (y_move hF rfl) (fun a hF => ?_) (ws hF rfl rfl)
           refine dv 11 rfl hF hS (y_move hF rfl) (fun a hF => ?_) (ws hF rfl rfl)
           refine dv 12 rfl hF hS (y_eql hF rfl rfl) (fun a hF => ?_) (ws hF rfl rfl)
           replace hF := Fr.bool (t := true) (by first | decide | (simp; done) | rfl) hF
           refine dv 13 rfl hF hS (y_pick hF rfl rfl) (fun a hF => ?_)
           replace hF := Fr.bool (t := true) (by first | decide | (simp; done) | rfl) hF
           refine dv 14 rfl hF hS (y_move hF rfl) (fun a hF => ?_)
           replace hF := Fr.bool (t := true) (by first | decide | (simp; done) | rfl) hF
           refine dv 15 rfl hF hS (y_loadAll hF rfl 4 rfl Try.underlying46 rfl sz_46) (fun a hF => ?_) (ws hF rfl rfl)
           refine dv 16 rfl hF hS (y_loadAll hF rfl 2 rfl Try.underlying46 rfl sz_46) (fun a hF => ?_) (ws hF rfl rfl)
           refine d_1 17 (by kernel_rfl) ?_
           refine d_op rfl (ws hF rfl rfl) (e_call hF rfl rfl en_27 (by rfl) rfl rfl (sameCells_self ⟨dat, [d0, d1, d2, d3], [e0, e1, e2, e3, e4, e5, e6, e7], drd, dout, den⟩ _ _ hwd _ (hW.res 5 rfl) (hW.res 0 rfl)) ?_)
           rintro e w1 ⟨rfl, hb⟩
           replace hW := hW.kept hb
           clear hb
           refine ⟨_, rfl, fun a hF => ?_⟩
           refine ⟨hW, ?_⟩
           replace hS := hW
           refine dv 18 rfl hF hS (y_pick hF rfl rfl) (fun a hF => ?_)
           refine dv 19 rfl hF hS (y_move hF rfl) (fun a hF => ?_)
           refine dv 20 rfl hF hS (y_loadAll hF rfl 3 rfl Try.underlying48 rfl sz_48) (fun a hF => ?_) (ws hF rfl rfl)
           refine dv 21 rfl hF hS (y_loadAll hF rfl 1 rfl Try.underlying48 rfl sz_48) (fun a hF => ?_) (ws hF rfl rfl)
           refine dv 22 rfl hF hS (y_bin hF rfl rfl (fun w => eqt_48 _ _ _ _ _ _ _ _ _ _ _ _ w)) (fun a hF => ?_) (ws hF rfl rfl)
           refine Fr.splitD hF ?_ ?_
           · intro h8 hF
             first
               | (exfalso; first | omega | (simp_all; done))
               | (refine dv 23 rfl hF hS (y_pick hF rfl rfl) (fun a hF => ?_)
                  replace hF := hF.drop 4
                  refine dv 24 rfl hF hS (y_assign hF rfl) (fun a hF => ?_)
                  clear hS
                  refine d_nil (by kernel_rfl) ?_
                  replace hF := (hF.k 0 rfl (hF.k 1 rfl (hF.k 2 rfl (hF.k 3 rfl (hF.k 4 rfl (hF.k 5 rfl (hF.k 6 rfl (hF.k 7 rfl (hF.k 8 rfl (hF.k 9 rfl (hF.k 10 rfl (hF.k 22 rfl hF.nil))))))))))))
                  refine t_n ?_
                  refine wp_ret ?_
                  refine ret1 Try.results5 hF (rv_t hF rfl) ?_
                  exact ⟨rfl, hW.below⟩)
           · intro h8 hF
             first
               | (exfalso; first | omega | (simp_all; done))
               | (refine dv 23 rfl hF hS (y_pick hF rfl rfl) (fun a hF => ?_)
                  replace hF := hF.drop 4
                  refine dv 24 rfl hF hS (y_assign hF rfl) (fun a hF => ?_)
                  clear hS
                  refine d_nil (by kernel_rfl) ?_
                  replace hF := (hF.k 0 rfl (hF.k 1 rfl (hF.k 2 rfl (hF.k 3 rfl (hF.k 4 rfl (hF.k 5 rfl (hF.k 6 rfl (hF.k 7 rfl (hF.k 8 rfl (hF.k 9 rfl (hF.k 10 rfl (hF.k 22 rfl hF.nil))))))))))))
                  refine t_n ?_
                  refine wp_ret ?_
                  refine ret1 Try.results5 hF (rv_t hF rfl) ?_
                  exact ⟨rfl, hW.below⟩))
    · intro h7 hF
      first
        | (exfalso; first | omega | (simp_all; done))
        | (refine dv 8 rfl hF hS (y_pick hF rfl rfl) (fun a hF => ?_)
           refine dv 9 rfl hF hS (y_move hF rfl) (fun a hF => ?_)
           refine d_skip 10 rfl (by kernel_rfl) (by kernel_rfl) (by kernel_rfl) (fun _ _ _ h => h) hF (wn hF rfl rfl rfl) hS rfl rfl (fun a hF => ?_)
           refine d_skip 11 rfl (by kernel_rfl) (by kernel_rfl) (by kernel_rfl) (fun _ _ _ h => h) hF (wn hF rfl rfl rfl) hS rfl rfl (fun a hF => ?_)
           refine d_skip 12 rfl (by kernel_rfl) (by kernel_rfl) (by kernel_rfl) (fun _ _ _ h => h) hF (wn hF rfl rfl rfl) hS rfl rfl (fun a hF => ?_)
           refine dv 13 rfl hF hS (y_pick hF rfl rfl) (fun a hF => ?_)
           refine dv 14 rfl hF hS (y_move hF rfl) (fun a hF => ?_)
           refine d_skip 15 rfl (by kernel_rfl) (by kernel_rfl) (by kernel_rfl) (fun _ _ _ h => h) hF (wn hF rfl rfl rfl) hS rfl rfl (fun a hF => ?_)
           refine d_skip 16 rfl (by kernel_rfl) (by kernel_rfl) (by kernel_rfl) (fun _ _ _ h => h) hF (wn hF rfl rfl rfl) hS rfl rfl (fun a hF => ?_)
           refine d_skip 17 rfl (by kernel_rfl) (by kernel_rfl) (by kernel_rfl) (fun _ _ _ h => h) hF (wn hF rfl rfl rfl) hS rfl rfl (fun a hF => ?_)
           refine dv 18 rfl hF hS (y_pick hF rfl rfl) (fun a hF => ?_)
           refine dv 19 rfl hF hS (y_move hF rfl) (fun a hF => ?_)
           refine d_skip 20 rfl (by kernel_rfl) (by kernel_rfl) (by kernel_rfl) (fun _ _ _ h => h) hF (wn hF rfl rfl rfl) hS rfl rfl (fun a hF => ?_)
           refine d_skip 21 rfl (by kernel_rfl) (by kernel_rfl) (by kernel_rfl) (fun _ _ _ h => h) hF (wn hF rfl rfl rfl) hS rfl rfl (fun a hF => ?_)
           refine d_skip 22 rfl (by kernel_rfl) (by kernel_rfl) (by kernel_rfl) (fun _ _ _ h => h) hF (wn hF rfl rfl rfl) hS rfl rfl (fun a hF => ?_)
           refine dv 23 rfl hF hS (y_pick hF rfl rfl) (fun a hF => ?_)
           replace hF := hF.drop 4
           refine dv 24 rfl hF hS (y_assign hF rfl) (fun a hF => ?_)
           clear hS
           refine d_nil (by kernel_rfl) ?_
           replace hF := (hF.k 0 rfl (hF.k 1 rfl (hF.k 2 rfl (hF.k 3 rfl (hF.k 4 rfl (hF.k 5 rfl (hF.k 6 rfl (hF.k 7 rfl (hF.k 8 rfl (hF.k 9 rfl (hF.k 10 rfl (hF.k 22 rfl hF.nil))))))))))))
           refine t_n ?_
           refine wp_ret ?_
           refine ret1 Try.results5 hF (rv_t hF rfl) ?_
           exact ⟨rfl, hW.below⟩)
  · have hstep := fun w1 (hb : Below w.heap.size w w1) => stepTo (d := Cel.zero) (k := Wnt.zero) (hc.below hb) (hi.below hb) (ho.below hb) hwf rfl (fun h => absurd h h0) (fun _ => ⟨rfl, rfl⟩)
    generalize stepErr p c = E at *
    clear hc hi
    cases hf : cellFine c with
    | true =>
      have hce : cellErr c = 0 := by simp [cellErr, hf]
      rw [hce] at hchk
      rw [hf] at hfine
      clear hf hce
      obtain ⟨at_, regs, mem, rd, out, en⟩ := c
      obtain ⟨r0, r1, r2, r3, hregs⟩ := len_four hwf.1
      obtain ⟨m0, m1, m2, m3, m4, m5, m6, m7, hmem⟩ := len_eight hwf.2
      dsimp only at hregs hmem
      subst hregs hmem
      clear hwf
      rw [celV_eq] at *
      refine enter Try.func5 rfl Try.ntmps5 rfl (fun a hF => ?_)
      have hW := Wd.start w NoB
      refine c_sr ?_
      refine pe (e_box hF hW rfl rfl rfl rfl ?_)
      intro b1 a wc hF hW
      refine pe (e_box hF hW rfl rfl rfl rfl ?_)
      intro b2 a wc hF hW
      refine pv hF hW (y_assign hF rfl) (fun a hF => ?_)
      refine l_nil ?_
      refine t_n ?_
      refine c_sr ?_
      refine pv hF hW (y_loadAll hF rfl 1 rfl Try.underlying42 rfl sz_42) (fun a hF => ?_)
      refine pv hF hW (y_loadAll hF rfl 0 rfl Try.underlying46 rfl sz_46) (fun a hF => ?_)
      refine pe (e_call hF rfl rfl en_21 (by rfl) rfl rfl (hstep _ hW.below) ?_)
      rintro e w1 ⟨A1, n1, rfl, hr, hb⟩
      replace hW := hW.gotR hb hr
      refine ⟨_, rfl, fun a hF => ?_⟩
      replace hF := Fr.cast (v' := .tuple #[.agg #[.int .i64 0, .int .i64 0, .int .i64 0, .int .i64 0, .int .i64 0, .int .i64 0, .int .i64 0, .int .i64 0, .int .i64 0, .int .i64 0, .int .i64 0, .int .i64 0, .int .i64 0, .int .i64 0, .slice A1 0 n1, .int .i64 0], .agg #[.int .i64 0, .int .i64 0, .int .i64 0, .int .i64 0, .int .i64 0], .int .i64 E]) rfl hF
      refine pv hF hW (y_move hF rfl) (fun a hF => ?_)
      refine pv hF hW (y_extract hF rfl rfl) (fun a hF => ?_)
      refine pv hF hW (y_extract hF rfl rfl) (fun a hF => ?_)
      refine pv hF hW (y_extract hF rfl rfl) (fun a hF => ?_)
      refine pe (e_alloc hF hW ze_46 rfl rfl rfl ?_)
      intro b3 a wc hF hW
      refine pe (e_alloc hF hW ze_48 rfl rfl rfl ?_)
      intro b4 a wc hF hW
      refine pe (e_storeAll rfl hF hW rfl rfl 1 rfl rfl rfl (by kernel_rfl) sz_46 ?_)
      intro wc hW
      refine pe (e_storeAll rfl hF hW rfl rfl 0 rfl rfl rfl (by kernel_rfl) sz_48 ?_)
      intro wc hW
      refine pv hF hW (y_assign hF rfl) (fun a hF => ?_)
      refine l_nil ?_
      replace hF := (hF.k 0 rfl (hF.k 1 rfl (hF.k 2 rfl (hF.k 3 rfl (hF.k 4 rfl (hF.k 5 rfl (hF.k 6 rfl (hF.k 7 rfl hF.nil))))))))
      refine t_n ?_
      refine c_sr ?_
      refine pv hF hW (y_loadAll hF rfl 4 rfl Try.underlying42 rfl sz_42) (fun a hF => ?_)
      refine pv hF hW (y_loadAll hF rfl 3 rfl Try.underlying46 rfl sz_46) (fun a hF => ?_)
      refine pe (e_call hF rfl rfl en_22 (by rfl) rfl rfl (herr _ hW.below) ?_)
      rintro e w1 ⟨rfl, hb⟩
      replace hW := hW.kept hb
      clear hb
      refine ⟨_, rfl, fun a hF => ?_⟩
      refine pv hF hW (y_assign hF rfl) (fun a hF => ?_)
      refine l_nil ?_
      replace hF := (hF.k 0 rfl (hF.k 1 rfl (hF.k 2 rfl (hF.k 3 rfl (hF.k 4 rfl (hF.k 5 rfl (hF.k 6 rfl (hF.k 7 rfl (hF.k 8 rfl hF.nil)))))))))
      refine t_n ?_
      refine c_sr ?_
      refine pe (e_alloc hF hW ze_46 rfl rfl rfl ?_)
      intro b5 a wc hF hW
      refine l_nil ?_
      refine t_n ?_
      refine c_sr ?_
      refine pe (e_alloc hF hW ze_48 rfl rfl rfl ?_)
      intro b6 a wc hF hW
      refine l_nil ?_
      refine t_n ?_
      refine c_s ?_
      refine c_sr ?_
      refine pv hF hW (y_move hF rfl) (fun a hF => ?_)
      refine pv hF hW (y_eql hF rfl rfl) (fun a hF => ?_)
      refine Fr.splitD hF ?_ ?_
      · intro h7 hF
        first
          | (exfalso; first | omega | (simp_all; done))
          | (refine l_nil ?_
             replace hF := (hF.k 0 rfl (hF.k 1 rfl (hF.k 2 rfl (hF.k 3 rfl (hF.k 4 rfl (hF.k 5 rfl (hF.k 6 rfl (hF.k 7 rfl (hF.k 8 rfl (hF.k 9 rfl (hF.k 10 rfl (hF.k 22 rfl hF.nil))))))))))))
             refine t_n ?_
             refine c_t hF rfl ?_
             refine c_r ?_
             refine pv hF hW (y_loadAll hF rfl 6 rfl Try.underlying42 rfl sz_42) (fun a hF => ?_)
             refine pv hF hW (y_loadAll hF rfl 5 rfl Try.underlying46 rfl sz_46) (fun a hF => ?_)
             refine pe (e_call hF rfl rfl en_23 (by rfl) rfl rfl (hnone) ?_)
             rintro e w1 ⟨A2, n2, rfl, hr, hb⟩
             replace hW := hW.gotR hb hr
             refine ⟨_, rfl, fun a hF => ?_⟩
             refine pv hF hW (y_move hF rfl) (fun a hF => ?_)
             refine pv hF hW (y_extract hF rfl rfl) (fun a hF => ?_)
             refine pv hF hW (y_extract hF rfl rfl) (fun a hF => ?_)
             refine pe (e_storeAll rfl hF hW rfl rfl 2 rfl rfl rfl (by kernel_rfl) sz_46 ?_)
             intro wc hW
             refine pe (e_storeAll rfl hF hW rfl rfl 1 rfl rfl rfl (by kernel_rfl) sz_48 ?_)
             intro wc hW
             refine l_nil ?_
             replace hF := (hF.k 0 rfl (hF.k 1 rfl (hF.k 2 rfl (hF.k 3 rfl (hF.k 4 rfl (hF.k 5 rfl (hF.k 6 rfl (hF.k 7 rfl (hF.k 8 rfl (hF.k 9 rfl (hF.k 10 rfl (hF.k 22 rfl hF.nil))))))))))))
             refine t_n ?_
             refine c_sd mixed_ok hW (hW) ?_
             clear hW; intro wc hW hS
             refine d_1 0 (by kernel_rfl) ?_
             refine d_op rfl rfl (e_call hF rfl rfl en_24 (by rfl) rfl rfl (cellBegun_any _) ?_)
             rintro e w1 ⟨rfl, hb⟩
             replace hW := hW.kept hb
             clear hb
             refine ⟨_, rfl, fun a hF => ?_⟩
             refine ⟨hW, ?_⟩
             replace hS := hW
             refine dv 1 rfl hF hS (y_move hF rfl) (fun a hF => ?_)
             refine dv 2 rfl hF hS (y_loadAll hF rfl 6 rfl Try.underlying46 rfl sz_46) (fun a hF => ?_) (ws hF rfl rfl)
             refine dv 5 rfl hF hS (y_loadAll hF rfl 6 rfl Try.underlying46 rfl sz_46) (fun a hF => ?_) (ws hF rfl rfl)
             refine d_1 3 (by kernel_rfl) ?_
             refine d_op rfl (ws hF rfl rfl) (e_call hF rfl rfl en_25 (by rfl) rfl rfl (hchk _ hW.below) ?_)
             rintro e w1 ⟨rfl, hb⟩
             replace hW := hW.kept hb
             clear hb
             refine ⟨_, rfl, fun a hF => ?_⟩
             refine ⟨hW, ?_⟩
             replace hS := hW
             refine dv 4 rfl hF hS (y_eql hF rfl rfl) (fun a hF => ?_) (ws hF rfl rfl)
             replace hF := Fr.bool (t := true) (by first | decide | (simp; done) | rfl) hF
             refine d_1 6 (by kernel_rfl) ?_
             refine d_op rfl (ws hF rfl rfl) (e_call hF rfl rfl en_26 (by rfl) rfl rfl (hfine _ hW.below) ?_)
             rintro e w1 ⟨rfl, hb⟩
             replace hW := hW.kept hb
             clear hb
             refine ⟨_, rfl, fun a hF => ?_⟩
             refine ⟨hW, ?_⟩
             replace hS := hW
             refine dv 7 rfl hF hS (y_eqb hF rfl rfl Try.underlying4) (fun a hF => ?_) (ws hF rfl rfl)
             refine Fr.splitB hF ?_ ?_
             · intro h8 hF
               first
                 | (exfalso; first | omega | (simp_all; done))
                 | (refine dv 8 rfl hF hS (y_pick hF rfl rfl) (fun a hF => ?_)
                    refine dv 9 rfl hF hS (y_move hF rfl) (fun a hF => ?_)
                    refine dv 10 rfl hF hS (y_move hF rfl) (fun a hF => ?_) (ws hF rfl rfl)
                    refine dv 11 rfl hF hS (y_move hF rfl) (fun a hF => ?_) (ws hF rfl rfl)
                    refine dv 12 rfl hF hS (y_eql hF rfl rfl) (fun a hF => ?_) (ws hF rfl rfl)
                    refine Fr.splitD hF ?_ ?_
                    · intro h9 hF
                      first
                        | (exfalso; first | omega | (simp_all; done))
                        | (refine dv 13 rfl hF hS (y_pick hF rfl rfl) (fun a hF => ?_)
                           refine dv 14 rfl hF hS (y_move hF rfl) (fun a hF => ?_)
                           refine dv 15 rfl hF hS (y_loadAll hF rfl 4 rfl Try.underlying46 rfl sz_46) (fun a hF => ?_) (ws hF rfl rfl)
                           refine dv 16 rfl hF hS (y_loadAll hF rfl 2 rfl Try.underlying46 rfl sz_46) (fun a hF => ?_) (ws hF rfl rfl)
                           refine d_1 17 (by kernel_rfl) ?_
                           refine d_op rfl (ws hF rfl rfl) (e_call hF rfl rfl en_27 (by rfl) rfl rfl (sameCells_self Cel.zero _ _ Cel.zero_wf _ (hW.res 5 rfl) Ints.nil_) ?_)
                           rintro e w1 ⟨rfl, hb⟩
                           replace hW := hW.kept hb
                           clear hb
                           refine ⟨_, rfl, fun a hF => ?_⟩
                           refine ⟨hW, ?_⟩
                           replace hS := hW
                           refine dv 18 rfl hF hS (y_pick hF rfl rfl) (fun a hF => ?_)
                           refine dv 19 rfl hF hS (y_move hF rfl) (fun a hF => ?_)
                           refine dv 20 rfl hF hS (y_loadAll hF rfl 3 rfl Try.underlying48 rfl sz_48) (fun a hF => ?_) (ws hF rfl rfl)
                           refine dv 21 rfl hF hS (y_loadAll hF rfl 1 rfl Try.underlying48 rfl sz_48) (fun a hF => ?_) (ws hF rfl rfl)
                           refine dv 22 rfl hF hS (y_bin hF rfl rfl (fun w => eqt_48 _ _ _ _ _ _ _ _ _ _ _ _ w)) (fun a hF => ?_) (ws hF rfl rfl)
                           refine Fr.splitD hF ?_ ?_
                           · intro h10 hF
                             first
                               | (exfalso; first | omega | (simp_all; done))
                               | (refine dv 23 rfl hF hS (y_pick hF rfl rfl) (fun a hF => ?_)
                                  replace hF := hF.drop 4
                                  refine dv 24 rfl hF hS (y_assign hF rfl) (fun a hF => ?_)
                                  clear hS
                                  refine d_nil (by kernel_rfl) ?_
                                  replace hF := (hF.k 0 rfl (hF.k 1 rfl (hF.k 2 rfl (hF.k 3 rfl (hF.k 4 rfl (hF.k 5 rfl (hF.k 6 rfl (hF.k 7 rfl (hF.k 8 rfl (hF.k 9 rfl (hF.k 10 rfl (hF.k 22 rfl hF.nil))))))))))))
                                  refine t_n ?_
                                  refine wp_ret ?_
                                  refine ret1 Try.results5 hF (rv_t hF rfl) ?_
                                  exact ⟨rfl, hW.below⟩)
                           · intro h10 hF
                             first
                               | (exfalso; first | omega | (simp_all; done))
                               | (refine dv 23 rfl hF hS (y_pick hF rfl rfl) (fun a hF => ?_)
                                  replace hF := hF.drop 4
                                  refine dv 24 rfl hF hS (y_assign hF rfl) (fun a hF => ?_)
                                  clear hS
                                  refine d_nil (by kernel_rfl) ?_
                                  replace hF := (hF.k 0 rfl (hF.k 1 rfl (hF.k 2 rfl (hF.k 3 rfl (hF.k 4 rfl (hF.k 5 rfl (hF.k 6 rfl (hF.k 7 rfl (hF.k 8 rfl (hF.k 9 rfl (hF.k 10 rfl (hF.k 22 rfl hF.nil))))))))))))
                                  refine t_n ?_
                                  refine wp_ret ?_
                                  refine ret1 Try.results5 hF (rv_t hF rfl) ?_
                                  exact ⟨rfl, hW.below⟩))
                    · intro h9 hF
                      first
                        | (exfalso; first | omega | (simp_all; done))
                        | (refine dv 13 rfl hF hS (y_pick hF rfl rfl) (fun a hF => ?_)
                           refine dv 14 rfl hF hS (y_move hF rfl) (fun a hF => ?_)
                           refine d_skip 15 rfl (by kernel_rfl) (by kernel_rfl) (by kernel_rfl) (fun _ _ _ h => h) hF (wn hF rfl rfl rfl) hS rfl rfl (fun a hF => ?_)
                           refine d_skip 16 rfl (by kernel_rfl) (by kernel_rfl) (by kernel_rfl) (fun _ _ _ h => h) hF (wn hF rfl rfl rfl) hS rfl rfl (fun a hF => ?_)
                           refine d_skip 17 rfl (by kernel_rfl) (by kernel_rfl) (by kernel_rfl) (fun _ _ _ h => h) hF (wn hF rfl rfl rfl) hS rfl rfl (fun a hF => ?_)
                           refine dv 18 rfl hF hS (y_pick hF rfl rfl) (fun a hF => ?_)
                           refine dv 19 rfl hF hS (y_move hF rfl) (fun a hF => ?_)
                           refine d_skip 20 rfl (by kernel_rfl) (by kernel_rfl) (by kernel_rfl) (fun _ _ _ h => h) hF (wn hF rfl rfl rfl) hS rfl rfl (fun a hF => ?_)
                           refine d_skip 21 rfl (by kernel_rfl) (by kernel_rfl) (by kernel_rfl) (fun _ _ _ h => h) hF (wn hF rfl rfl rfl) hS rfl rfl (fun a hF => ?_)
                           refine d_skip 22 rfl (by kernel_rfl) (by kernel_rfl) (by kernel_rfl) (fun _ _ _ h => h) hF (wn hF rfl rfl rfl) hS rfl rfl (fun a hF => ?_)
                           refine dv 23 rfl hF hS (y_pick hF rfl rfl) (fun a hF => ?_)
                           replace hF := hF.drop 4
                           refine dv 24 rfl hF hS (y_assign hF rfl) (fun a hF => ?_)
                           clear hS
                           refine d_nil (by kernel_rfl) ?_
                           replace hF := (hF.k 0 rfl (hF.k 1 rfl (hF.k 2 rfl (hF.k 3 rfl (hF.k 4 rfl (hF.k 5 rfl (hF.k 6 rfl (hF.k 7 rfl (hF.k 8 rfl (hF.k 9 rfl (hF.k 10 rfl (hF.k 22 rfl hF.nil))))))))))))
                           refine t_n ?_
                           refine wp_ret ?_
                           refine ret1 Try.results5 hF (rv_t hF rfl) ?_
                           exact ⟨rfl, hW.below⟩))
             · intro h8 hF
               first
                 | (exfalso; first | omega | (simp_all; done))
                 | (refine dv 8 rfl hF hS (y_pick hF rfl rfl) (fun a hF => ?_)
                    refine dv 9 rfl hF hS (y_move hF rfl) (fun a hF => ?_)
                    refine d_skip 10 rfl (by kernel_rfl) (by kernel_rfl) (by kernel_rfl) (fun _ _ _ h => h) hF (wn hF rfl rfl rfl) hS rfl rfl (fun a hF => ?_)
                    refine d_skip 11 rfl (by kernel_rfl) (by kernel_rfl) (by kernel_rfl) (fun _ _ _ h => h) hF (wn hF rfl rfl rfl) hS rfl rfl (fun a hF => ?_)
                    refine d_skip 12 rfl (by kernel_rfl) (by kernel_rfl) (by kernel_rfl) (fun _ _ _ h => h) hF (wn hF rfl rfl rfl) hS rfl rfl (fun a hF => ?_)
                    refine dv 13 rfl hF hS (y_pick hF rfl rfl) (fun a hF => ?_)
                    refine dv 14 rfl hF hS (y_move hF rfl) (fun a hF => ?_)
                    refine d_skip 15 rfl (by kernel_rfl) (by kernel_rfl) (by kernel_rfl) (fun _ _ _ h => h) hF (wn hF rfl rfl rfl) hS rfl rfl (fun a hF => ?_)
                    refine d_skip 16 rfl (by kernel_rfl) (by kernel_rfl) (by kernel_rfl) (fun _ _ _ h => h) hF (wn hF rfl rfl rfl) hS rfl rfl (fun a hF => ?_)
                    refine d_skip 17 rfl (by kernel_rfl) (by kernel_rfl) (by kernel_rfl) (fun _ _ _ h => h) hF (wn hF rfl rfl rfl) hS rfl rfl (fun a hF => ?_)
                    refine dv 18 rfl hF hS (y_pick hF rfl rfl) (fun a hF => ?_)
                    refine dv 19 rfl hF hS (y_move hF rfl) (fun a hF => ?_)
                    refine d_skip 20 rfl (by kernel_rfl) (by kernel_rfl) (by kernel_rfl) (fun _ _ _ h => h) hF (wn hF rfl rfl rfl) hS rfl rfl (fun a hF => ?_)
                    refine d_skip 21 rfl (by kernel_rfl) (by kernel_rfl) (by kernel_rfl) (fun _ _ _ h => h) hF (wn hF rfl rfl rfl) hS rfl rfl (fun a hF => ?_)
                    refine d_skip 22 rfl (by kernel_rfl) (by kernel_rfl) (by kernel_rfl) (fun _ _ _ h => h) hF (wn hF rfl rfl rfl) hS rfl rfl (fun a hF => ?_)
                    refine dv 23 rfl hF hS (y_pick hF rfl rfl) (fun a hF => ?_)
                    replace hF := hF.drop 4
                    refine dv 24 rfl hF hS (y_assign hF rfl) (fun a hF => ?_)
                    clear hS
                    refine d_nil (by kernel_rfl) ?_
                    replace hF := (hF.k 0 rfl (hF.k 1 rfl (hF.k 2 rfl (hF.k 3 rfl (hF.k 4 rfl (hF.k 5 rfl (hF.k 6 rfl (hF.k 7 rfl (hF.k 8 rfl (hF.k 9 rfl (hF.k 10 rfl (hF.k 22 rfl hF.nil))))))))))))
                    refine t_n ?_
                    refine wp_ret ?_
                    refine ret1 Try.results5 hF (rv_t hF rfl) ?_
                    exact ⟨rfl, hW.below⟩))
      · intro h7 hF
        first
          | (exfalso; first | omega | (simp_all; done))
          | (refine l_nil ?_
             replace hF := (hF.k 0 rfl (hF.k 1 rfl (hF.k 2 rfl (hF.k 3 rfl (hF.k 4 rfl (hF.k 5 rfl (hF.k 6 rfl (hF.k 7 rfl (hF.k 8 rfl (hF.k 9 rfl (hF.k 10 rfl (hF.k 22 rfl hF.nil))))))))))))
             refine t_n ?_
             refine c_f hF rfl ?_
             refine wp_skip ?_
             refine t_n ?_
             refine c_sd mixed_ok hW (hW) ?_
             clear hW; intro wc hW hS
             refine d_1 0 (by kernel_rfl) ?_
             refine d_op rfl rfl (e_call hF rfl rfl en_24 (by rfl) rfl rfl (cellBegun_any _) ?_)
             rintro e w1 ⟨rfl, hb⟩
             replace hW := hW.kept hb
             clear hb
             refine ⟨_, rfl, fun a hF => ?_⟩
             refine ⟨hW, ?_⟩
             replace hS := hW
             refine dv 1 rfl hF hS (y_move hF rfl) (fun a hF => ?_)
             refine dv 2 rfl hF hS (y_loadAll hF rfl 5 rfl Try.underlying46 rfl sz_46) (fun a hF => ?_) (ws hF rfl rfl)
             refine dv 5 rfl hF hS (y_loadAll hF rfl 5 rfl Try.underlying46 rfl sz_46) (fun a hF => ?_) (ws hF rfl rfl)
             refine d_1 3 (by kernel_rfl) ?_
             refine d_op rfl (ws hF rfl rfl) (e_call hF rfl rfl en_25 (by rfl) rfl rfl (hchk _ hW.below) ?_)
             rintro e w1 ⟨rfl, hb⟩
             replace hW := hW.kept hb
             clear hb
             refine ⟨_, rfl, fun a hF => ?_⟩
             refine ⟨hW, ?_⟩
             replace hS := hW
             refine dv 4 rfl hF hS (y_eql hF rfl rfl) (fun a hF => ?_) (ws hF rfl rfl)
             replace hF := Fr.bool (t := true) (by first | decide | (simp; done) | rfl) hF
             refine d_1 6 (by kernel_rfl) ?_
             refine d_op rfl (ws hF rfl rfl) (e_call hF rfl rfl en_26 (by rfl) rfl rfl (hfine _ hW.below) ?_)
             rintro e w1 ⟨rfl, hb⟩
             replace hW := hW.kept hb
             clear hb
             refine ⟨_, rfl, fun a hF => ?_⟩
             refine ⟨hW, ?_⟩
             replace hS := hW
             refine dv 7 rfl hF hS (y_eqb hF rfl rfl Try.underlying4) (fun a hF => ?_) (ws hF rfl rfl)
             refine Fr.splitB hF ?_ ?_
             · intro h11 hF
               first
                 | (exfalso; first | omega | (simp_all; done))
                 | (refine dv 8 rfl hF hS (y_pick hF rfl rfl) (fun a hF => ?_)
                    refine dv 9 rfl hF hS (y_move hF rfl) (fun a hF => ?_)
                    refine dv 10 rfl hF hS (y_move hF rfl) (fun a hF => ?_) (ws hF rfl rfl)
                    refine dv 11 rfl hF hS (y_move hF rfl) (fun a hF => ?_) (ws hF rfl rfl)
                    refine dv 12 rfl hF hS (y_eql hF rfl rfl) (fun a hF => ?_) (ws hF rfl rfl)
                    refine Fr.splitD hF ?_ ?_
                    · intro h12 hF
                      first
                        | (exfalso; first | omega | (simp_all; done))
                        | (refine dv 13 rfl hF hS (y_pick hF rfl rfl) (fun a hF => ?_)
                           refine dv 14 rfl hF hS (y_move hF rfl) (fun a hF => ?_)
                           refine dv 15 rfl hF hS (y_loadAll hF rfl 3 rfl Try.underlying46 rfl sz_46) (fun a hF => ?_) (ws hF rfl rfl)
                           refine dv 16 rfl hF hS (y_loadAll hF rfl 1 rfl Try.underlying46 rfl sz_46) (fun a hF => ?_) (ws hF rfl rfl)
                           refine d_1 17 (by kernel_rfl) ?_
                           refine d_op rfl (ws hF rfl rfl) (e_call hF rfl rfl en_27 (by rfl) rfl rfl (sameCells_self Cel.zero _ _ Cel.zero_wf _ (hW.res 4 rfl) Ints.nil_) ?_)
                           rintro e w1 ⟨rfl, hb⟩
                           replace hW := hW.kept hb
                           clear hb
                           refine ⟨_, rfl, fun a hF => ?_⟩
                           refine ⟨hW, ?_⟩
                           replace hS := hW
                           refine dv 18 rfl hF hS (y_pick hF rfl rfl) (fun a hF => ?_)
                           refine dv 19 rfl hF hS (y_move hF rfl) (fun a hF => ?_)
                           refine dv 20 rfl hF hS (y_loadAll hF rfl 2 rfl Try.underlying48 rfl sz_48) (fun a hF => ?_) (ws hF rfl rfl)
                           refine dv 21 rfl hF hS (y_loadAll hF rfl 0 rfl Try.underlying48 rfl sz_48) (fun a hF => ?_) (ws hF rfl rfl)
                           refine dv 22 rfl hF hS (y_bin hF rfl rfl (fun w => eqt_48 _ _ _ _ _ _ _ _ _ _ _ _ w)) (fun a hF => ?_) (ws hF rfl rfl)
                           replace hF := Fr.bool (t := true) (by first | decide | (simp; done) | rfl) hF
                           refine dv 23 rfl hF hS (y_pick hF rfl rfl) (fun a hF => ?_)
                           replace hF := Fr.bool (t := true) (by first | decide | (simp; done) | rfl) hF
                           replace hF := hF.drop 4
                           refine dv 24 rfl hF hS (y_assign hF rfl) (fun a hF => ?_)
                           replace hF := Fr.bool (t := true) (by first | decide | (simp; done) | rfl) hF
                           clear hS
                           refine d_nil (by kernel_rfl) ?_
                           replace hF := (hF.k 0 rfl (hF.k 1 rfl (hF.k 2 rfl (hF.k 3 rfl (hF.k 4 rfl (hF.k 5 rfl (hF.k 6 rfl (hF.k 7 rfl (hF.k 8 rfl (hF.k 9 rfl (hF.k 10 rfl (hF.k 22 rfl hF.nil))))))))))))
                           refine t_n ?_
                           refine wp_ret ?_
                           refine ret1 Try.results5 hF (rv_t hF rfl) ?_
                           exact ⟨rfl, hW.below⟩)
                    · intro h12 hF
                      first
                        | (exfalso; first | omega | (simp_all; done))
                        | (refine dv 13 rfl hF hS (y_pick hF rfl rfl) (fun a hF => ?_)
                           refine dv 14 rfl hF hS (y_move hF rfl) (fun a hF => ?_)
                           refine d_skip 15 rfl (by kernel_rfl) (by kernel_rfl) (by kernel_rfl) (fun _ _ _ h => h) hF (wn hF rfl rfl rfl) hS rfl rfl (fun a hF => ?_)
                           refine d_skip 16 rfl (by kernel_rfl) (by kernel_rfl) (by kernel_rfl) (fun _ _ _ h => h) hF (wn hF rfl rfl rfl) hS rfl rfl (fun a hF => ?_)
                           refine d_skip 17 rfl (by kernel_rfl) (by kernel_rfl) (by kernel_rfl) (fun _ _ _ h => h) hF (wn hF rfl rfl rfl) hS rfl rfl (fun a hF => ?_)
                           refine dv 18 rfl hF hS (y_pick hF rfl rfl) (fun a hF => ?_)
                           refine dv 19 rfl hF hS (y_move hF rfl) (fun a hF => ?_)
                           refine d_skip 20 rfl (by kernel_rfl) (by kernel_rfl) (by kernel_rfl) (fun _ _ _ h => h) hF (wn hF rfl rfl rfl) hS rfl rfl (fun a hF => ?_)
                           refine d_skip 21 rfl (by kernel_rfl) (by kernel_rfl) (by kernel_rfl) (fun _ _ _ h => h) hF (wn hF rfl rfl rfl) hS rfl rfl (fun a hF => ?_)
                           refine d_skip 22 rfl (by kernel_rfl) (by kernel_rfl) (by kernel_rfl) (fun _ _ _ h => h) hF (wn hF rfl rfl rfl) hS rfl rfl (fun a hF => ?_)
                           refine dv 23 rfl hF hS (y_pick hF rfl rfl) (fun a hF => ?_)
                           replace hF := hF.drop 4
                           refine dv 24 rfl hF hS (y_assign hF rfl) (fun a hF => ?_)
                           clear hS
                           refine d_nil (by kernel_rfl) ?_
                           replace hF := (hF.k 0 rfl (hF.k 1 rfl (hF.k 2 rfl (hF.k 3 rfl (hF.k 4 rfl (hF.k 5 rfl (hF.k 6 rfl (hF.k 7 rfl (hF.k 8 rfl (hF.k 9 rfl (hF.k 10 rfl (hF.k 22 rfl hF.nil))))))))))))
                           refine t_n ?_
                           refine wp_ret ?_
                           refine ret1 Try.results5 hF (rv_t hF rfl) ?_
                           exact ⟨rfl, hW.below⟩))
             · intro h11 hF
               first
                 | (exfalso; first | omega | (simp_all; done))
                 | (refine dv 8 rfl hF hS (y_pick hF rfl rfl) (fun a hF => ?_)
                    refine dv 9 rfl hF hS (y_move hF rfl) (fun a hF => ?_)
                    refine d_skip 10 rfl (by kernel_rfl) (by kernel_rfl) (by kernel_rfl) (fun _ _ _ h => h) hF (wn hF rfl rfl rfl) hS rfl rfl (fun a hF => ?_)
                    refine d_skip 11 rfl (by kernel_rfl) (by kernel_rfl) (by kernel_rfl) (fun _ _ _ h => h) hF (wn hF rfl rfl rfl) hS rfl rfl (fun a hF => ?_)
                    refine d_skip 12 rfl (by kernel_rfl) (by kernel_rfl) (by kernel_rfl) (fun _ _ _ h => h) hF (wn hF rfl rfl rfl) hS rfl rfl (fun a hF => ?_)
                    refine dv 13 rfl hF hS (y_pick hF rfl rfl) (fun a hF => ?_)
                    refine dv 14 rfl hF hS (y_move hF rfl) (fun a hF => ?_)
                    refine d_skip 15 rfl (by kernel_rfl) (by kernel_rfl) (by kernel_rfl) (fun _ _ _ h => h) hF (wn hF rfl rfl rfl) hS rfl rfl (fun a hF => ?_)
                    refine d_skip 16 rfl (by kernel_rfl) (by kernel_rfl) (by kernel_rfl) (fun _ _ _ h => h) hF (wn hF rfl rfl rfl) hS rfl rfl (fun a hF => ?_)
                    refine d_skip 17 rfl (by kernel_rfl) (by kernel_rfl) (by kernel_rfl) (fun _ _ _ h => h) hF (wn hF rfl rfl rfl) hS rfl rfl (fun a hF => ?_)
                    refine dv 18 rfl hF hS (y_pick hF rfl rfl) (fun a hF => ?_)
                    refine dv 19 rfl hF hS (y_move hF rfl) (fun a hF => ?_)
                    refine d_skip 20 rfl (by kernel_rfl) (by kernel_rfl) (by kernel_rfl) (fun _ _ _ h => h) hF (wn hF rfl rfl rfl) hS rfl rfl (fun a hF => ?_)
                    refine d_skip 21 rfl (by kernel_rfl) (by kernel_rfl) (by kernel_rfl) (fun _ _ _ h => h) hF (wn hF rfl rfl rfl) hS rfl rfl (fun a hF => ?_)
                    refine d_skip 22 rfl (by kernel_rfl) (by kernel_rfl) (by kernel_rfl) (fun _ _ _ h => h) hF (wn hF rfl rfl rfl) hS rfl rfl (fun a hF => ?_)
                    refine dv 23 rfl hF hS (y_pick hF rfl rfl) (fun a hF => ?_)
                    replace hF := hF.drop 4
                    refine dv 24 rfl hF hS (y_assign hF rfl) (fun a hF => ?_)
                    clear hS
                    refine d_nil (by kernel_rfl) ?_
                    replace hF := (hF.k 0 rfl (hF.k 1 rfl (hF.k 2 rfl (hF.k 3 rfl (hF.k 4 rfl (hF.k 5 rfl (hF.k 6 rfl (hF.k 7 rfl (hF.k 8 rfl (hF.k 9 rfl (hF.k 10 rfl (hF.k 22 rfl hF.nil))))))))))))
                    refine t_n ?_
                    refine wp_ret ?_
                    refine ret1 Try.results5 hF (rv_t hF rfl) ?_
                    exact ⟨rfl, hW.below⟩))
    | false =>
      have hce : cellErr c = 1 := by simp [cellErr, hf]
      rw [hce] at hchk
      rw [hf] at hfine
      clear hf hce
      obtain ⟨at_, regs, mem, rd, out, en⟩ := c
      obtain ⟨r0, r1, r2, r3, hregs⟩ := len_four hwf.1
      obtain ⟨m0, m1, m2, m3, m4, m5, m6, m7, hmem⟩ := len_eight hwf.2
      dsimp only at hregs hmem
      subst hregs hmem
      clear hwf
      rw [celV_eq] at *
      refine enter Try.func5 rfl Try.ntmps5 rfl (fun a hF => ?_)
      have hW := Wd.start w NoB
      refine c_sr ?_
      refine pe (e_box hF hW rfl rfl rfl rfl ?_)
      intro b1 a wc hF hW
      refine pe (e_box hF hW rfl rfl rfl rfl ?_)
      intro b2 a wc hF hW
      refine pv hF hW (y_assign hF rfl) (fun a hF => ?_)
      refine l_nil ?_
      refine t_n ?_
      refine c_sr ?_
      refine pv hF hW (y_loadAll hF rfl 1 rfl Try.underlying42 rfl sz_42) (fun a hF => ?_)
      refine pv hF hW (y_loadAll hF rfl 0 rfl Try.underlying46 rfl sz_46) (fun a hF => ?_)
      refine pe (e_call hF rfl rfl en_21 (by rfl) rfl rfl (hstep _ hW.below) ?_)
      rintro e w1 ⟨A1, n1, rfl, hr, hb⟩
      replace hW := hW.gotR hb hr
      refine ⟨_, rfl, fun a hF => ?_⟩
      replace hF := Fr.cast (v' := .tuple #[.agg #[.int .i64 0, .int .i64 0, .int .i64 0, .int .i64 0, .int .i64 0, .int .i64 0, .int .i64 0, .int .i64 0, .int .i64 0, .int .i64 0, .int .i64 0, .int .i64 0, .int .i64 0, .int .i64 0, .slice A1 0 n1, .int .i64 0], .agg #[.int .i64 0, .int .i64 0, .int .i64 0, .int .i64 0, .int .i64 0], .int .i64 E]) rfl hF
      refine pv hF hW (y_move hF rfl) (fun a hF => ?_)
      refine pv hF hW (y_extract hF rfl rfl) (fun a hF => ?_)
      refine pv hF hW (y_extract hF rfl rfl) (fun a hF => ?_)
      refine pv hF hW (y_extract hF rfl rfl) (fun a hF => ?_)
      refine pe (e_alloc hF hW ze_46 rfl rfl rfl ?_)
      intro b3 a wc hF hW
      refine pe (e_alloc hF hW ze_48 rfl rfl rfl ?_)
      intro b4 a wc hF hW
      refine pe (e_storeAll rfl hF hW rfl rfl 1 rfl rfl rfl (by kernel_rfl) sz_46 ?_)
      intro wc hW
      refine pe (e_storeAll rfl hF hW rfl rfl 0 rfl rfl rfl (by kernel_rfl) sz_48 ?_)
      intro wc hW
      refine pv hF hW (y_assign hF rfl) (fun a hF => ?_)
      refine l_nil ?_
      replace hF := (hF.k 0 rfl (hF.k 1 rfl (hF.k 2 rfl (hF.k 3 rfl (hF.k 4 rfl (hF.k 5 rfl (hF.k 6 rfl (hF.k 7 rfl hF.nil))))))))
      refine t_n ?_
      refine c_sr ?_
      refine pv hF hW (y_loadAll hF rfl 4 rfl Try.underlying42 rfl sz_42) (fun a hF => ?_)
      refine pv hF hW (y_loadAll hF rfl 3 rfl Try.underlying46 rfl sz_46) (fun a hF => ?_)
      refine pe (e_call hF rfl rfl en_22 (by rfl) rfl rfl (herr _ hW.below) ?_)
      rintro e w1 ⟨rfl, hb⟩
      replace hW := hW.kept hb
      clear hb
      refine ⟨_, rfl, fun a hF => ?_⟩
      refine pv hF hW (y_assign hF rfl) (fun a hF => ?_)
      refine l_nil ?_
      replace hF := (hF.k 0 rfl (hF.k 1 rfl (hF.k 2 rfl (hF.k 3 rfl (hF.k 4 rfl (hF.k 5 rfl (hF.k 6 rfl (hF.k 7 rfl (hF.k 8 rfl hF.nil)))))))))
      refine t_n ?_
      refine c_sr ?_
      refine pe (e_alloc hF hW ze_46 rfl rfl rfl ?_)
      intro b5 a wc hF hW
      refine l_nil ?_
      refine t_n ?_
      refine c_sr ?_
      refine pe (e_alloc hF hW ze_48 rfl rfl rfl ?_)
      intro b6 a wc hF hW
      refine l_nil ?_
      refine t_n ?_
      refine c_s ?_
      refine c_sr ?_
      refine pv hF hW (y_move hF rfl) (fun a hF => ?_)
      refine pv hF hW (y_eql hF rfl rfl) (fun a hF => ?_)
      refine Fr.splitD hF ?_ ?_
      · intro h7 hF
        first
          | (exfalso; first | omega | (simp_all; done))
          | (refine l_nil ?_
             replace hF := (hF.k 0 rfl (hF.k 1 rfl (hF.k 2 rfl (hF.k 3 rfl (hF.k 4 rfl (hF.k 5 rfl (hF.k 6 rfl (hF.k 7 rfl (hF.k 8 rfl (hF.k 9 rfl (hF.k 10 rfl (hF.k 22 rfl hF.nil))))))))))))
             refine t_n ?_
             refine c_t hF rfl ?_
             refine c_r ?_
             refine pv hF hW (y_loadAll hF rfl 6 rfl Try.underlying42 rfl sz_42) (fun a hF => ?_)
             refine pv hF hW (y_loadAll hF rfl 5 rfl Try.underlying46 rfl sz_46) (fun a hF => ?_)
             refine pe (e_call hF rfl rfl en_23 (by rfl) rfl rfl (hnone) ?_)
             rintro e w1 ⟨A2, n2, rfl, hr, hb⟩
             replace hW := hW.gotR hb hr
             refine ⟨_, rfl, fun a hF => ?_⟩
             refine pv hF hW (y_move hF rfl) (fun a hF => ?_)
             refine pv hF hW (y_extract hF rfl rfl) (fun a hF => ?_)
             refine pv hF hW (y_extract hF rfl rfl) (fun a hF => ?_)
             refine pe (e_storeAll rfl hF hW rfl rfl 2 rfl rfl rfl (by kernel_rfl) sz_46 ?_)
             intro wc hW
             refine pe (e_storeAll rfl hF hW rfl rfl 1 rfl rfl rfl (by kernel_rfl) sz_48 ?_)
             intro wc hW
             refine l_nil ?_
             replace hF := (hF.k 0 rfl (hF.k 1 rfl (hF.k 2 rfl (hF.k 3 rfl (hF.k 4 rfl (hF.k 5 rfl (hF.k 6 rfl (hF.k 7 rfl (hF.k 8 rfl (hF.k 9 rfl (hF.k 10 rfl (hF.k 22 rfl hF.nil))))))))))))
             refine t_n ?_
             refine c_sd mixed_ok hW (hW) ?_
             clear hW; intro wc hW hS
             refine d_1 0 (by kernel_rfl) ?_
             refine d_op rfl rfl (e_call hF rfl rfl en_24 (by rfl) rfl rfl (cellBegun_any _) ?_)
             rintro e w1 ⟨rfl, hb⟩
             replace hW := hW.kept hb
             clear hb
             refine ⟨_, rfl, fun a hF => ?_⟩
             refine ⟨hW, ?_⟩
             replace hS := hW
             refine dv 1 rfl hF hS (y_move hF rfl) (fun a hF => ?_)
             refine dv 2 rfl hF hS (y_loadAll hF rfl 6 rfl Try.underlying46 rfl sz_46) (fun a hF => ?_) (ws hF rfl rfl)
             refine dv 5 rfl hF hS (y_loadAll hF rfl 6 rfl Try.underlying46 rfl sz_46) (fun a hF => ?_) (ws hF rfl rfl)
             refine d_1 3 (by kernel_rfl) ?_
             refine d_op rfl (ws hF rfl rfl) (e_call hF rfl rfl en_25 (by rfl) rfl rfl (hchk _ hW.below) ?_)
             rintro e w1 ⟨rfl, hb⟩
             replace hW := hW.kept hb
             clear hb
             refine ⟨_, rfl, fun a hF => ?_⟩
             refine ⟨hW, ?_⟩
             replace hS := hW
             refine dv 4 rfl hF hS (y_eql hF rfl rfl) (fun a hF => ?_) (ws hF rfl rfl)
             replace hF := Fr.bool (t := false) (by first | decide | (simp; done) | rfl) hF
             refine d_1 6 (by kernel_rfl) ?_
             refine d_op rfl (ws hF rfl rfl) (e_call hF rfl rfl en_26 (by rfl) rfl rfl (hfine _ hW.below) ?_)
             rintro e w1 ⟨rfl, hb⟩
             replace hW := hW.kept hb
             clear hb
             refine ⟨_, rfl, fun a hF => ?_⟩
             refine ⟨hW, ?_⟩
             replace hS := hW
             refine dv 7 rfl hF hS (y_eqb hF rfl rfl Try.underlying4) (fun a hF => ?_) (ws hF rfl rfl)
             refine Fr.splitB hF ?_ ?_
             · intro h8 hF
               first
                 | (exfalso; first | omega | (simp_all; done))
                 | (refine dv 8 rfl hF hS (y_pick hF rfl rfl) (fun a hF => ?_)
                    refine dv 9 rfl hF hS (y_move hF rfl) (fun a hF => ?_)
                    refine dv 10 rfl hF hS (y_move hF rfl) (fun a hF => ?_) (ws hF rfl rfl)
                    refine dv 11 rfl hF hS (y_move hF rfl) (fun a hF => ?_) (ws hF rfl rfl)
                    refine dv 12 rfl hF hS (y_eql hF rfl rfl) (fun a hF => ?_) (ws hF rfl rfl)
                    refine Fr.splitD hF ?_ ?_
                    · intro h9 hF
                      first
                        | (exfalso; first | omega | (simp_all; done))
                        | (refine dv 13 rfl hF hS (y_pick hF rfl rfl) (fun a hF => ?_)
                           refine dv 14 rfl hF hS (y_move hF rfl) (fun a hF => ?_)
                           refine dv 15 rfl hF hS (y_loadAll hF rfl 4 rfl Try.underlying46 rfl sz_46) (fun a hF => ?_) (ws hF rfl rfl)
                           refine dv 16 rfl hF hS (y_loadAll hF rfl 2 rfl Try.underlying46 rfl sz_46) (fun a hF => ?_) (ws hF rfl rfl)
                           refine d_1 17 (by kernel_rfl) ?_
                           refine d_op rfl (ws hF rfl rfl) (e_call hF rfl rfl en_27 (by rfl) rfl rfl (sameCells_self Cel.zero _ _ Cel.zero_wf _ (hW.res 5 rfl) Ints.nil_) ?_)
                           rintro e w1 ⟨rfl, hb⟩
                           replace hW := hW.kept hb
                           clear hb
                           refine ⟨_, rfl, fun a hF => ?_⟩
                           refine ⟨hW, ?_⟩
                           replace hS := hW
                           refine dv 18 rfl hF hS (y_pick hF rfl rfl) (fun a hF => ?_)
                           refine dv 19 rfl hF hS (y_move hF rfl) (fun a hF => ?_)
                           refine dv 20 rfl hF hS (y_loadAll hF rfl 3 rfl Try.underlying48 rfl sz_48) (fun a hF => ?_) (ws hF rfl rfl)
                           refine dv 21 rfl hF hS (y_loadAll hF rfl 1 rfl Try.underlying48 rfl sz_48) (fun a hF => ?_) (ws hF rfl rfl)
                           refine dv 22 rfl hF hS (y_bin hF rfl rfl (fun w => eqt_48 _ _ _ _ _ _ _ _ _ _ _ _ w)) (fun a hF => ?_) (ws hF rfl rfl)
                           refine Fr.splitD hF ?_ ?_
                           · intro h10 hF
                             first
                               | (exfalso; first | omega | (simp_all; done))
                               | (refine dv 23 rfl hF hS (y_pick hF rfl rfl) (fun a hF => ?_)
                                  replace hF := hF.drop 4
                                  refine dv 24 rfl hF hS (y_assign hF rfl) (fun a hF => ?_)
                                  clear hS
                                  refine d_nil (by kernel_rfl) ?_
                                  replace hF := (hF.k 0 rfl (hF.k 1 rfl (hF.k 2 rfl (hF.k 3 rfl (hF.k 4 rfl (hF.k 5 rfl (hF.k 6 rfl (hF.k 7 rfl (hF.k 8 rfl (hF.k 9 rfl (hF.k 10 rfl (hF.k 22 rfl hF.nil))))))))))))
                                  refine t_n ?_
                                  refine wp_ret ?_
                                  refine ret1 Try.results5 hF (rv_t hF rfl) ?_
                                  exact ⟨rfl, hW.below⟩)
                           · intro h10 hF
                             first
                               | (exfalso; first | omega | (simp_all; done))
                               | (refine dv 23 rfl hF hS (y_pick hF rfl rfl) (fun a hF => ?_)
                                  replace hF := hF.drop 4
                                  refine dv 24 rfl hF hS (y_assign hF rfl) (fun a hF => ?_)
                                  clear hS
                                  refine d_nil (by kernel_rfl) ?_
                                  replace hF := (hF.k 0 rfl (hF.k 1 rfl (hF.k 2 rfl (hF.k 3 rfl (hF.k 4 rfl (hF.k 5 rfl (hF.k 6 rfl (hF.k 7 rfl (hF.k 8 rfl (hF.k 9 rfl (hF.k 10 rfl (hF.k 22 rfl hF.nil))))))))))))
                                  refine t_n ?_
                                  refine wp_ret ?_
                                  refine ret1 Try.results5 hF (rv_t hF rfl) ?_
                                  exact ⟨rfl, hW.below⟩))
                    · intro h9 hF
                      first
                        | (exfalso; first | omega | (simp_all; done))
                        | (refine dv 13 rfl hF hS (y_pick hF rfl rfl) (fun a hF => ?_)
                           refine dv 14 rfl hF hS (y_move hF rfl) (fun a hF => ?_)
                           refine d_skip 15 rfl (by kernel_rfl) (by kernel_rfl) (by kernel_rfl) (fun _ _ _ h => h) hF (wn hF rfl rfl rfl) hS rfl rfl (fun a hF => ?_)
                           refine d_skip 16 rfl (by kernel_rfl) (by kernel_rfl) (by kernel_rfl) (fun _ _ _ h => h) hF (wn hF rfl rfl rfl) hS rfl rfl (fun a hF => ?_)
                           refine d_skip 17 rfl (by kernel_rfl) (by kernel_rfl) (by kernel_rfl) (fun _ _ _ h => h) hF (wn hF rfl rfl rfl) hS rfl rfl (fun a hF => ?_)
                           refine dv 18 rfl hF hS (y_pick hF rfl rfl) (fun a hF => ?_)
                           refine dv 19 rfl hF hS (y_move hF rfl) (fun a hF => ?_)
                           refine d_skip 20 rfl (by kernel_rfl) (by kernel_rfl) (by kernel_rfl) (fun _ _ _ h => h) hF (wn hF rfl rfl rfl) hS rfl rfl (fun a hF => ?_)
                           refine d_skip 21 rfl (by kernel_rfl) (by kernel_rfl) (by kernel_rfl) (fun _ _ _ h => h) hF (wn hF rfl rfl rfl) hS rfl rfl (fun a hF => ?_)
                           refine d_skip 22 rfl (by kernel_rfl) (by kernel_rfl) (by kernel_rfl) (fun _ _ _ h => h) hF (wn hF rfl rfl rfl) hS rfl rfl (fun a hF => ?_)
                           refine dv 23 rfl hF hS (y_pick hF rfl rfl) (fun a hF => ?_)
                           replace hF := hF.drop 4
                           refine dv 24 rfl hF hS (y_assign hF rfl) (fun a hF => ?_)
                           clear hS
                           refine d_nil (by kernel_rfl) ?_
                           replace hF := (hF.k 0 rfl (hF.k 1 rfl (hF.k 2 rfl (hF.k 3 rfl (hF.k 4 rfl (hF.k 5 rfl (hF.k 6 rfl (hF.k 7 rfl (hF.k 8 rfl (hF.k 9 rfl (hF.k 10 rfl (hF.k 22 rfl hF.nil))))))))))))
                           refine t_n ?_
                           refine wp_ret ?_
                           refine ret1 Try.results5 hF (rv_t hF rfl) ?_
                           exact ⟨rfl, hW.below⟩))
             · intro h8 hF
               first
                 | (exfalso; first | omega | (simp_all; done))
                 | (refine dv 8 rfl hF hS (y_pick hF rfl rfl) (fun a hF => ?_)
                    refine dv 9 rfl hF hS (y_move hF rfl) (fun a hF => ?_)
                    refine d_skip 10 rfl (by kernel_rfl) (by kernel_rfl) (by kernel_rfl) (fun _ _ _ h => h) hF (wn hF rfl rfl rfl) hS rfl rfl (fun a hF => ?_)
                    refine d_skip 11 rfl (by kernel_rfl) (by kernel_rfl) (by kernel_rfl) (fun _ _ _ h => h) hF (wn hF rfl rfl rfl) hS rfl rfl (fun a hF => ?_)
                    refine d_skip 12 rfl (by kernel_rfl) (by kernel_rfl) (by kernel_rfl) (fun _ _ _ h => h) hF (wn hF rfl rfl rfl) hS rfl rfl (fun a hF => ?_)
                    refine dv 13 rfl hF hS (y_pick hF rfl rfl) (fun a hF => ?_)
                    refine dv 14 rfl hF hS (y_move hF rfl) (fun a hF => ?_)
                    refine d_skip 15 rfl (by kernel_rfl) (by kernel_rfl) (by kernel_rfl) (fun _ _ _ h => h) hF (wn hF rfl rfl rfl) hS rfl rfl (fun a hF => ?_)
                    refine d_skip 16 rfl (by kernel_rfl) (by kernel_rfl) (by kernel_rfl) (fun _ _ _ h => h) hF (wn hF rfl rfl rfl) hS rfl rfl (fun a hF => ?_)
                    refine d_skip 17 rfl (by kernel_rfl) (by kernel_rfl) (by kernel_rfl) (fun _ _ _ h => h) hF (wn hF rfl rfl rfl) hS rfl rfl (fun a hF => ?_)
                    refine dv 18 rfl hF hS (y_pick hF rfl rfl) (fun a hF => ?_)
                    refine dv 19 rfl hF hS (y_move hF rfl) (fun a hF => ?_)
                    refine d_skip 20 rfl (by kernel_rfl) (by kernel_rfl) (by kernel_rfl) (fun _ _ _ h => h) hF (wn hF rfl rfl rfl) hS rfl rfl (fun a hF => ?_)
                    refine d_skip 21 rfl (by kernel_rfl) (by kernel_rfl) (by kernel_rfl) (fun _ _ _ h => h) hF (wn hF rfl rfl rfl) hS rfl rfl (fun a hF => ?_)
                    refine d_skip 22 rfl (by kernel_rfl) (by kernel_rfl) (by kernel_rfl) (fun _ _ _ h => h) hF (wn hF rfl rfl rfl) hS rfl rfl (fun a hF => ?_)
                    refine dv 23 rfl hF hS (y_pick hF rfl rfl) (fun a hF => ?_)
                    replace hF := hF.drop 4
                    refine dv 24 rfl hF hS (y_assign hF rfl) (fun a hF => ?_)
                    clear hS
                    refine d_nil (by kernel_rfl) ?_
                    replace hF := (hF.k 0 rfl (hF.k 1 rfl (hF.k 2 rfl (hF.k 3 rfl (hF.k 4 rfl (hF.k 5 rfl (hF.k 6 rfl (hF.k 7 rfl (hF.k 8 rfl (hF.k 9 rfl (hF.k 10 rfl (hF.k 22 rfl hF.nil))))))))))))
                    refine t_n ?_
                    refine wp_ret ?_
                    refine ret1 Try.results5 hF (rv_t hF rfl) ?_
                    exact ⟨rfl, hW.below⟩))
      · intro h7 hF
        first
          | (exfalso; first | omega | (simp_all; done))
          | (refine l_nil ?_
             replace hF := (hF.k 0 rfl (hF.k 1 rfl (hF.k 2 rfl (hF.k 3 rfl (hF.k 4 rfl (hF.k 5 rfl (hF.k 6 rfl (hF.k 7 rfl (hF.k 8 rfl (hF.k 9 rfl (hF.k 10 rfl (hF.k 22 rfl hF.nil))))))))))))
             refine t_n ?_
             refine c_f hF rfl ?_
             refine wp_skip ?_
             refine t_n ?_
             refine c_sd mixed_ok hW (hW) ?_
             clear hW; intro wc hW hS
             refine d_1 0 (by kernel_rfl) ?_
             refine d_op rfl rfl (e_call hF rfl rfl en_24 (by rfl) rfl rfl (cellBegun_any _) ?_)
             rintro e w1 ⟨rfl, hb⟩
             replace hW := hW.kept hb
             clear hb
             refine ⟨_, rfl, fun a hF => ?_⟩
             refine ⟨hW, ?_⟩
             replace hS := hW
             refine dv 1 rfl hF hS (y_move hF rfl) (fun a hF => ?_)
             refine dv 2 rfl hF hS (y_loadAll hF rfl 5 rfl Try.underlying46 rfl sz_46) (fun a hF => ?_) (ws hF rfl rfl)
             refine dv 5 rfl hF hS (y_loadAll hF rfl 5 rfl Try.underlying46 rfl sz_46) (fun a hF => ?_) (ws hF rfl rfl)
             refine d_1 3 (by kernel_rfl) ?_
             refine d_op rfl (ws hF rfl rfl) (e_call hF rfl rfl en_25 (by rfl) rfl rfl (hchk _ hW.below) ?_)
             rintro e w1 ⟨rfl, hb⟩
             replace hW := hW.kept hb
             clear hb
             refine ⟨_, rfl, fun a hF => ?_⟩
             refine ⟨hW, ?_⟩
             replace hS := hW
             refine dv 4 rfl hF hS (y_eql hF rfl rfl) (fun a hF => ?_) (ws hF rfl rfl)
             replace hF := Fr.bool (t := false) (by first | decide | (simp; done) | rfl) hF
             refine d_1 6 (by kernel_rfl) ?_
             refine d_op rfl (ws hF rfl rfl) (e_call hF rfl rfl en_26 (by rfl) rfl rfl (hfine _ hW.below) ?_)
             rintro e w1 ⟨rfl, hb⟩
             replace hW := hW.kept hb
             clear hb
             refine ⟨_, rfl, fun a hF => ?_⟩
             refine ⟨hW, ?_⟩
             replace hS := hW
             refine dv 7 rfl hF hS (y_eqb hF rfl rfl Try.underlying4) (fun a hF => ?_) (ws hF rfl rfl)
             refine Fr.splitB hF ?_ ?_
             · intro h11 hF
               first
                 | (exfalso; first | omega | (simp_all; done))
                 | (refine dv 8 rfl hF hS (y_pick hF rfl rfl) (fun a hF => ?_)
                    refine dv 9 rfl hF hS (y_move hF rfl) (fun a hF => ?_)
                    refine dv 10 rfl hF hS (y_move hF rfl) (fun a hF => ?_) (ws hF rfl rfl)
                    refine dv 11 rfl hF hS (y_move hF rfl) (fun a hF => ?_) (ws hF rfl rfl)
                    refine dv 12 rfl hF hS (y_eql hF rfl rfl) (fun a hF => ?_) (ws hF rfl rfl)
                    refine Fr.splitD hF ?_ ?_
                    · intro h12 hF
                      first
                        | (exfalso; first | omega | (simp_all; done))
                        | (refine dv 13 rfl hF hS (y_pick hF rfl rfl) (fun a hF => ?_)
                           refine dv 14 rfl hF hS (y_move hF rfl) (fun a hF => ?_)
                           refine dv 15 rfl hF hS (y_loadAll hF rfl 3 rfl Try.underlying46 rfl sz_46) (fun a hF => ?_) (ws hF rfl rfl)
                           refine dv 16 rfl hF hS (y_loadAll hF rfl 1 rfl Try.underlying46 rfl sz_46) (fun a hF => ?_) (ws hF rfl rfl)
                           refine d_1 17 (by kernel_rfl) ?_
                           refine d_op rfl (ws hF rfl rfl) (e_call hF rfl rfl en_27 (by rfl) rfl rfl (sameCells_self Cel.zero _ _ Cel.zero_wf _ (hW.res 4 rfl) Ints.nil_) ?_)
                           rintro e w1 ⟨rfl, hb⟩
                           replace hW := hW.kept hb
                           clear hb
                           refine ⟨_, rfl, fun a hF => ?_⟩
                           refine ⟨hW, ?_⟩
                           replace hS := hW
                           refine dv 18 rfl hF hS (y_pick hF rfl rfl) (fun a hF => ?_)
                           refine dv 19 rfl hF hS (y_move hF rfl) (fun a hF => ?_)
                           refine dv 20 rfl hF hS (y_loadAll hF rfl 2 rfl Try.underlying48 rfl sz_48) (fun a hF => ?_) (ws hF rfl rfl)
                           refine dv 21 rfl hF hS (y_loadAll hF rfl 0 rfl Try.underlying48 rfl sz_48) (fun a hF => ?_) (ws hF rfl rfl)
                           refine dv 22 rfl hF hS (y_bin hF rfl rfl (fun w => eqt_48 _ _ _ _ _ _ _ _ _ _ _ _ w)) (fun a hF => ?_) (ws hF rfl rfl)
                           replace hF := Fr.bool (t := true) (by first | decide | (simp; done) | rfl) hF
                           refine dv 23 rfl hF hS (y_pick hF rfl rfl) (fun a hF => ?_)
                           replace hF := Fr.bool (t := true) (by first | decide | (simp; done) | rfl) hF
                           replace hF := hF.drop 4
                           refine dv 24 rfl hF hS (y_assign hF rfl) (fun a hF => ?_)
                           replace hF := Fr.bool (t := true) (by first | decide | (simp; done) | rfl) hF
                           clear hS
                           refine d_nil (by kernel_rfl) ?_
                           replace hF := (hF.k 0 rfl (hF.k 1 rfl (hF.k 2 rfl (hF.k 3 rfl (hF.k 4 rfl (hF.k 5 rfl (hF.k 6 rfl (hF.k 7 rfl (hF.k 8 rfl (hF.k 9 rfl (hF.k 10 rfl (hF.k 22 rfl hF.nil))))))))))))
                           refine t_n ?_
                           refine wp_ret ?_
                           refine ret1 Try.results5 hF (rv_t hF rfl) ?_
                           exact ⟨rfl, hW.below⟩)
                    · intro h12 hF
                      first
                        | (exfalso; first | omega | (simp_all; done))
                        | (refine dv 13 rfl hF hS (y_pick hF rfl rfl) (fun a hF => ?_)
                           refine dv 14 rfl hF hS (y_move hF rfl) (fun a hF => ?_)
                           refine d_skip 15 rfl (by kernel_rfl) (by kernel_rfl) (by kernel_rfl) (fun _ _ _ h => h) hF (wn hF rfl rfl rfl) hS rfl rfl (fun a hF => ?_)
                           refine d_skip 16 rfl (by kernel_rfl) (by kernel_rfl) (by kernel_rfl) (fun _ _ _ h => h) hF (wn hF rfl rfl rfl) hS rfl rfl (fun a hF => ?_)
                           refine d_skip 17 rfl (by kernel_rfl) (by kernel_rfl) (by kernel_rfl) (fun _ _ _ h => h) hF (wn hF rfl rfl rfl) hS rfl rfl (fun a hF => ?_)
                           refine dv 18 rfl hF hS (y_pick hF rfl rfl) (fun a hF => ?_)
                           refine dv 19 rfl hF hS (y_move hF rfl) (fun a hF => ?_)
                           refine d_skip 20 rfl (by kernel_rfl) (by kernel_rfl) (by kernel_rfl) (fun _ _ _ h => h) hF (wn hF rfl rfl rfl) hS rfl rfl (fun a hF => ?_)
                           refine d_skip 21 rfl (by kernel_rfl) (by kernel_rfl) (by kernel_rfl) (fun _ _ _ h => h) hF (wn hF rfl rfl rfl) hS rfl rfl (fun a hF => ?_)
                           refine d_skip 22 rfl (by kernel_rfl) (by kernel_rfl) (by kernel_rfl) (fun _ _ _ h => h) hF (wn hF rfl rfl rfl) hS rfl rfl (fun a hF => ?_)
                           refine dv 23 rfl hF hS (y_pick hF rfl rfl) (fun a hF => ?_)
                           replace hF := hF.drop 4
                           refine dv 24 rfl hF hS (y_assign hF rfl) (fun a hF => ?_)
                           clear hS
                           refine d_nil (by kernel_rfl) ?_
                           replace hF := (hF.k 0 rfl (hF.k 1 rfl (hF.k 2 rfl (hF.k 3 rfl (hF.k 4 rfl (hF.k 5 rfl (hF.k 6 rfl (hF.k 7 rfl (hF.k 8 rfl (hF.k 9 rfl (hF.k 10 rfl (hF.k 22 rfl hF.nil))))))))))))
                           refine t_n ?_
                           refine wp_ret ?_
                           refine ret1 Try.results5 hF (rv_t hF rfl) ?_
                           exact ⟨rfl, hW.below⟩))
             · intro h11 hF
               first
                 | (exfalso; first | omega | (simp_all; done))
                 | (refine dv 8 rfl hF hS (y_pick hF rfl rfl) (fun a hF => ?_)
                    refine dv 9 rfl hF hS (y_move hF rfl) (fun a hF => ?_)
                    refine d_skip 10 rfl (by kernel_rfl) (by kernel_rfl) (by kernel_rfl) (fun _ _ _ h => h) hF (wn hF rfl rfl rfl) hS rfl rfl (fun a hF => ?_)
                    refine d_skip 11 rfl (by kernel_rfl) (by kernel_rfl) (by kernel_rfl) (fun _ _ _ h => h) hF (wn hF rfl rfl rfl) hS rfl rfl (fun a hF => ?_)
                    refine d_skip 12 rfl (by kernel_rfl) (by kernel_rfl) (by kernel_rfl) (fun _ _ _ h => h) hF (wn hF rfl rfl rfl) hS rfl rfl (fun a hF => ?_)
                    refine dv 13 rfl hF hS (y_pick hF rfl rfl) (fun a hF => ?_)
                    refine dv 14 rfl hF hS (y_move hF rfl) (fun a hF => ?_)
                    refine d_skip 15 rfl (by kernel_rfl) (by kernel_rfl) (by kernel_rfl) (fun _ _ _ h => h) hF (wn hF rfl rfl rfl) hS rfl rfl (fun a hF => ?_)
                    refine d_skip 16 rfl (by kernel_rfl) (by kernel_rfl) (by kernel_rfl) (fun _ _ _ h => h) hF (wn hF rfl rfl rfl) hS rfl rfl (fun a hF => ?_)
                    refine d_skip 17 rfl (by kernel_rfl) (by kernel_rfl) (by kernel_rfl) (fun _ _ _ h => h) hF (wn hF rfl rfl rfl) hS rfl rfl (fun a hF => ?_)
                    refine dv 18 rfl hF hS (y_pick hF rfl rfl) (fun a hF => ?_)
                    refine dv 19 rfl hF hS (y_move hF rfl) (fun a hF => ?_)
                    refine d_skip 20 rfl (by kernel_rfl) (by kernel_rfl) (by kernel_rfl) (fun _ _ _ h => h) hF (wn hF rfl rfl rfl) hS rfl rfl (fun a hF => ?_)
                    refine d_skip 21 rfl (by kernel_rfl) (by kernel_rfl) (by kernel_rfl) (fun _ _ _ h => h) hF (wn hF rfl rfl rfl) hS rfl rfl (fun a hF => ?_)
                    refine d_skip 22 rfl (by kernel_rfl) (by kernel_rfl) (by kernel_rfl) (fun _ _ _ h => h) hF (wn hF rfl rfl rfl) hS rfl rfl (fun a hF => ?_)
                    refine dv 23 rfl hF hS (y_pick hF rfl rfl) (fun a hF => ?_)
                    replace hF := hF.drop 4
                    refine dv 24 rfl hF hS (y_assign hF rfl) (fun a hF => ?_)
                    clear hS
                    refine d_nil (by kernel_rfl) ?_
                    replace hF := (hF.k 0 rfl (hF.k 1 rfl (hF.k 2 rfl (hF.k 3 rfl (hF.k 4 rfl (hF.k 5 rfl (hF.k 6 rfl (hF.k 7 rfl (hF.k 8 rfl (hF.k 9 rfl (hF.k 10 rfl (hF.k 22 rfl hF.nil))))))))))))
                    refine t_n ?_
                    refine wp_ret ?_
                    refine ret1 Try.results5 hF (rv_t hF rfl) ?_
                    exact ⟨rfl, hW.below⟩))

theorem cellSteps_contract (H : Type) (enc : TypeId × Value → H) (W : World) (base : Nat) (args : Array Value) (ds gs : List (DataW H)) (before : List MemPlace)
    (hval : ∀ (j : Nat) t v, Try.f5.params[j]? = some t → args[j]? = some v → Value.okWide Try.prog W .any base t v)
    (hW : DataW.Whole enc Try.prog Try.f5.params.toList Rows.cellStepsSpec.vars false W args.toList ds gs before) :
    Calls Try.prog 5 args W fun e W' => ∃ v, e = .returned v ∧ Rows.cellStepsSpec.post enc Try.prog Try.f5 false true false false W args v W' := by
  have hW' := hW
  obtain ⟨p, q, hA0, hV, rfl, hfz, hnd⟩ := hW
  have hA : DataW.TrodAll enc Try.prog W 0 (fun _ => true) true Try.f5.params.toList args.toList ds p := hA0
  rw [Try.params5] at hA hval
  obtain ⟨v0, v1, d0, d1, p0, p1, rfl, rfl, rfl, h0, h1⟩ := trodAll_two hA
  obtain ⟨cv, iv, pp, rfl, hc, hi⟩ := part_open (hval 0 42 v0 rfl rfl) h0
  obtain ⟨c, ov, rfl, hwf, ho⟩ := cell_open (hval 1 46 v1 rfl rfl) h1
  refine (cellSteps_run pp c cv iv ov W hwf ho hc hi).mono fun e W' ⟨he, hb⟩ => ?_
  subst he
  exact ⟨_, rfl, law_post Try.laidOut hW' hb rfl (by kernel_rfl) Try.underlying4 (by kernel_rfl) rfl⟩

set_option maxRecDepth 100000 in
theorem cellSteps_lifted (os : Os) (started : os.Started) (H : Type) (enc : TypeId × Value → H) :
    ReturnsInHanded {} Try.checked os 5 .any (Rows.cellStepsSpec.pre6 enc Try.prog Try.f5 Rows.cellStepsRow.domain false) (Rows.cellStepsSpec.post enc Try.prog Try.f5 false true false false) := by
  refine returnsInHanded_of_change (C := Try.checked) Try.own started (by kernel_rfl) Try.func5
    (ChangeSpec.witness6 (enc := enc) (C := Try.checked) false ⟨#[], #[.agg #[.slice none 0 0, .slice none 0 0], .agg #[.int .i64 0, .int .i64 0, .int .i64 0, .int .i64 0, .int .i64 0, .int .i64 0, .int .i64 0, .int .i64 0, .int .i64 0, .int .i64 0, .int .i64 0, .int .i64 0, .int .i64 0, .int .i64 0, .slice none 0 0, .int .i64 0]], []⟩ 8 (by kernel_rfl) (by kernel_rfl) (by kernel_rfl) (by kernel_rfl)) ?_
  intro W base args ds gs before hval hW _ _
  exact cellSteps_contract H enc W base args ds gs before hval hW

theorem cellSteps_holds : Rows.CellStepsSaid :=
  OpenClaim.holds_of_wide 5 Try.f5 rfl rfl rfl rfl rfl rfl rfl ⟨rfl, rfl, rfl, rfl, rfl⟩ rfl rfl rfl rfl rfl (by kernel_rfl) Try.func5 (by kernel_rfl)
    (of_decide_eq_true (by kernel_rfl)) (by unfold Func.isWrapper; first | (rw [if_pos (by decide +kernel)]; kernel_rfl) | (rw [if_neg (by decide +kernel)]; exact ⟨rfl, rfl⟩))
    (fun os started H enc _ => cellSteps_lifted os started H enc)
end Go.Proofs.Ytebklpbbglojmaa
