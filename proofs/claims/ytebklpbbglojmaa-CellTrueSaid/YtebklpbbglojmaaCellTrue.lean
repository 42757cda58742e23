/- The law CellTrue answers true for every input. -/
import Derived.Test.YtebklpbbglojmaaCellPlain
import Derived.Test.YtebklpbbglojmaaEngS
namespace Go.Proofs.Ytebklpbbglojmaa
open Go.ChangeShapes Go.WideShapes Go.ChangeAt Go.RowKit
theorem bs_CellTrue_22_0_  (w : World) : (Instr.buildSlice 22 0 #[]).run Try.prog w = .ok (.slice (some ⟨w.heap.size, 0, none⟩) 0 0) (w.alloc (.cells #[] 3)) := by kernel_rfl
theorem bs_CellTrue_22_1_0 (x0 : Int) (w : World) : (Instr.buildSlice 22 1 #[(0, (.int .i64 x0))]).run Try.prog w = .ok (.slice (some ⟨w.heap.size, 0, none⟩) 1 1) (w.alloc (.cells #[(.int .i64 x0)] 3)) := by kernel_rfl
theorem bu_CellTrue_42_0_1 (x0 : Option Addr) (x0n x0c : Nat) (x1 : Option Addr) (x1n x1c : Nat) (w : World) : (Instr.build 42 #[(0, (.slice x0 x0n x0c)), (1, (.slice x1 x1n x1c))]).run Try.prog w = .ok (.agg #[(.slice x0 x0n x0c), (.slice x1 x1n x1c)]) w := by kernel_rfl
theorem bu_CellTrue_48_  (w : World) : (Instr.build 48 #[]).run Try.prog w = .ok (.agg #[(.int .i64 0), (.int .i64 0), (.int .i64 0), (.int .i64 0), (.int .i64 0)]) w := by kernel_rfl
set_option maxRecDepth 100000

set_option maxHeartbeats 4000000 in
theorem cellTrue_run (p : Prt) (c : Cel) (cv iv ov : Value) (n : Int) (w : World) (hwf : c.wf) (ho : Ints w ov c.out) (hc : Code_ w cv p.code) (hi : Ints w iv p.inp) :
    Calls Try.prog 7 #[.agg #[cv, iv], celV c ov, .int .i64 n] w fun e w' => e = .returned (.bool true) ∧ Below w.heap.size w w' := by
  by_cases h0 : stepErr p c = 0
  · obtain ⟨d, k, hd⟩ : ∃ d k, stepOf p c = (d, k) := ⟨_, _, rfl⟩
    have hwd : d.wf := by have := stepOf_wf (p := p) hwf; rwa [hd] at this
    obtain ⟨hG, hE⟩ := stepOf_goes h0
    rw [hd] at hG hE
    have hGf := hG.fine
    have hGr := hG.read
    have hGt := hG.told
    have hGl := hG.len
    have hGlo := hG.lo
    have hGhi := hG.hi
    clear hG
    have hmore := fun h1 h2 => stepOf_more (n := n) h0 h1 h2
    have hstep := fun w1 (hb : Below w.heap.size w w1) => stepTo (hc.below hb) (hi.below hb) (ho.below hb) hwf h0 (fun _ => hd) (fun h => absurd rfl h)
    have hstep2 := fun w1 (hb : Below w.heap.size w w1) (v : Value) (hv : Ints w1 v (p.inp ++ [n])) (h1 : p.inp.length ≠ 12) (h2 : (p.inp.length : Int) ≠ c.read) => stepTo (p := ⟨p.code, p.inp ++ [n]⟩) (hc.below hb) hv (ho.below hb) hwf (hmore h1 h2).1 (fun _ => (hmore h1 h2).2.trans hd) (fun h => absurd rfl h)
    clear hmore
    have hce : cellErr d = 0 := by simp [cellErr, hGf]
    have hchk := fun w1 v (ho' : Ints w1 v d.out) => cellCheck_any d v hwd w1 ho'
    rw [hce] at hchk
    have hEk : c.end_ ≠ 0 → k.kind = 0 ∧ k.chan = 0 ∧ k.reg = 0 ∧ k.flag = 0 ∧ k.val = 0 := fun he => by
      have := (Prod.mk.inj (hE he)).2
      subst this
      exact ⟨rfl, rfl, rfl, rfl, rfl⟩
    have hsame : ∀ w1 v (hb : Below w.heap.size w w1) (hv : Ints w1 v d.out) (he : c.end_ ≠ 0), Calls Try.prog 27 #[celV d v, celV c ov] w1 fun e w' => e = .returned (.bool true) ∧ Below w1.heap.size w1 w' := fun w1 v hb hv he => by
      have hdc : d = c := (Prod.mk.inj (hE he)).1
      rw [hdc] at hv ⊢
      exact sameCells_self c v ov hwf w1 hv (ho.below hb)
    have hin : p.inp.length ≤ 12 := (stepErr_zero h0).2.1
    have hcr : 0 ≤ c.read ∧ c.read ≤ 12 := by
      have := (stepErr_zero h0).2.2.1
      simp only [cellFine, decide_eq_true_eq] at this
      omega
    obtain ⟨Ac, nc, rfl⟩ := hc.form rfl
    clear hE hGf hce h0 hd hc
    obtain ⟨Ai, ni, rfl⟩ := hi.form rfl
    obtain ⟨Ao, no, rfl⟩ := ho.form rfl
    have hri := hi.rowAt
    obtain ⟨dat, dregs, dmem, drd, dout, den⟩ := d
    obtain ⟨d0, d1, d2, d3, hd1⟩ := len_four hwd.1
    obtain ⟨e0, e1, e2, e3, e4, e5, e6, e7, hd2⟩ := len_eight hwd.2
    obtain ⟨kk, kc, kr, kf, kv⟩ := k
    obtain ⟨at_, regs, mem, rd, out, en⟩ := c
    obtain ⟨r0, r1, r2, r3, hregs⟩ := len_four hwf.1
    obtain ⟨m0, m1, m2, m3, m4, m5, m6, m7, hmem⟩ := len_eight hwf.2
    dsimp only at hregs hmem
    subst hregs hmem
    clear hwf
    dsimp only at *
    subst hd1 hd2
    rw [celV_eq] at *
    refine enter Try.func7 rfl Try.ntmps7 rfl (fun a hF => ?_)
    have hW := Wd.start w NoB
    refine c_sr ?_
    refine pe (e_box hF hW rfl rfl rfl rfl ?_)
    intro b1 a wc hF hW
    refine pe (e_box hF hW rfl rfl rfl rfl ?_)
    intro b2 a wc hF hW
    refine pv hF hW (y_assign hF rfl) (fun a hF => ?_)
    refine l_nil ?_
    refine t_n ?_
    refine c_sr ?_
    refine pv hF hW (y_loadAll hF rfl 1 rfl Try.underlying42 rfl sz_42) (fun a hF => ?_)
    refine pv hF hW (y_loadAll hF rfl 0 rfl Try.underlying46 rfl sz_46) (fun a hF => ?_)
    refine pe (e_call hF rfl rfl en_21 (by rfl) rfl rfl (hstep _ hW.below) ?_)
    rintro e w1 ⟨A1, n1, rfl, hr, hb⟩
    replace hW := hW.gotR hb hr
    refine ⟨_, rfl, fun a hF => ?_⟩
    replace hF := Fr.cast (v' := .tuple #[.agg #[.int .i64 dat, .int .i64 d0, .int .i64 d1, .int .i64 d2, .int .i64 d3, .int .i64 e0, .int .i64 e1, .int .i64 e2, .int .i64 e3, .int .i64 e4, .int .i64 e5, .int .i64 e6, .int .i64 e7, .int .i64 drd, .slice A1 dout.length n1, .int .i64 den], .agg #[.int .i64 kk, .int .i64 kc, .int .i64 kr, .int .i64 kf, .int .i64 kv], .int .i64 0]) rfl hF
    have hcap1 := (hW.res 0 rfl).len
    refine pv hF hW (y_move hF rfl) (fun a hF => ?_)
    refine pv hF hW (y_extract hF rfl rfl) (fun a hF => ?_)
    refine pv hF hW (y_extract hF rfl rfl) (fun a hF => ?_)
    refine pv hF hW (y_extract hF rfl rfl) (fun a hF => ?_)
    refine pe (e_alloc hF hW ze_46 rfl rfl rfl ?_)
    intro b3 a wc hF hW
    refine pe (e_alloc hF hW ze_48 rfl rfl rfl ?_)
    intro b4 a wc hF hW
    refine pe (e_storeAll rfl hF hW rfl rfl 1 rfl rfl rfl (by kernel_rfl) sz_46 ?_)
    intro wc hW
    refine pe (e_storeAll rfl hF hW rfl rfl 0 rfl rfl rfl (by kernel_rfl) sz_48 ?_)
    intro wc hW
    refine pv hF hW (y_assign hF rfl) (fun a hF => ?_)
    refine l_nil ?_
    replace hF := (hF.k 0 rfl (hF.k 1 rfl (hF.k 2 rfl (hF.k 3 rfl (hF.k 4 rfl (hF.k 6 rfl (hF.k 7 rfl (hF.k 8 rfl (hF.k 9 rfl hF.nil)))))))))
    refine t_n ?_
    refine c_s ?_
    refine c_sr ?_
    refine pv hF hW (y_move hF rfl) (fun a hF => ?_)
    refine pv hF hW (y_neq hF rfl rfl) (fun a hF => ?_)
    replace hF := Fr.bool (t := false) (by first | decide | (simp; done) | rfl) hF
    refine l_nil ?_
    replace hF := (hF.k 0 rfl (hF.k 1 rfl (hF.k 2 rfl (hF.k 3 rfl (hF.k 4 rfl (hF.k 6 rfl (hF.k 7 rfl (hF.k 8 rfl (hF.k 9 rfl (hF.k 22 rfl hF.nil))))))))))
    refine t_n ?_
    refine c_f hF rfl ?_
    refine wp_skip ?_
    refine t_n ?_
    refine c_s ?_
    refine c_sd mixed_ok hW (hW) ?_
    clear hW; intro wc hW hS
    refine dv 0 rfl hF hS (y_loadAll hF rfl 1 rfl Try.underlying46 rfl sz_46) (fun a hF => ?_)
    refine d_1 1 (by kernel_rfl) ?_
    refine d_op rfl rfl (e_call hF rfl rfl en_25 (by rfl) rfl rfl (hchk _ _ (hW.res 2 rfl)) ?_)
    rintro e w1 ⟨rfl, hb⟩
    replace hW := hW.kept hb
    clear hb
    refine ⟨_, rfl, fun a hF => ?_⟩
    refine ⟨hW, ?_⟩
    replace hS := hW
    refine dv 2 rfl hF hS (y_neq hF rfl rfl) (fun a hF => ?_)
    replace hF := Fr.bool (t := false) (by first | decide | (simp; done) | rfl) hF
    refine dv 3 rfl hF hS (y_move hF rfl) (fun a hF => ?_)
    replace hF := Fr.bool (t := false) (by first | decide | (simp; done) | rfl) hF
    refine dv 4 rfl hF hS (y_fieldOwn hF rfl fa_46_3) (fun a hF => ?_) (ws hF rfl rfl)
    refine dv 5 rfl hF hS (y_loadOwn hF rfl 1 rfl rfl Try.underlying3 rfl) (fun a hF => ?_) (ws hF rfl rfl)
    refine dv 6 rfl hF hS (y_fieldOwn hF rfl fa_42_1) (fun a hF => ?_) (ws hF rfl rfl)
    refine dv 7 rfl hF hS (y_loadOwn hF rfl 4 rfl rfl Try.underlying22 rfl) (fun a hF => ?_) (ws hF rfl rfl)
    refine dv 8 rfl hF hS (y_len hF rfl Try.underlying22) (fun a hF => ?_) (ws hF rfl rfl)
    refine dv 9 rfl hF hS (y_gtr hF rfl rfl) (fun a hF => ?_) (ws hF rfl rfl)
    refine Fr.splitD hF ?_ ?_
    · intro h5 hF
      exfalso
      omega
    · intro h5 hF
      refine dv 10 rfl hF hS (y_pick hF rfl rfl) (fun a hF => ?_)
      refine dv 11 rfl hF hS (y_move hF rfl) (fun a hF => ?_)
      refine dv 12 rfl hF hS (y_fieldOwn hF rfl fa_46_4) (fun a hF => ?_) (ws hF rfl rfl)
      refine dv 13 rfl hF hS (y_loadOwn hF rfl 1 rfl rfl Try.underlying22 rfl) (fun a hF => ?_) (ws hF rfl rfl)
      refine dv 14 rfl hF hS (y_len hF rfl Try.underlying22) (fun a hF => ?_) (ws hF rfl rfl)
      refine dv 15 rfl hF hS (y_fieldOwn hF rfl fa_46_4) (fun a hF => ?_) (ws hF rfl rfl)
      refine dv 16 rfl hF hS (y_loadOwn hF rfl 3 rfl rfl Try.underlying22 rfl) (fun a hF => ?_) (ws hF rfl rfl)
      refine dv 17 rfl hF hS (y_len hF rfl Try.underlying22) (fun a hF => ?_) (ws hF rfl rfl)
      refine dv 18 rfl hF hS (y_lss hF rfl rfl) (fun a hF => ?_) (ws hF rfl rfl)
      refine Fr.splitD hF ?_ ?_
      · intro h6 hF
        exfalso
        omega
      · intro h6 hF
        refine dv 19 rfl hF hS (y_pick hF rfl rfl) (fun a hF => ?_)
        refine dv 20 rfl hF hS (y_move hF rfl) (fun a hF => ?_)
        refine dv 21 rfl hF hS (y_fieldOwn hF rfl fa_46_4) (fun a hF => ?_) (ws hF rfl rfl)
        refine dv 22 rfl hF hS (y_loadOwn hF rfl 1 rfl rfl Try.underlying22 rfl) (fun a hF => ?_) (ws hF rfl rfl)
        refine dv 23 rfl hF hS (y_fieldOwn hF rfl fa_46_4) (fun a hF => ?_) (ws hF rfl rfl)
        refine dv 24 rfl hF hS (y_loadOwn hF rfl 3 rfl rfl Try.underlying22 rfl) (fun a hF => ?_) (ws hF rfl rfl)
        refine dv 25 rfl hF hS (y_len hF rfl Try.underlying22) (fun a hF => ?_) (ws hF rfl rfl)
        refine dv 26 rfl hF hS (y_sliceH hF rfl rfl (by first | omega | (simp; omega) | decide) Try.underlying22 sz_3) (fun a hF => ?_) (ws hF rfl rfl)
        refine dv 27 rfl hF hS (y_fieldOwn hF rfl fa_46_4) (fun a hF => ?_) (ws hF rfl rfl)
        refine dv 28 rfl hF hS (y_loadOwn hF rfl 3 rfl rfl Try.underlying22 rfl) (fun a hF => ?_) (ws hF rfl rfl)
        refine d_1 29 (by kernel_rfl) ?_
        refine d_op rfl (ws hF rfl rfl) (e_call hF rfl rfl en_19 (by rfl) rfl rfl (sameIntsB ((hW.res 2 rfl).takeS hGl) (ho.below hW.below)) ?_)
        rintro e w1 ⟨rfl, hb⟩
        replace hW := hW.kept hb
        clear hb
        refine ⟨_, rfl, fun a hF => ?_⟩
        replace hF := Fr.cast (v' := .bool true) (by simp [hGt]) hF
        refine ⟨hW, ?_⟩
        replace hS := hW
        refine dv 30 rfl hF hS (y_not hF rfl) (fun a hF => ?_) (ws hF rfl rfl)
        replace hF := Fr.bool (t := false) (by first | decide | (simp; done) | rfl) hF
        refine dv 31 rfl hF hS (y_pick hF rfl rfl) (fun a hF => ?_)
        replace hF := Fr.bool (t := false) (by first | decide | (simp; done) | rfl) hF
        refine dv 32 rfl hF hS (y_move hF rfl) (fun a hF => ?_)
        replace hF := Fr.bool (t := false) (by first | decide | (simp; done) | rfl) hF
        refine dv 33 rfl hF hS (y_fieldOwn hF rfl fa_46_3) (fun a hF => ?_) (ws hF rfl rfl)
        refine dv 34 rfl hF hS (y_loadOwn hF rfl 1 rfl rfl Try.underlying3 rfl) (fun a hF => ?_) (ws hF rfl rfl)
        refine dv 35 rfl hF hS (y_fieldOwn hF rfl fa_46_3) (fun a hF => ?_) (ws hF rfl rfl)
        refine dv 36 rfl hF hS (y_loadOwn hF rfl 3 rfl rfl Try.underlying3 rfl) (fun a hF => ?_) (ws hF rfl rfl)
        refine dv 37 rfl hF hS (y_lss hF rfl rfl) (fun a hF => ?_) (ws hF rfl rfl)
        refine Fr.splitD hF ?_ ?_
        · intro h7 hF
          exfalso
          omega
        · intro h7 hF
          refine dv 38 rfl hF hS (y_pick hF rfl rfl) (fun a hF => ?_)
          refine dv 39 rfl hF hS (y_move hF rfl) (fun a hF => ?_)
          refine dv 40 rfl hF hS (y_fieldOwn hF rfl fa_46_3) (fun a hF => ?_) (ws hF rfl rfl)
          refine dv 41 rfl hF hS (y_loadOwn hF rfl 1 rfl rfl Try.underlying3 rfl) (fun a hF => ?_) (ws hF rfl rfl)
          refine dv 42 rfl hF hS (y_fieldOwn hF rfl fa_46_3) (fun a hF => ?_) (ws hF rfl rfl)
          refine dv 43 rfl hF hS (y_loadOwn hF rfl 3 rfl rfl Try.underlying3 rfl) (fun a hF => ?_) (ws hF rfl rfl)
          refine dv 44 rfl hF hS (y_add hF rfl rfl (IntWalk.i64_in _ (by omega))) (fun a hF => ?_) (ws hF rfl rfl)
          refine dv 45 rfl hF hS (y_gtr hF rfl rfl) (fun a hF => ?_) (ws hF rfl rfl)
          refine Fr.splitD hF ?_ ?_
          · intro h8 hF
            exfalso
            omega
          · intro h8 hF
            refine dv 46 rfl hF hS (y_pick hF rfl rfl) (fun a hF => ?_)
            clear hS
            refine d_nil (by kernel_rfl) ?_
            replace hF := (hF.k 0 rfl (hF.k 1 rfl (hF.k 2 rfl (hF.k 3 rfl (hF.k 4 rfl (hF.k 6 rfl (hF.k 7 rfl (hF.k 8 rfl (hF.k 9 rfl (hF.k 22 rfl (hF.k 70 rfl hF.nil)))))))))))
            refine t_n ?_
            refine c_f hF rfl ?_
            refine wp_skip ?_
            refine t_n ?_
            refine c_cut (G := Unit) (fun _ : Unit => [(84, .bool false)]) (fun _ : Unit => []) (fun _ : Unit => True) (Fr.cons hF (t := 0) rfl rfl (Fr.cons hF (t := 1) rfl rfl (Fr.cons hF (t := 2) rfl rfl (Fr.cons hF (t := 3) rfl rfl (Fr.cons hF (t := 4) rfl rfl (Fr.cons hF (t := 7) rfl rfl (Fr.cons hF (t := 8) rfl rfl (Fr.cons hF (t := 9) rfl rfl (Fr.cons hF (t := 22) rfl rfl (Fr.cons hF (t := 70) rfl rfl (Fr.nil hF))))))))))) hW ?_ ?_
            · refine c_sr ?_
              refine pv hF hW (y_fieldOwn hF rfl fa_46_5) (fun a hF => ?_)
              refine pv hF hW (y_loadOwn hF rfl 3 rfl rfl Try.underlying3 rfl) (fun a hF => ?_)
              refine pv hF hW (y_neq hF rfl rfl) (fun a hF => ?_)
              refine Fr.splitD hF ?_ ?_
              · intro h9 hF
                refine pv hF hW (y_move hF rfl) (fun a hF => ?_)
                refine pv hF hW (y_loadAll hF rfl 1 rfl Try.underlying46 rfl sz_46) (fun a hF => ?_) (ws hF rfl rfl)
                refine pv hF hW (y_loadAll hF rfl 3 rfl Try.underlying46 rfl sz_46) (fun a hF => ?_) (ws hF rfl rfl)
                refine pe (e_call hF rfl rfl en_27 (by rfl) rfl rfl (hsame _ _ hW.below (hW.res 2 rfl) (by assumption)) ?_) (ws hF rfl rfl)
                rintro e w1 ⟨rfl, hb⟩
                replace hW := hW.kept hb
                clear hb
                refine ⟨_, rfl, fun a hF => ?_⟩
                refine pv hF hW (y_not hF rfl) (fun a hF => ?_) (ws hF rfl rfl)
                replace hF := Fr.bool (t := false) (by first | decide | (simp; done) | rfl) hF
                refine pv hF hW (y_move hF rfl) (fun a hF => ?_) (ws hF rfl rfl)
                replace hF := Fr.bool (t := false) (by first | decide | (simp; done) | rfl) hF
                refine pv hF hW (y_loadAll hF rfl 0 rfl Try.underlying48 rfl sz_48) (fun a hF => ?_) (ws hF rfl rfl)
                refine pv hF hW (y_build hF rfl (fun w => bu_CellTrue_48_  w)) (fun a hF => ?_) (ws hF rfl rfl)
                refine pv hF hW (y_bin hF rfl rfl (fun w => net_48 _ _ _ _ _ _ _ _ _ _ _ _ w)) (fun a hF => ?_) (ws hF rfl rfl)
                refine Fr.splitD hF ?_ ?_
                · intro h10 hF
                  exfalso
                  omega
                · intro h10 hF
                  refine pv hF hW (y_pick hF rfl rfl) (fun a hF => ?_) (ws hF rfl rfl)
                  refine pv hF hW (y_pick hF rfl rfl) (fun a hF => ?_)
                  refine l_nil ?_
                  replace hF := (hF.k 0 rfl (hF.k 1 rfl (hF.k 2 rfl (hF.k 3 rfl (hF.k 4 rfl (hF.k 6 rfl (hF.k 7 rfl (hF.k 8 rfl (hF.k 9 rfl (hF.k 22 rfl (hF.k 70 rfl (hF.k 84 rfl hF.nil))))))))))))
                  refine t_n ?_
                  refine c_f hF rfl ?_
                  refine wp_skip ?_
                  refine t_n ?_
                  refine ⟨(), ?_, ?_, ?_⟩
                  · exact Fr.app (Fr.cons hF (t := 84) rfl rfl (Fr.nil hF)) (Fr.cons hF (t := 0) rfl rfl (Fr.cons hF (t := 1) rfl rfl (Fr.cons hF (t := 2) rfl rfl (Fr.cons hF (t := 3) rfl rfl (Fr.cons hF (t := 4) rfl rfl (Fr.cons hF (t := 7) rfl rfl (Fr.cons hF (t := 8) rfl rfl (Fr.cons hF (t := 9) rfl rfl (Fr.cons hF (t := 22) rfl rfl (Fr.cons hF (t := 70) rfl rfl (Fr.nil hF)))))))))))
                  · exact hW
                  · trivial
              · intro h9 hF
                refine pv hF hW (y_move hF rfl) (fun a hF => ?_)
                refine p_skip hF (wn hF rfl rfl rfl) rfl rfl (fun a hF => ?_)
                refine p_skip hF (wn hF rfl rfl rfl) rfl rfl (fun a hF => ?_)
                refine p_skip hF (wn hF rfl rfl rfl) rfl rfl (fun a hF => ?_)
                refine p_skip hF (wn hF rfl rfl rfl) rfl rfl (fun a hF => ?_)
                refine p_skip hF (wn hF rfl rfl rfl) rfl rfl (fun a hF => ?_)
                refine p_skip hF (wu hF rfl rfl) rfl rfl (fun a hF => ?_)
                refine p_skip hF (wu hF rfl rfl) rfl rfl (fun a hF => ?_)
                refine p_skip hF (wu hF rfl rfl) rfl rfl (fun a hF => ?_)
                refine p_skip hF (wn hF rfl rfl rfl) rfl rfl (fun a hF => ?_)
                refine pv hF hW (y_pick hF rfl rfl) (fun a hF => ?_)
                refine l_nil ?_
                replace hF := (hF.k 0 rfl (hF.k 1 rfl (hF.k 2 rfl (hF.k 3 rfl (hF.k 4 rfl (hF.k 6 rfl (hF.k 7 rfl (hF.k 8 rfl (hF.k 9 rfl (hF.k 22 rfl (hF.k 70 rfl (hF.k 84 rfl hF.nil))))))))))))
                refine t_n ?_
                refine c_f hF rfl ?_
                refine wp_skip ?_
                refine t_n ?_
                refine ⟨(), ?_, ?_, ?_⟩
                · exact Fr.app (Fr.cons hF (t := 84) rfl rfl (Fr.nil hF)) (Fr.cons hF (t := 0) rfl rfl (Fr.cons hF (t := 1) rfl rfl (Fr.cons hF (t := 2) rfl rfl (Fr.cons hF (t := 3) rfl rfl (Fr.cons hF (t := 4) rfl rfl (Fr.cons hF (t := 7) rfl rfl (Fr.cons hF (t := 8) rfl rfl (Fr.cons hF (t := 9) rfl rfl (Fr.cons hF (t := 22) rfl rfl (Fr.cons hF (t := 70) rfl rfl (Fr.nil hF)))))))))))
                · exact hW
                · trivial
            · clear hF hW
              clear a
              intro q a wc hC hF hW
              clear hC
              refine c_s ?_
              refine c_sr ?_
              refine pv hF hW (y_fieldOwn hF rfl fa_42_1) (fun a hF => ?_)
              refine pv hF hW (y_loadOwn hF rfl 4 rfl rfl Try.underlying22 rfl) (fun a hF => ?_)
              refine pv hF hW (y_len hF rfl Try.underlying22) (fun a hF => ?_)
              refine pv hF hW (y_eql hF rfl rfl) (fun a hF => ?_)
              refine Fr.splitD hF ?_ ?_
              · intro h11 hF
                refine pv hF hW (y_move hF rfl) (fun a hF => ?_)
                refine p_skip hF (wn hF rfl rfl rfl) rfl rfl (fun a hF => ?_)
                refine p_skip hF (wn hF rfl rfl rfl) rfl rfl (fun a hF => ?_)
                refine p_skip hF (wn hF rfl rfl rfl) rfl rfl (fun a hF => ?_)
                refine p_skip hF (wn hF rfl rfl rfl) rfl rfl (fun a hF => ?_)
                refine p_skip hF (wn hF rfl rfl rfl) rfl rfl (fun a hF => ?_)
                refine p_skip hF (wn hF rfl rfl rfl) rfl rfl (fun a hF => ?_)
                refine pv hF hW (y_pick hF rfl rfl) (fun a hF => ?_)
                refine l_nil ?_
                replace hF := (hF.k 0 rfl (hF.k 1 rfl (hF.k 2 rfl (hF.k 3 rfl (hF.k 4 rfl (hF.k 7 rfl (hF.k 8 rfl (hF.k 9 rfl (hF.k 22 rfl (hF.k 70 rfl (hF.k 84 rfl (hF.k 96 rfl hF.nil))))))))))))
                refine t_n ?_
                refine c_t hF rfl ?_
                refine c_sr ?_
                refine pe (e_call hF rfl rfl en_24 (by rfl) rfl rfl (cellBegun_any _) ?_)
                rintro e w1 ⟨rfl, hb⟩
                replace hW := hW.kept hb
                clear hb
                refine ⟨_, rfl, fun a hF => ?_⟩
                refine pv hF hW (y_assign hF rfl) (fun a hF => ?_)
                refine l_nil ?_
                replace hF := (hF.k 0 rfl (hF.k 1 rfl (hF.k 2 rfl (hF.k 3 rfl (hF.k 4 rfl (hF.k 6 rfl (hF.k 7 rfl (hF.k 8 rfl (hF.k 9 rfl (hF.k 22 rfl (hF.k 70 rfl (hF.k 84 rfl (hF.k 96 rfl hF.nil)))))))))))))
                refine t_n ?_
                refine wp_ret ?_
                refine t_r ?_
                refine ret1 Try.results7 hF (rv_t hF rfl) ?_
                exact ⟨rfl, hW.below⟩
              · intro h11 hF
                refine pv hF hW (y_move hF rfl) (fun a hF => ?_)
                refine pv hF hW (y_fieldOwn hF rfl fa_42_1) (fun a hF => ?_) (ws hF rfl rfl)
                refine pv hF hW (y_loadOwn hF rfl 4 rfl rfl Try.underlying22 rfl) (fun a hF => ?_) (ws hF rfl rfl)
                refine pv hF hW (y_len hF rfl Try.underlying22) (fun a hF => ?_) (ws hF rfl rfl)
                refine pv hF hW (y_fieldOwn hF rfl fa_46_3) (fun a hF => ?_) (ws hF rfl rfl)
                refine pv hF hW (y_loadOwn hF rfl 3 rfl rfl Try.underlying3 rfl) (fun a hF => ?_) (ws hF rfl rfl)
                refine pv hF hW (y_eql hF rfl rfl) (fun a hF => ?_) (ws hF rfl rfl)
                refine Fr.splitD hF ?_ ?_
                · intro h12 hF
                  refine pv hF hW (y_pick hF rfl rfl) (fun a hF => ?_)
                  refine l_nil ?_
                  replace hF := (hF.k 0 rfl (hF.k 1 rfl (hF.k 2 rfl (hF.k 3 rfl (hF.k 4 rfl (hF.k 7 rfl (hF.k 8 rfl (hF.k 9 rfl (hF.k 22 rfl (hF.k 70 rfl (hF.k 84 rfl (hF.k 96 rfl hF.nil))))))))))))
                  refine t_n ?_
                  refine c_t hF rfl ?_
                  refine c_sr ?_
                  refine pe (e_call hF rfl rfl en_24 (by rfl) rfl rfl (cellBegun_any _) ?_)
                  rintro e w1 ⟨rfl, hb⟩
                  replace hW := hW.kept hb
                  clear hb
                  refine ⟨_, rfl, fun a hF => ?_⟩
                  refine pv hF hW (y_assign hF rfl) (fun a hF => ?_)
                  refine l_nil ?_
                  replace hF := (hF.k 0 rfl (hF.k 1 rfl (hF.k 2 rfl (hF.k 3 rfl (hF.k 4 rfl (hF.k 6 rfl (hF.k 7 rfl (hF.k 8 rfl (hF.k 9 rfl (hF.k 22 rfl (hF.k 70 rfl (hF.k 84 rfl (hF.k 96 rfl hF.nil)))))))))))))
                  refine t_n ?_
                  refine wp_ret ?_
                  refine t_r ?_
                  refine ret1 Try.results7 hF (rv_t hF rfl) ?_
                  exact ⟨rfl, hW.below⟩
                · intro h12 hF
                  refine pv hF hW (y_pick hF rfl rfl) (fun a hF => ?_)
                  refine l_nil ?_
                  replace hF := (hF.k 0 rfl (hF.k 1 rfl (hF.k 2 rfl (hF.k 3 rfl (hF.k 4 rfl (hF.k 7 rfl (hF.k 8 rfl (hF.k 9 rfl (hF.k 22 rfl (hF.k 70 rfl (hF.k 84 rfl (hF.k 96 rfl hF.nil))))))))))))
                  refine t_n ?_
                  refine c_f hF rfl ?_
                  refine wp_skip ?_
                  refine t_n ?_
                  refine c_cut (G := Nat × Option Addr × Nat) (fun (q : Nat × Option Addr × Nat) => match q with | ⟨b, A, c⟩ => [(10, .pointer (some ⟨b, 0, none⟩))]) (fun (q : Nat × Option Addr × Nat) => match q with | ⟨b, A, c⟩ => [.blk b 42 [.slice Ac p.code.length nc, .slice A (p.inp.length + 1) c], .row 3 1 (.slice A (p.inp.length + 1) c) (p.inp.length + 1) ((p.inp ++ [n]).map (.int .i64))]) (fun (q : Nat × Option Addr × Nat) => match q with | ⟨b, A, c⟩ => True) (Fr.cons hF (t := 0) rfl rfl (Fr.cons hF (t := 1) rfl rfl (Fr.cons hF (t := 2) rfl rfl (Fr.cons hF (t := 3) rfl rfl (Fr.cons hF (t := 4) rfl rfl (Fr.cons hF (t := 7) rfl rfl (Fr.cons hF (t := 8) rfl rfl (Fr.cons hF (t := 9) rfl rfl (Fr.cons hF (t := 22) rfl rfl (Fr.cons hF (t := 70) rfl rfl (Fr.cons hF (t := 84) rfl rfl (Fr.cons hF (t := 96) rfl rfl (Fr.nil hF))))))))))))) hW ?_ ?_
                  · refine c_d mixed_ok hW (hW) ?_
                    clear hW; intro wc hW hS
                    refine dv 0 rfl hF hS (y_fieldOwn hF rfl fa_42_0) (fun a hF => ?_)
                    refine dv 1 rfl hF hS (y_loadOwn hF rfl 4 rfl rfl Try.underlying40 rfl) (fun a hF => ?_)
                    refine dv 3 rfl hF hS (y_fieldOwn hF rfl fa_42_1) (fun a hF => ?_)
                    refine dv 4 rfl hF hS (y_loadOwn hF rfl 4 rfl rfl Try.underlying22 rfl) (fun a hF => ?_)
                    refine dv 6 rfl hF hS (y_move hF rfl) (fun a hF => ?_)
                    refine d_3 2 7 10 (by kernel_rfl) ?_ ?_ ?_
                    · refine d_op rfl rfl (e_buildSlice hF hW rfl (fun w => bs_CellTrue_22_0_  w) rfl rfl rfl ?_)
                      intro b13 a wc hF hW
                      refine ⟨(hW.del 0 rfl), ?_⟩
                      replace hS := (hW.del 0 rfl)
                      refine d_3 5 7 10 (by kernel_rfl) ?_ ?_ ?_
                      · replace hW := hW.blk_row 0 rfl 1 0 rfl (by simp)
                        refine d_op rfl rfl (e_append hF hW 0 rfl rfl rfl Try.underlying22 inf_3 rfl (by decide) (hri.below hW.below) (by simp [Value.oneCell']) (show _ = p.inp.length by omega) (show _ = p.inp.map (.int .i64) by simp) (by omega) (by unfold maxLen; omega) rfl rfl ?_)
                        intro A14 c15 a wc hF hW
                        refine ⟨(hW.del 0 rfl), ?_⟩
                        replace hS := (hW.del 0 rfl)
                        refine d_2 7 10 (by kernel_rfl) ?_ ?_
                        · refine d_op rfl rfl (e_buildSlice hF hW rfl (fun w => bs_CellTrue_22_1_0 _ w) rfl rfl rfl ?_)
                          intro b16 a wc hF hW
                          refine ⟨((hW.del 0 rfl).del 0 rfl), ?_⟩
                          replace hS := ((hW.del 0 rfl).del 0 rfl)
                          refine d_2 8 10 (by kernel_rfl) ?_ ?_
                          · refine d_op rfl rfl (e_append hF hW 1 rfl rfl rfl Try.underlying22 inf_3 rfl (by decide) (rowAt_blk (hW.blk 0 rfl) 1 1 rfl) (by simp [Value.oneCell']) (show _ = p.inp.length + 1 by omega) (show _ = (p.inp ++ [n]).map (.int .i64) by simp) (by omega) (by unfold maxLen; omega) rfl rfl ?_)
                            intro A17 c18 a wc hF hW
                            refine ⟨((hW.del 0 rfl).del 0 rfl), ?_⟩
                            replace hS := ((hW.del 0 rfl).del 0 rfl)
                            refine dv 9 rfl hF hS (y_build hF rfl (fun w => bu_CellTrue_42_0_1 _ _ _ _ _ _ w)) (fun a hF => ?_)
                            refine d_1 10 (by kernel_rfl) ?_
                            refine d_op rfl rfl (e_alloc hF hW ze_42 rfl rfl rfl ?_)
                            intro b19 a wc hF hW
                            refine ⟨(((hW.del 0 rfl).del 0 rfl).del 0 rfl), ?_⟩
                            replace hS := (((hW.del 0 rfl).del 0 rfl).del 0 rfl)
                            refine d_1 11 (by kernel_rfl) ?_
                            refine d_op rfl rfl (e_storeAll rfl hF hW rfl rfl 0 rfl rfl rfl (by kernel_rfl) sz_42 ?_)
                            intro wc hW
                            refine ⟨(((hW.del 0 rfl).del 0 rfl).del 0 rfl), ?_⟩
                            replace hS := (((hW.del 0 rfl).del 0 rfl).del 0 rfl)
                            clear hS
                            refine d_nil (by kernel_rfl) ?_
                            replace hF := (hF.k 0 rfl (hF.k 1 rfl (hF.k 2 rfl (hF.k 3 rfl (hF.k 4 rfl (hF.k 7 rfl (hF.k 8 rfl (hF.k 9 rfl (hF.k 10 rfl (hF.k 22 rfl (hF.k 70 rfl (hF.k 84 rfl (hF.k 96 rfl hF.nil)))))))))))))
                            replace hW := hW.del 1 rfl
                            refine t_n ?_
                            refine ⟨(b19, A17, c18), ?_, ?_, ?_⟩
                            · exact Fr.app (Fr.cons hF (t := 10) rfl rfl (Fr.nil hF)) (Fr.cons hF (t := 0) rfl rfl (Fr.cons hF (t := 1) rfl rfl (Fr.cons hF (t := 2) rfl rfl (Fr.cons hF (t := 3) rfl rfl (Fr.cons hF (t := 4) rfl rfl (Fr.cons hF (t := 7) rfl rfl (Fr.cons hF (t := 8) rfl rfl (Fr.cons hF (t := 9) rfl rfl (Fr.cons hF (t := 22) rfl rfl (Fr.cons hF (t := 70) rfl rfl (Fr.cons hF (t := 84) rfl rfl (Fr.cons hF (t := 96) rfl rfl (Fr.nil hF)))))))))))))
                            · exact hW
                            · trivial
                          · refine d_op rfl rfl (e_alloc hF hW ze_42 rfl rfl rfl ?_)
                            intro b20 a wc hF hW
                            refine ⟨(((hW.del 0 rfl).del 0 rfl).del 0 rfl), ?_⟩
                            replace hS := (((hW.del 0 rfl).del 0 rfl).del 0 rfl)
                            refine d_1 8 (by kernel_rfl) ?_
                            refine d_op rfl rfl (e_append hF hW 2 rfl rfl rfl Try.underlying22 inf_3 rfl (by decide) (rowAt_blk (hW.blk 1 rfl) 1 1 rfl) (by simp [Value.oneCell']) (show _ = p.inp.length + 1 by omega) (show _ = (p.inp ++ [n]).map (.int .i64) by simp) (by omega) (by unfold maxLen; omega) rfl rfl ?_)
                            intro A21 c22 a wc hF hW
                            refine ⟨(((hW.del 0 rfl).del 0 rfl).del 0 rfl), ?_⟩
                            replace hS := (((hW.del 0 rfl).del 0 rfl).del 0 rfl)
                            refine dv 9 rfl hF hS (y_build hF rfl (fun w => bu_CellTrue_42_0_1 _ _ _ _ _ _ w)) (fun a hF => ?_)
                            refine d_1 11 (by kernel_rfl) ?_
                            refine d_op rfl rfl (e_storeAll rfl hF hW rfl rfl 0 rfl rfl rfl (by kernel_rfl) sz_42 ?_)
                            intro wc hW
                            refine ⟨(((hW.del 0 rfl).del 0 rfl).del 0 rfl), ?_⟩
                            replace hS := (((hW.del 0 rfl).del 0 rfl).del 0 rfl)
                            clear hS
                            refine d_nil (by kernel_rfl) ?_
                            replace hF := (hF.k 0 rfl (hF.k 1 rfl (hF.k 2 rfl (hF.k 3 rfl (hF.k 4 rfl (hF.k 7 rfl (hF.k 8 rfl (hF.k 9 rfl (hF.k 10 rfl (hF.k 22 rfl (hF.k 70 rfl (hF.k 84 rfl (hF.k 96 rfl hF.nil)))))))))))))
                            replace hW := hW.del 1 rfl
                            refine t_n ?_
                            refine ⟨(b20, A21, c22), ?_, ?_, ?_⟩
                            · exact Fr.app (Fr.cons hF (t := 10) rfl rfl (Fr.nil hF)) (Fr.cons hF (t := 0) rfl rfl (Fr.cons hF (t := 1) rfl rfl (Fr.cons hF (t := 2) rfl rfl (Fr.cons hF (t := 3) rfl rfl (Fr.cons hF (t := 4) rfl rfl (Fr.cons hF (t := 7) rfl rfl (Fr.cons hF (t := 8) rfl rfl (Fr.cons hF (t := 9) rfl rfl (Fr.cons hF (t := 22) rfl rfl (Fr.cons hF (t := 70) rfl rfl (Fr.cons hF (t := 84) rfl rfl (Fr.cons hF (t := 96) rfl rfl (Fr.nil hF)))))))))))))
                            · exact hW
                            · trivial
                        · refine d_op rfl rfl (e_alloc hF hW ze_42 rfl rfl rfl ?_)
                          intro b23 a wc hF hW
                          refine ⟨((hW.del 0 rfl).del 0 rfl), ?_⟩
                          replace hS := ((hW.del 0 rfl).del 0 rfl)
                          refine d_1 7 (by kernel_rfl) ?_
                          refine d_op rfl rfl (e_buildSlice hF hW rfl (fun w => bs_CellTrue_22_1_0 _ w) rfl rfl rfl ?_)
                          intro b24 a wc hF hW
                          refine ⟨(((hW.del 0 rfl).del 0 rfl).del 0 rfl), ?_⟩
                          replace hS := (((hW.del 0 rfl).del 0 rfl).del 0 rfl)
                          refine d_1 8 (by kernel_rfl) ?_
                          refine d_op rfl rfl (e_append hF hW 2 rfl rfl rfl Try.underlying22 inf_3 rfl (by decide) (rowAt_blk (hW.blk 0 rfl) 1 1 rfl) (by simp [Value.oneCell']) (show _ = p.inp.length + 1 by omega) (show _ = (p.inp ++ [n]).map (.int .i64) by simp) (by omega) (by unfold maxLen; omega) rfl rfl ?_)
                          intro A25 c26 a wc hF hW
                          refine ⟨(((hW.del 0 rfl).del 0 rfl).del 0 rfl), ?_⟩
                          replace hS := (((hW.del 0 rfl).del 0 rfl).del 0 rfl)
                          refine dv 9 rfl hF hS (y_build hF rfl (fun w => bu_CellTrue_42_0_1 _ _ _ _ _ _ w)) (fun a hF => ?_)
                          refine d_1 11 (by kernel_rfl) ?_
                          refine d_op rfl rfl (e_storeAll rfl hF hW rfl rfl 1 rfl rfl rfl (by kernel_rfl) sz_42 ?_)
                          intro wc hW
                          refine ⟨(((hW.del 0 rfl).del 0 rfl).del 0 rfl), ?_⟩
                          replace hS := (((hW.del 0 rfl).del 0 rfl).del 0 rfl)
                          clear hS
                          refine d_nil (by kernel_rfl) ?_
                          replace hF := (hF.k 0 rfl (hF.k 1 rfl (hF.k 2 rfl (hF.k 3 rfl (hF.k 4 rfl (hF.k 7 rfl (hF.k 8 rfl (hF.k 9 rfl (hF.k 10 rfl (hF.k 22 rfl (hF.k 70 rfl (hF.k 84 rfl (hF.k 96 rfl hF.nil)))))))))))))
                          replace hW := hW.del 0 rfl
                          refine t_n ?_
                          refine ⟨(b23, A25, c26), ?_, ?_, ?_⟩
                          · exact Fr.app (Fr.cons hF (t := 10) rfl rfl (Fr.nil hF)) (Fr.cons hF (t := 0) rfl rfl (Fr.cons hF (t := 1) rfl rfl (Fr.cons hF (t := 2) rfl rfl (Fr.cons hF (t := 3) rfl rfl (Fr.cons hF (t := 4) rfl rfl (Fr.cons hF (t := 7) rfl rfl (Fr.cons hF (t := 8) rfl rfl (Fr.cons hF (t := 9) rfl rfl (Fr.cons hF (t := 22) rfl rfl (Fr.cons hF (t := 70) rfl rfl (Fr.cons hF (t := 84) rfl rfl (Fr.cons hF (t := 96) rfl rfl (Fr.nil hF)))))))))))))
                          · exact hW
                          · trivial
                      · refine d_op rfl rfl (e_buildSlice hF hW rfl (fun w => bs_CellTrue_22_1_0 _ w) rfl rfl rfl ?_)
                        intro b27 a wc hF hW
                        refine ⟨((hW.del 0 rfl).del 0 rfl), ?_⟩
                        replace hS := ((hW.del 0 rfl).del 0 rfl)
                        refine d_2 5 10 (by kernel_rfl) ?_ ?_
                        · replace hW := hW.blk_row 1 rfl 1 0 rfl (by simp)
                          refine d_op rfl rfl (e_append hF hW 1 rfl rfl rfl Try.underlying22 inf_3 rfl (by decide) (hri.below hW.below) (by simp [Value.oneCell']) (show _ = p.inp.length by omega) (show _ = p.inp.map (.int .i64) by simp) (by omega) (by unfold maxLen; omega) rfl rfl ?_)
                          intro A28 c29 a wc hF hW
                          refine ⟨((hW.del 0 rfl).del 0 rfl), ?_⟩
                          replace hS := ((hW.del 0 rfl).del 0 rfl)
                          refine d_2 8 10 (by kernel_rfl) ?_ ?_
                          · refine d_op rfl rfl (e_append hF hW 1 rfl rfl rfl Try.underlying22 inf_3 rfl (by decide) (rowAt_blk (hW.blk 0 rfl) 1 1 rfl) (by simp [Value.oneCell']) (show _ = p.inp.length + 1 by omega) (show _ = (p.inp ++ [n]).map (.int .i64) by simp) (by omega) (by unfold maxLen; omega) rfl rfl ?_)
                            intro A30 c31 a wc hF hW
                            refine ⟨((hW.del 0 rfl).del 0 rfl), ?_⟩
                            replace hS := ((hW.del 0 rfl).del 0 rfl)
                            refine dv 9 rfl hF hS (y_build hF rfl (fun w => bu_CellTrue_42_0_1 _ _ _ _ _ _ w)) (fun a hF => ?_)
                            refine d_1 10 (by kernel_rfl) ?_
                            refine d_op rfl rfl (e_alloc hF hW ze_42 rfl rfl rfl ?_)
                            intro b32 a wc hF hW
                            refine ⟨(((hW.del 0 rfl).del 0 rfl).del 0 rfl), ?_⟩
                            replace hS := (((hW.del 0 rfl).del 0 rfl).del 0 rfl)
                            refine d_1 11 (by kernel_rfl) ?_
                            refine d_op rfl rfl (e_storeAll rfl hF hW rfl rfl 0 rfl rfl rfl (by kernel_rfl) sz_42 ?_)
                            intro wc hW
                            refine ⟨(((hW.del 0 rfl).del 0 rfl).del 0 rfl), ?_⟩
                            replace hS := (((hW.del 0 rfl).del 0 rfl).del 0 rfl)
                            clear hS
                            refine d_nil (by kernel_rfl) ?_
                            replace hF := (hF.k 0 rfl (hF.k 1 rfl (hF.k 2 rfl (hF.k 3 rfl (hF.k 4 rfl (hF.k 7 rfl (hF.k 8 rfl (hF.k 9 rfl (hF.k 10 rfl (hF.k 22 rfl (hF.k 70 rfl (hF.k 84 rfl (hF.k 96 rfl hF.nil)))))))))))))
                            replace hW := hW.del 1 rfl
                            refine t_n ?_
                            refine ⟨(b32, A30, c31), ?_, ?_, ?_⟩
                            · exact Fr.app (Fr.cons hF (t := 10) rfl rfl (Fr.nil hF)) (Fr.cons hF (t := 0) rfl rfl (Fr.cons hF (t := 1) rfl rfl (Fr.cons hF (t := 2) rfl rfl (Fr.cons hF (t := 3) rfl rfl (Fr.cons hF (t := 4) rfl rfl (Fr.cons hF (t := 7) rfl rfl (Fr.cons hF (t := 8) rfl rfl (Fr.cons hF (t := 9) rfl rfl (Fr.cons hF (t := 22) rfl rfl (Fr.cons hF (t := 70) rfl rfl (Fr.cons hF (t := 84) rfl rfl (Fr.cons hF (t := 96) rfl rfl (Fr.nil hF)))))))))))))
                            · exact hW
                            · trivial
                          · refine d_op rfl rfl (e_alloc hF hW ze_42 rfl rfl rfl ?_)
                            intro b33 a wc hF hW
                            refine ⟨(((hW.del 0 rfl).del 0 rfl).del 0 rfl), ?_⟩
                            replace hS := (((hW.del 0 rfl).del 0 rfl).del 0 rfl)
                            refine d_1 8 (by kernel_rfl) ?_
                            refine d_op rfl rfl (e_append hF hW 2 rfl rfl rfl Try.underlying22 inf_3 rfl (by decide) (rowAt_blk (hW.blk 1 rfl) 1 1 rfl) (by simp [Value.oneCell']) (show _ = p.inp.length + 1 by omega) (show _ = (p.inp ++ [n]).map (.int .i64) by simp) (by omega) (by unfold maxLen; omega) rfl rfl ?_)
                            intro A34 c35 a wc hF hW
                            refine ⟨(((hW.del 0 rfl).del 0 rfl).del 0 rfl), ?_⟩
                            replace hS := (((hW.del 0 rfl).del 0 rfl).del 0 rfl)
                            refine dv 9 rfl hF hS (y_build hF rfl (fun w => bu_CellTrue_42_0_1 _ _ _ _ _ _ w)) (fun a hF => ?_)
                            refine d_1 11 (by kernel_rfl) ?_
                            refine d_op rfl rfl (e_storeAll rfl hF hW rfl rfl 0 rfl rfl rfl (by kernel_rfl) sz_42 ?_)
                            intro wc hW
                            refine ⟨(((hW.del 0 rfl).del 0 rfl).del 0 rfl), ?_⟩
                            replace hS := (((hW.del 0 rfl).del 0 rfl).del 0 rfl)
                            clear hS
                            refine d_nil (by kernel_rfl) ?_
                            replace hF := (hF.k 0 rfl (hF.k 1 rfl (hF.k 2 rfl (hF.k 3 rfl (hF.k 4 rfl (hF.k 7 rfl (hF.k 8 rfl (hF.k 9 rfl (hF.k 10 rfl (hF.k 22 rfl (hF.k 70 rfl (hF.k 84 rfl (hF.k 96 rfl hF.nil)))))))))))))
                            replace hW := hW.del 1 rfl
                            refine t_n ?_
                            refine ⟨(b33, A34, c35), ?_, ?_, ?_⟩
                            · exact Fr.app (Fr.cons hF (t := 10) rfl rfl (Fr.nil hF)) (Fr.cons hF (t := 0) rfl rfl (Fr.cons hF (t := 1) rfl rfl (Fr.cons hF (t := 2) rfl rfl (Fr.cons hF (t := 3) rfl rfl (Fr.cons hF (t := 4) rfl rfl (Fr.cons hF (t := 7) rfl rfl (Fr.cons hF (t := 8) rfl rfl (Fr.cons hF (t := 9) rfl rfl (Fr.cons hF (t := 22) rfl rfl (Fr.cons hF (t := 70) rfl rfl (Fr.cons hF (t := 84) rfl rfl (Fr.cons hF (t := 96) rfl rfl (Fr.nil hF)))))))))))))
                            · exact hW
                            · trivial
                        · refine d_op rfl rfl (e_alloc hF hW ze_42 rfl rfl rfl ?_)
                          intro b36 a wc hF hW
                          refine ⟨(((hW.del 0 rfl).del 0 rfl).del 0 rfl), ?_⟩
                          replace hS := (((hW.del 0 rfl).del 0 rfl).del 0 rfl)
                          refine d_1 5 (by kernel_rfl) ?_
                          replace hW := hW.blk_row 2 rfl 1 0 rfl (by simp)
                          refine d_op rfl rfl (e_append hF hW 2 rfl rfl rfl Try.underlying22 inf_3 rfl (by decide) (hri.below hW.below) (by simp [Value.oneCell']) (show _ = p.inp.length by omega) (show _ = p.inp.map (.int .i64) by simp) (by omega) (by unfold maxLen; omega) rfl rfl ?_)
                          intro A37 c38 a wc hF hW
                          refine ⟨(((hW.del 0 rfl).del 0 rfl).del 0 rfl), ?_⟩
                          replace hS := (((hW.del 0 rfl).del 0 rfl).del 0 rfl)
                          refine d_1 8 (by kernel_rfl) ?_
                          refine d_op rfl rfl (e_append hF hW 2 rfl rfl rfl Try.underlying22 inf_3 rfl (by decide) (rowAt_blk (hW.blk 1 rfl) 1 1 rfl) (by simp [Value.oneCell']) (show _ = p.inp.length + 1 by omega) (show _ = (p.inp ++ [n]).map (.int .i64) by simp) (by omega) (by unfold maxLen; omega) rfl rfl ?_)
                          intro A39 c40 a wc hF hW
                          refine ⟨(((hW.del 0 rfl).del 0 rfl).del 0 rfl), ?_⟩
                          replace hS := (((hW.del 0 rfl).del 0 rfl).del 0 rfl)
                          refine dv 9 rfl hF hS (y_build hF rfl (fun w => bu_CellTrue_42_0_1 _ _ _ _ _ _ w)) (fun a hF => ?_)
                          refine d_1 11 (by kernel_rfl) ?_
                          refine d_op rfl rfl (e_storeAll rfl hF hW rfl rfl 0 rfl rfl rfl (by kernel_rfl) sz_42 ?_)
                          intro wc hW
                          refine ⟨(((hW.del 0 rfl).del 0 rfl).del 0 rfl), ?_⟩
                          replace hS := (((hW.del 0 rfl).del 0 rfl).del 0 rfl)
                          clear hS
                          refine d_nil (by kernel_rfl) ?_
                          replace hF := (hF.k 0 rfl (hF.k 1 rfl (hF.k 2 rfl (hF.k 3 rfl (hF.k 4 rfl (hF.k 7 rfl (hF.k 8 rfl (hF.k 9 rfl (hF.k 10 rfl (hF.k 22 rfl (hF.k 70 rfl (hF.k 84 rfl (hF.k 96 rfl hF.nil)))))))))))))
                          replace hW := hW.del 1 rfl
                          refine t_n ?_
                          refine ⟨(b36, A39, c40), ?_, ?_, ?_⟩
                          · exact Fr.app (Fr.cons hF (t := 10) rfl rfl (Fr.nil hF)) (Fr.cons hF (t := 0) rfl rfl (Fr.cons hF (t := 1) rfl rfl (Fr.cons hF (t := 2) rfl rfl (Fr.cons hF (t := 3) rfl rfl (Fr.cons hF (t := 4) rfl rfl (Fr.cons hF (t := 7) rfl rfl (Fr.cons hF (t := 8) rfl rfl (Fr.cons hF (t := 9) rfl rfl (Fr.cons hF (t := 22) rfl rfl (Fr.cons hF (t := 70) rfl rfl (Fr.cons hF (t := 84) rfl rfl (Fr.cons hF (t := 96) rfl rfl (Fr.nil hF)))))))))))))
                          · exact hW
                          · trivial
                      · refine d_op rfl rfl (e_alloc hF hW ze_42 rfl rfl rfl ?_)
                        intro b41 a wc hF hW
                        refine ⟨((hW.del 0 rfl).del 0 rfl), ?_⟩
                        replace hS := ((hW.del 0 rfl).del 0 rfl)
                        refine d_2 5 7 (by kernel_rfl) ?_ ?_
                        · replace hW := hW.blk_row 1 rfl 1 0 rfl (by simp)
                          refine d_op rfl rfl (e_append hF hW 1 rfl rfl rfl Try.underlying22 inf_3 rfl (by decide) (hri.below hW.below) (by simp [Value.oneCell']) (show _ = p.inp.length by omega) (show _ = p.inp.map (.int .i64) by simp) (by omega) (by unfold maxLen; omega) rfl rfl ?_)
                          intro A42 c43 a wc hF hW
                          refine ⟨((hW.del 0 rfl).del 0 rfl), ?_⟩
                          replace hS := ((hW.del 0 rfl).del 0 rfl)
                          refine d_1 7 (by kernel_rfl) ?_
                          refine d_op rfl rfl (e_buildSlice hF hW rfl (fun w => bs_CellTrue_22_1_0 _ w) rfl rfl rfl ?_)
                          intro b44 a wc hF hW
                          refine ⟨(((hW.del 0 rfl).del 0 rfl).del 0 rfl), ?_⟩
                          replace hS := (((hW.del 0 rfl).del 0 rfl).del 0 rfl)
                          refine d_1 8 (by kernel_rfl) ?_
                          refine d_op rfl rfl (e_append hF hW 2 rfl rfl rfl Try.underlying22 inf_3 rfl (by decide) (rowAt_blk (hW.blk 0 rfl) 1 1 rfl) (by simp [Value.oneCell']) (show _ = p.inp.length + 1 by omega) (show _ = (p.inp ++ [n]).map (.int .i64) by simp) (by omega) (by unfold maxLen; omega) rfl rfl ?_)
                          intro A45 c46 a wc hF hW
                          refine ⟨(((hW.del 0 rfl).del 0 rfl).del 0 rfl), ?_⟩
                          replace hS := (((hW.del 0 rfl).del 0 rfl).del 0 rfl)
                          refine dv 9 rfl hF hS (y_build hF rfl (fun w => bu_CellTrue_42_0_1 _ _ _ _ _ _ w)) (fun a hF => ?_)
                          refine d_1 11 (by kernel_rfl) ?_
                          refine d_op rfl rfl (e_storeAll rfl hF hW rfl rfl 1 rfl rfl rfl (by kernel_rfl) sz_42 ?_)
                          intro wc hW
                          refine ⟨(((hW.del 0 rfl).del 0 rfl).del 0 rfl), ?_⟩
                          replace hS := (((hW.del 0 rfl).del 0 rfl).del 0 rfl)
                          clear hS
                          refine d_nil (by kernel_rfl) ?_
                          replace hF := (hF.k 0 rfl (hF.k 1 rfl (hF.k 2 rfl (hF.k 3 rfl (hF.k 4 rfl (hF.k 7 rfl (hF.k 8 rfl (hF.k 9 rfl (hF.k 10 rfl (hF.k 22 rfl (hF.k 70 rfl (hF.k 84 rfl (hF.k 96 rfl hF.nil)))))))))))))
                          replace hW := hW.del 0 rfl
                          refine t_n ?_
                          refine ⟨(b41, A45, c46), ?_, ?_, ?_⟩
                          · exact Fr.app (Fr.cons hF (t := 10) rfl rfl (Fr.nil hF)) (Fr.cons hF (t := 0) rfl rfl (Fr.cons hF (t := 1) rfl rfl (Fr.cons hF (t := 2) rfl rfl (Fr.cons hF (t := 3) rfl rfl (Fr.cons hF (t := 4) rfl rfl (Fr.cons hF (t := 7) rfl rfl (Fr.cons hF (t := 8) rfl rfl (Fr.cons hF (t := 9) rfl rfl (Fr.cons hF (t := 22) rfl rfl (Fr.cons hF (t := 70) rfl rfl (Fr.cons hF (t := 84) rfl rfl (Fr.cons hF (t := 96) rfl rfl (Fr.nil hF)))))))))))))
                          · exact hW
                          · trivial
                        · refine d_op rfl rfl (e_buildSlice hF hW rfl (fun w => bs_CellTrue_22_1_0 _ w) rfl rfl rfl ?_)
                          intro b47 a wc hF hW
                          refine ⟨(((hW.del 0 rfl).del 0 rfl).del 0 rfl), ?_⟩
                          replace hS := (((hW.del 0 rfl).del 0 rfl).del 0 rfl)
                          refine d_1 5 (by kernel_rfl) ?_
                          replace hW := hW.blk_row 2 rfl 1 0 rfl (by simp)
                          refine d_op rfl rfl (e_append hF hW 2 rfl rfl rfl Try.underlying22 inf_3 rfl (by decide) (hri.below hW.below) (by simp [Value.oneCell']) (show _ = p.inp.length by omega) (show _ = p.inp.map (.int .i64) by simp) (by omega) (by unfold maxLen; omega) rfl rfl ?_)
                          intro A48 c49 a wc hF hW
                          refine ⟨(((hW.del 0 rfl).del 0 rfl).del 0 rfl), ?_⟩
                          replace hS := (((hW.del 0 rfl).del 0 rfl).del 0 rfl)
                          refine d_1 8 (by kernel_rfl) ?_
                          refine d_op rfl rfl (e_append hF hW 2 rfl rfl rfl Try.underlying22 inf_3 rfl (by decide) (rowAt_blk (hW.blk 0 rfl) 1 1 rfl) (by simp [Value.oneCell']) (show _ = p.inp.length + 1 by omega) (show _ = (p.inp ++ [n]).map (.int .i64) by simp) (by omega) (by unfold maxLen; omega) rfl rfl ?_)
                          intro A50 c51 a wc hF hW
                          refine ⟨(((hW.del 0 rfl).del 0 rfl).del 0 rfl), ?_⟩
                          replace hS := (((hW.del 0 rfl).del 0 rfl).del 0 rfl)
                          refine dv 9 rfl hF hS (y_build hF rfl (fun w => bu_CellTrue_42_0_1 _ _ _ _ _ _ w)) (fun a hF => ?_)
                          refine d_1 11 (by kernel_rfl) ?_
                          refine d_op rfl rfl (e_storeAll rfl hF hW rfl rfl 1 rfl rfl rfl (by kernel_rfl) sz_42 ?_)
                          intro wc hW
                          refine ⟨(((hW.del 0 rfl).del 0 rfl).del 0 rfl), ?_⟩
                          replace hS := (((hW.del 0 rfl).del 0 rfl).del 0 rfl)
                          clear hS
                          refine d_nil (by kernel_rfl) ?_
                          replace hF := (hF.k 0 rfl (hF.k 1 rfl (hF.k 2 rfl (hF.k 3 rfl (hF.k 4 rfl (hF.k 7 rfl (hF.k 8 rfl (hF.k 9 rfl (hF.k 10 rfl (hF.k 22 rfl (hF.k 70 rfl (hF.k 84 rfl (hF.k 96 rfl hF.nil)))))))))))))
                          replace hW := hW.del 0 rfl
                          refine t_n ?_
                          refine ⟨(b41, A50, c51), ?_, ?_, ?_⟩
                          · exact Fr.app (Fr.cons hF (t := 10) rfl rfl (Fr.nil hF)) (Fr.cons hF (t := 0) rfl rfl (Fr.cons hF (t := 1) rfl rfl (Fr.cons hF (t := 2) rfl rfl (Fr.cons hF (t := 3) rfl rfl (Fr.cons hF (t := 4) rfl rfl (Fr.cons hF (t := 7) rfl rfl (Fr.cons hF (t := 8) rfl rfl (Fr.cons hF (t := 9) rfl rfl (Fr.cons hF (t := 22) rfl rfl (Fr.cons hF (t := 70) rfl rfl (Fr.cons hF (t := 84) rfl rfl (Fr.cons hF (t := 96) rfl rfl (Fr.nil hF)))))))))))))
                          · exact hW
                          · trivial
                    · refine d_op rfl rfl (e_buildSlice hF hW rfl (fun w => bs_CellTrue_22_1_0 _ w) rfl rfl rfl ?_)
                      intro b52 a wc hF hW
                      refine ⟨(hW.del 0 rfl), ?_⟩
                      replace hS := (hW.del 0 rfl)
                      refine d_2 2 10 (by kernel_rfl) ?_ ?_
                      · refine d_op rfl rfl (e_buildSlice hF hW rfl (fun w => bs_CellTrue_22_0_  w) rfl rfl rfl ?_)
                        intro b53 a wc hF hW
                        refine ⟨((hW.del 0 rfl).del 0 rfl), ?_⟩
                        replace hS := ((hW.del 0 rfl).del 0 rfl)
                        refine d_2 5 10 (by kernel_rfl) ?_ ?_
                        · replace hW := hW.blk_row 0 rfl 1 0 rfl (by simp)
                          refine d_op rfl rfl (e_append hF hW 0 rfl rfl rfl Try.underlying22 inf_3 rfl (by decide) (hri.below hW.below) (by simp [Value.oneCell']) (show _ = p.inp.length by omega) (show _ = p.inp.map (.int .i64) by simp) (by omega) (by unfold maxLen; omega) rfl rfl ?_)
                          intro A54 c55 a wc hF hW
                          refine ⟨((hW.del 0 rfl).del 0 rfl), ?_⟩
                          replace hS := ((hW.del 0 rfl).del 0 rfl)
                          refine d_2 8 10 (by kernel_rfl) ?_ ?_
                          · refine d_op rfl rfl (e_append hF hW 0 rfl rfl rfl Try.underlying22 inf_3 rfl (by decide) (rowAt_blk (hW.blk 1 rfl) 1 1 rfl) (by simp [Value.oneCell']) (show _ = p.inp.length + 1 by omega) (show _ = (p.inp ++ [n]).map (.int .i64) by simp) (by omega) (by unfold maxLen; omega) rfl rfl ?_)
                            intro A56 c57 a wc hF hW
                            refine ⟨((hW.del 0 rfl).del 0 rfl), ?_⟩
                            replace hS := ((hW.del 0 rfl).del 0 rfl)
                            refine dv 9 rfl hF hS (y_build hF rfl (fun w => bu_CellTrue_42_0_1 _ _ _ _ _ _ w)) (fun a hF => ?_)
                            refine d_1 10 (by kernel_rfl) ?_
                            refine d_op rfl rfl (e_alloc hF hW ze_42 rfl rfl rfl ?_)
                            intro b58 a wc hF hW
                            refine ⟨(((hW.del 0 rfl).del 0 rfl).del 0 rfl), ?_⟩
                            replace hS := (((hW.del 0 rfl).del 0 rfl).del 0 rfl)
                            refine d_1 11 (by kernel_rfl) ?_
                            refine d_op rfl rfl (e_storeAll rfl hF hW rfl rfl 0 rfl rfl rfl (by kernel_rfl) sz_42 ?_)
                            intro wc hW
                            refine ⟨(((hW.del 0 rfl).del 0 rfl).del 0 rfl), ?_⟩
                            replace hS := (((hW.del 0 rfl).del 0 rfl).del 0 rfl)
                            clear hS
                            refine d_nil (by kernel_rfl) ?_
                            replace hF := (hF.k 0 rfl (hF.k 1 rfl (hF.k 2 rfl (hF.k 3 rfl (hF.k 4 rfl (hF.k 7 rfl (hF.k 8 rfl (hF.k 9 rfl (hF.k 10 rfl (hF.k 22 rfl (hF.k 70 rfl (hF.k 84 rfl (hF.k 96 rfl hF.nil)))))))))))))
                            replace hW := hW.del 2 rfl
                            refine t_n ?_
                            refine ⟨(b58, A56, c57), ?_, ?_, ?_⟩
                            · exact Fr.app (Fr.cons hF (t := 10) rfl rfl (Fr.nil hF)) (Fr.cons hF (t := 0) rfl rfl (Fr.cons hF (t := 1) rfl rfl (Fr.cons hF (t := 2) rfl rfl (Fr.cons hF (t := 3) rfl rfl (Fr.cons hF (t := 4) rfl rfl (Fr.cons hF (t := 7) rfl rfl (Fr.cons hF (t := 8) rfl rfl (Fr.cons hF (t := 9) rfl rfl (Fr.cons hF (t := 22) rfl rfl (Fr.cons hF (t := 70) rfl rfl (Fr.cons hF (t := 84) rfl rfl (Fr.cons hF (t := 96) rfl rfl (Fr.nil hF)))))))))))))
                            · exact hW
                            · trivial
                          · refine d_op rfl rfl (e_alloc hF hW ze_42 rfl rfl rfl ?_)
                            intro b59 a wc hF hW
                            refine ⟨(((hW.del 0 rfl).del 0 rfl).del 0 rfl), ?_⟩
                            replace hS := (((hW.del 0 rfl).del 0 rfl).del 0 rfl)
                            refine d_1 8 (by kernel_rfl) ?_
                            refine d_op rfl rfl (e_append hF hW 1 rfl rfl rfl Try.underlying22 inf_3 rfl (by decide) (rowAt_blk (hW.blk 2 rfl) 1 1 rfl) (by simp [Value.oneCell']) (show _ = p.inp.length + 1 by omega) (show _ = (p.inp ++ [n]).map (.int .i64) by simp) (by omega) (by unfold maxLen; omega) rfl rfl ?_)
                            intro A60 c61 a wc hF hW
                            refine ⟨(((hW.del 0 rfl).del 0 rfl).del 0 rfl), ?_⟩
                            replace hS := (((hW.del 0 rfl).del 0 rfl).del 0 rfl)
                            refine dv 9 rfl hF hS (y_build hF rfl (fun w => bu_CellTrue_42_0_1 _ _ _ _ _ _ w)) (fun a hF => ?_)
                            refine d_1 11 (by kernel_rfl) ?_
                            refine d_op rfl rfl (e_storeAll rfl hF hW rfl rfl 0 rfl rfl rfl (by kernel_rfl) sz_42 ?_)
                            intro wc hW
                            refine ⟨(((hW.del 0 rfl).del 0 rfl).del 0 rfl), ?_⟩
                            replace hS := (((hW.del 0 rfl).del 0 rfl).del 0 rfl)
                            clear hS
                            refine d_nil (by kernel_rfl) ?_
                            replace hF := (hF.k 0 rfl (hF.k 1 rfl (hF.k 2 rfl (hF.k 3 rfl (hF.k 4 rfl (hF.k 7 rfl (hF.k 8 rfl (hF.k 9 rfl (hF.k 10 rfl (hF.k 22 rfl (hF.k 70 rfl (hF.k 84 rfl (hF.k 96 rfl hF.nil)))))))))))))
                            replace hW := hW.del 2 rfl
                            refine t_n ?_
                            refine ⟨(b59, A60, c61), ?_, ?_, ?_⟩
                            · exact Fr.app (Fr.cons hF (t := 10) rfl rfl (Fr.nil hF)) (Fr.cons hF (t := 0) rfl rfl (Fr.cons hF (t := 1) rfl rfl (Fr.cons hF (t := 2) rfl rfl (Fr.cons hF (t := 3) rfl rfl (Fr.cons hF (t := 4) rfl rfl (Fr.cons hF (t := 7) rfl rfl (Fr.cons hF (t := 8) rfl rfl (Fr.cons hF (t := 9) rfl rfl (Fr.cons hF (t := 22) rfl rfl (Fr.cons hF (t := 70) rfl rfl (Fr.cons hF (t := 84) rfl rfl (Fr.cons hF (t := 96) rfl rfl (Fr.nil hF)))))))))))))
                            · exact hW
                            · trivial
                        · refine d_op rfl rfl (e_alloc hF hW ze_42 rfl rfl rfl ?_)
                          intro b62 a wc hF hW
                          refine ⟨(((hW.del 0 rfl).del 0 rfl).del 0 rfl), ?_⟩
                          replace hS := (((hW.del 0 rfl).del 0 rfl).del 0 rfl)
                          refine d_1 5 (by kernel_rfl) ?_
                          replace hW := hW.blk_row 1 rfl 1 0 rfl (by simp)
                          refine d_op rfl rfl (e_append hF hW 1 rfl rfl rfl Try.underlying22 inf_3 rfl (by decide) (hri.below hW.below) (by simp [Value.oneCell']) (show _ = p.inp.length by omega) (show _ = p.inp.map (.int .i64) by simp) (by omega) (by unfold maxLen; omega) rfl rfl ?_)
                          intro A63 c64 a wc hF hW
                          refine ⟨(((hW.del 0 rfl).del 0 rfl).del 0 rfl), ?_⟩
                          replace hS := (((hW.del 0 rfl).del 0 rfl).del 0 rfl)
                          refine d_1 8 (by kernel_rfl) ?_
                          refine d_op rfl rfl (e_append hF hW 1 rfl rfl rfl Try.underlying22 inf_3 rfl (by decide) (rowAt_blk (hW.blk 2 rfl) 1 1 rfl) (by simp [Value.oneCell']) (show _ = p.inp.length + 1 by omega) (show _ = (p.inp ++ [n]).map (.int .i64) by simp) (by omega) (by unfold maxLen; omega) rfl rfl ?_)
                          intro A65 c66 a wc hF hW
                          refine ⟨(((hW.del 0 rfl).del 0 rfl).del 0 rfl), ?_⟩
                          replace hS := (((hW.del 0 rfl).del 0 rfl).del 0 rfl)
                          refine dv 9 rfl hF hS (y_build hF rfl (fun w => bu_CellTrue_42_0_1 _ _ _ _ _ _ w)) (fun a hF => ?_)
                          refine d_1 11 (by kernel_rfl) ?_
                          refine d_op rfl rfl (e_storeAll rfl hF hW rfl rfl 0 rfl rfl rfl (by kernel_rfl) sz_42 ?_)
                          intro wc hW
                          refine ⟨(((hW.del 0 rfl).del 0 rfl).del 0 rfl), ?_⟩
                          replace hS := (((hW.del 0 rfl).del 0 rfl).del 0 rfl)
                          clear hS
                          refine d_nil (by kernel_rfl) ?_
                          replace hF := (hF.k 0 rfl (hF.k 1 rfl (hF.k 2 rfl (hF.k 3 rfl (hF.k 4 rfl (hF.k 7 rfl (hF.k 8 rfl (hF.k 9 rfl (hF.k 10 rfl (hF.k 22 rfl (hF.k 70 rfl (hF.k 84 rfl (hF.k 96 rfl hF.nil)))))))))))))
                          replace hW := hW.del 2 rfl
                          refine t_n ?_
                          refine ⟨(b62, A65, c66), ?_, ?_, ?_⟩
                          · exact Fr.app (Fr.cons hF (t := 10) rfl rfl (Fr.nil hF)) (Fr.cons hF (t := 0) rfl rfl (Fr.cons hF (t := 1) rfl rfl (Fr.cons hF (t := 2) rfl rfl (Fr.cons hF (t := 3) rfl rfl (Fr.cons hF (t := 4) rfl rfl (Fr.cons hF (t := 7) rfl rfl (Fr.cons hF (t := 8) rfl rfl (Fr.cons hF (t := 9) rfl rfl (Fr.cons hF (t := 22) rfl rfl (Fr.cons hF (t := 70) rfl rfl (Fr.cons hF (t := 84) rfl rfl (Fr.cons hF (t := 96) rfl rfl (Fr.nil hF)))))))))))))
                          · exact hW
                          · trivial
                      · refine d_op rfl rfl (e_alloc hF hW ze_42 rfl rfl rfl ?_)
                        intro b67 a wc hF hW
                        refine ⟨((hW.del 0 rfl).del 0 rfl), ?_⟩
                        replace hS := ((hW.del 0 rfl).del 0 rfl)
                        refine d_1 2 (by kernel_rfl) ?_
                        refine d_op rfl rfl (e_buildSlice hF hW rfl (fun w => bs_CellTrue_22_0_  w) rfl rfl rfl ?_)
                        intro b68 a wc hF hW
                        refine ⟨(((hW.del 0 rfl).del 0 rfl).del 0 rfl), ?_⟩
                        replace hS := (((hW.del 0 rfl).del 0 rfl).del 0 rfl)
                        refine d_1 5 (by kernel_rfl) ?_
                        replace hW := hW.blk_row 0 rfl 1 0 rfl (by simp)
                        refine d_op rfl rfl (e_append hF hW 0 rfl rfl rfl Try.underlying22 inf_3 rfl (by decide) (hri.below hW.below) (by simp [Value.oneCell']) (show _ = p.inp.length by omega) (show _ = p.inp.map (.int .i64) by simp) (by omega) (by unfold maxLen; omega) rfl rfl ?_)
                        intro A69 c70 a wc hF hW
                        refine ⟨(((hW.del 0 rfl).del 0 rfl).del 0 rfl), ?_⟩
                        replace hS := (((hW.del 0 rfl).del 0 rfl).del 0 rfl)
                        refine d_1 8 (by kernel_rfl) ?_
                        refine d_op rfl rfl (e_append hF hW 0 rfl rfl rfl Try.underlying22 inf_3 rfl (by decide) (rowAt_blk (hW.blk 2 rfl) 1 1 rfl) (by simp [Value.oneCell']) (show _ = p.inp.length + 1 by omega) (show _ = (p.inp ++ [n]).map (.int .i64) by simp) (by omega) (by unfold maxLen; omega) rfl rfl ?_)
                        intro A71 c72 a wc hF hW
                        refine ⟨(((hW.del 0 rfl).del 0 rfl).del 0 rfl), ?_⟩
                        replace hS := (((hW.del 0 rfl).del 0 rfl).del 0 rfl)
                        refine dv 9 rfl hF hS (y_build hF rfl (fun w => bu_CellTrue_42_0_1 _ _ _ _ _ _ w)) (fun a hF => ?_)
                        refine d_1 11 (by kernel_rfl) ?_
                        refine d_op rfl rfl (e_storeAll rfl hF hW rfl rfl 1 rfl rfl rfl (by kernel_rfl) sz_42 ?_)
                        intro wc hW
                        refine ⟨(((hW.del 0 rfl).del 0 rfl).del 0 rfl), ?_⟩
                        replace hS := (((hW.del 0 rfl).del 0 rfl).del 0 rfl)
                        clear hS
                        refine d_nil (by kernel_rfl) ?_
                        replace hF := (hF.k 0 rfl (hF.k 1 rfl (hF.k 2 rfl (hF.k 3 rfl (hF.k 4 rfl (hF.k 7 rfl (hF.k 8 rfl (hF.k 9 rfl (hF.k 10 rfl (hF.k 22 rfl (hF.k 70 rfl (hF.k 84 rfl (hF.k 96 rfl hF.nil)))))))))))))
                        replace hW := hW.del 2 rfl
                        replace hW := hW.front 6 rfl rfl
                        replace hW := hW.front 6 rfl rfl
                        replace hW := hW.front 6 rfl rfl
                        replace hW := hW.front 6 rfl rfl
                        replace hW := hW.front 6 rfl rfl
                        replace hW := hW.front 5 rfl rfl
                        replace hW := hW.front 6 rfl rfl
                        refine t_n ?_
                        refine ⟨(b67, A71, c72), ?_, ?_, ?_⟩
                        · exact Fr.app (Fr.cons hF (t := 10) rfl rfl (Fr.nil hF)) (Fr.cons hF (t := 0) rfl rfl (Fr.cons hF (t := 1) rfl rfl (Fr.cons hF (t := 2) rfl rfl (Fr.cons hF (t := 3) rfl rfl (Fr.cons hF (t := 4) rfl rfl (Fr.cons hF (t := 7) rfl rfl (Fr.cons hF (t := 8) rfl rfl (Fr.cons hF (t := 9) rfl rfl (Fr.cons hF (t := 22) rfl rfl (Fr.cons hF (t := 70) rfl rfl (Fr.cons hF (t := 84) rfl rfl (Fr.cons hF (t := 96) rfl rfl (Fr.nil hF)))))))))))))
                        · exact hW
                        · trivial
                    · refine d_op rfl rfl (e_alloc hF hW ze_42 rfl rfl rfl ?_)
                      intro b73 a wc hF hW
                      refine ⟨(hW.del 0 rfl), ?_⟩
                      replace hS := (hW.del 0 rfl)
                      refine d_2 2 7 (by kernel_rfl) ?_ ?_
                      · refine d_op rfl rfl (e_buildSlice hF hW rfl (fun w => bs_CellTrue_22_0_  w) rfl rfl rfl ?_)
                        intro b74 a wc hF hW
                        refine ⟨((hW.del 0 rfl).del 0 rfl), ?_⟩
                        replace hS := ((hW.del 0 rfl).del 0 rfl)
                        refine d_2 5 7 (by kernel_rfl) ?_ ?_
                        · replace hW := hW.blk_row 0 rfl 1 0 rfl (by simp)
                          refine d_op rfl rfl (e_append hF hW 0 rfl rfl rfl Try.underlying22 inf_3 rfl (by decide) (hri.below hW.below) (by simp [Value.oneCell']) (show _ = p.inp.length by omega) (show _ = p.inp.map (.int .i64) by simp) (by omega) (by unfold maxLen; omega) rfl rfl ?_)
                          intro A75 c76 a wc hF hW
                          refine ⟨((hW.del 0 rfl).del 0 rfl), ?_⟩
                          replace hS := ((hW.del 0 rfl).del 0 rfl)
                          refine d_1 7 (by kernel_rfl) ?_
                          refine d_op rfl rfl (e_buildSlice hF hW rfl (fun w => bs_CellTrue_22_1_0 _ w) rfl rfl rfl ?_)
                          intro b77 a wc hF hW
                          refine ⟨(((hW.del 0 rfl).del 0 rfl).del 0 rfl), ?_⟩
                          replace hS := (((hW.del 0 rfl).del 0 rfl).del 0 rfl)
                          refine d_1 8 (by kernel_rfl) ?_
                          refine d_op rfl rfl (e_append hF hW 1 rfl rfl rfl Try.underlying22 inf_3 rfl (by decide) (rowAt_blk (hW.blk 0 rfl) 1 1 rfl) (by simp [Value.oneCell']) (show _ = p.inp.length + 1 by omega) (show _ = (p.inp ++ [n]).map (.int .i64) by simp) (by omega) (by unfold maxLen; omega) rfl rfl ?_)
                          intro A78 c79 a wc hF hW
                          refine ⟨(((hW.del 0 rfl).del 0 rfl).del 0 rfl), ?_⟩
                          replace hS := (((hW.del 0 rfl).del 0 rfl).del 0 rfl)
                          refine dv 9 rfl hF hS (y_build hF rfl (fun w => bu_CellTrue_42_0_1 _ _ _ _ _ _ w)) (fun a hF => ?_)
                          refine d_1 11 (by kernel_rfl) ?_
                          refine d_op rfl rfl (e_storeAll rfl hF hW rfl rfl 2 rfl rfl rfl (by kernel_rfl) sz_42 ?_)
                          intro wc hW
                          refine ⟨(((hW.del 0 rfl).del 0 rfl).del 0 rfl), ?_⟩
                          replace hS := (((hW.del 0 rfl).del 0 rfl).del 0 rfl)
                          clear hS
                          refine d_nil (by kernel_rfl) ?_
                          replace hF := (hF.k 0 rfl (hF.k 1 rfl (hF.k 2 rfl (hF.k 3 rfl (hF.k 4 rfl (hF.k 7 rfl (hF.k 8 rfl (hF.k 9 rfl (hF.k 10 rfl (hF.k 22 rfl (hF.k 70 rfl (hF.k 84 rfl (hF.k 96 rfl hF.nil)))))))))))))
                          replace hW := hW.del 0 rfl
                          replace hW := hW.front 6 rfl rfl
                          replace hW := hW.front 6 rfl rfl
                          replace hW := hW.front 6 rfl rfl
                          replace hW := hW.front 6 rfl rfl
                          replace hW := hW.front 6 rfl rfl
                          replace hW := hW.front 5 rfl rfl
                          replace hW := hW.front 6 rfl rfl
                          refine t_n ?_
                          refine ⟨(b73, A78, c79), ?_, ?_, ?_⟩
                          · exact Fr.app (Fr.cons hF (t := 10) rfl rfl (Fr.nil hF)) (Fr.cons hF (t := 0) rfl rfl (Fr.cons hF (t := 1) rfl rfl (Fr.cons hF (t := 2) rfl rfl (Fr.cons hF (t := 3) rfl rfl (Fr.cons hF (t := 4) rfl rfl (Fr.cons hF (t := 7) rfl rfl (Fr.cons hF (t := 8) rfl rfl (Fr.cons hF (t := 9) rfl rfl (Fr.cons hF (t := 22) rfl rfl (Fr.cons hF (t := 70) rfl rfl (Fr.cons hF (t := 84) rfl rfl (Fr.cons hF (t := 96) rfl rfl (Fr.nil hF)))))))))))))
                          · exact hW
                          · trivial
                        · refine d_op rfl rfl (e_buildSlice hF hW rfl (fun w => bs_CellTrue_22_1_0 _ w) rfl rfl rfl ?_)
                          intro b80 a wc hF hW
                          refine ⟨(((hW.del 0 rfl).del 0 rfl).del 0 rfl), ?_⟩
                          replace hS := (((hW.del 0 rfl).del 0 rfl).del 0 rfl)
                          refine d_1 5 (by kernel_rfl) ?_
                          replace hW := hW.blk_row 1 rfl 1 0 rfl (by simp)
                          refine d_op rfl rfl (e_append hF hW 1 rfl rfl rfl Try.underlying22 inf_3 rfl (by decide) (hri.below hW.below) (by simp [Value.oneCell']) (show _ = p.inp.length by omega) (show _ = p.inp.map (.int .i64) by simp) (by omega) (by unfold maxLen; omega) rfl rfl ?_)
                          intro A81 c82 a wc hF hW
                          refine ⟨(((hW.del 0 rfl).del 0 rfl).del 0 rfl), ?_⟩
                          replace hS := (((hW.del 0 rfl).del 0 rfl).del 0 rfl)
                          refine d_1 8 (by kernel_rfl) ?_
                          refine d_op rfl rfl (e_append hF hW 1 rfl rfl rfl Try.underlying22 inf_3 rfl (by decide) (rowAt_blk (hW.blk 0 rfl) 1 1 rfl) (by simp [Value.oneCell']) (show _ = p.inp.length + 1 by omega) (show _ = (p.inp ++ [n]).map (.int .i64) by simp) (by omega) (by unfold maxLen; omega) rfl rfl ?_)
                          intro A83 c84 a wc hF hW
                          refine ⟨(((hW.del 0 rfl).del 0 rfl).del 0 rfl), ?_⟩
                          replace hS := (((hW.del 0 rfl).del 0 rfl).del 0 rfl)
                          refine dv 9 rfl hF hS (y_build hF rfl (fun w => bu_CellTrue_42_0_1 _ _ _ _ _ _ w)) (fun a hF => ?_)
                          refine d_1 11 (by kernel_rfl) ?_
                          refine d_op rfl rfl (e_storeAll rfl hF hW rfl rfl 2 rfl rfl rfl (by kernel_rfl) sz_42 ?_)
                          intro wc hW
                          refine ⟨(((hW.del 0 rfl).del 0 rfl).del 0 rfl), ?_⟩
                          replace hS := (((hW.del 0 rfl).del 0 rfl).del 0 rfl)
                          clear hS
                          refine d_nil (by kernel_rfl) ?_
                          replace hF := (hF.k 0 rfl (hF.k 1 rfl (hF.k 2 rfl (hF.k 3 rfl (hF.k 4 rfl (hF.k 7 rfl (hF.k 8 rfl (hF.k 9 rfl (hF.k 10 rfl (hF.k 22 rfl (hF.k 70 rfl (hF.k 84 rfl (hF.k 96 rfl hF.nil)))))))))))))
                          replace hW := hW.del 0 rfl
                          replace hW := hW.front 6 rfl rfl
                          replace hW := hW.front 6 rfl rfl
                          replace hW := hW.front 6 rfl rfl
                          replace hW := hW.front 6 rfl rfl
                          replace hW := hW.front 6 rfl rfl
                          replace hW := hW.front 5 rfl rfl
                          replace hW := hW.front 6 rfl rfl
                          refine t_n ?_
                          refine ⟨(b73, A83, c84), ?_, ?_, ?_⟩
                          · exact Fr.app (Fr.cons hF (t := 10) rfl rfl (Fr.nil hF)) (Fr.cons hF (t := 0) rfl rfl (Fr.cons hF (t := 1) rfl rfl (Fr.cons hF (t := 2) rfl rfl (Fr.cons hF (t := 3) rfl rfl (Fr.cons hF (t := 4) rfl rfl (Fr.cons hF (t := 7) rfl rfl (Fr.cons hF (t := 8) rfl rfl (Fr.cons hF (t := 9) rfl rfl (Fr.cons hF (t := 22) rfl rfl (Fr.cons hF (t := 70) rfl rfl (Fr.cons hF (t := 84) rfl rfl (Fr.cons hF (t := 96) rfl rfl (Fr.nil hF)))))))))))))
                          · exact hW
                          · trivial
                      · refine d_op rfl rfl (e_buildSlice hF hW rfl (fun w => bs_CellTrue_22_1_0 _ w) rfl rfl rfl ?_)
                        intro b85 a wc hF hW
                        refine ⟨((hW.del 0 rfl).del 0 rfl), ?_⟩
                        replace hS := ((hW.del 0 rfl).del 0 rfl)
                        refine d_1 2 (by kernel_rfl) ?_
                        refine d_op rfl rfl (e_buildSlice hF hW rfl (fun w => bs_CellTrue_22_0_  w) rfl rfl rfl ?_)
                        intro b86 a wc hF hW
                        refine ⟨(((hW.del 0 rfl).del 0 rfl).del 0 rfl), ?_⟩
                        replace hS := (((hW.del 0 rfl).del 0 rfl).del 0 rfl)
                        refine d_1 5 (by kernel_rfl) ?_
                        replace hW := hW.blk_row 0 rfl 1 0 rfl (by simp)
                        refine d_op rfl rfl (e_append hF hW 0 rfl rfl rfl Try.underlying22 inf_3 rfl (by decide) (hri.below hW.below) (by simp [Value.oneCell']) (show _ = p.inp.length by omega) (show _ = p.inp.map (.int .i64) by simp) (by omega) (by unfold maxLen; omega) rfl rfl ?_)
                        intro A87 c88 a wc hF hW
                        refine ⟨(((hW.del 0 rfl).del 0 rfl).del 0 rfl), ?_⟩
                        replace hS := (((hW.del 0 rfl).del 0 rfl).del 0 rfl)
                        refine d_1 8 (by kernel_rfl) ?_
                        refine d_op rfl rfl (e_append hF hW 0 rfl rfl rfl Try.underlying22 inf_3 rfl (by decide) (rowAt_blk (hW.blk 1 rfl) 1 1 rfl) (by simp [Value.oneCell']) (show _ = p.inp.length + 1 by omega) (show _ = (p.inp ++ [n]).map (.int .i64) by simp) (by omega) (by unfold maxLen; omega) rfl rfl ?_)
                        intro A89 c90 a wc hF hW
                        refine ⟨(((hW.del 0 rfl).del 0 rfl).del 0 rfl), ?_⟩
                        replace hS := (((hW.del 0 rfl).del 0 rfl).del 0 rfl)
                        refine dv 9 rfl hF hS (y_build hF rfl (fun w => bu_CellTrue_42_0_1 _ _ _ _ _ _ w)) (fun a hF => ?_)
                        refine d_1 11 (by kernel_rfl) ?_
                        refine d_op rfl rfl (e_storeAll rfl hF hW rfl rfl 2 rfl rfl rfl (by kernel_rfl) sz_42 ?_)
                        intro wc hW
                        refine ⟨(((hW.del 0 rfl).del 0 rfl).del 0 rfl), ?_⟩
                        replace hS := (((hW.del 0 rfl).del 0 rfl).del 0 rfl)
                        clear hS
                        refine d_nil (by kernel_rfl) ?_
                        replace hF := (hF.k 0 rfl (hF.k 1 rfl (hF.k 2 rfl (hF.k 3 rfl (hF.k 4 rfl (hF.k 7 rfl (hF.k 8 rfl (hF.k 9 rfl (hF.k 10 rfl (hF.k 22 rfl (hF.k 70 rfl (hF.k 84 rfl (hF.k 96 rfl hF.nil)))))))))))))
                        replace hW := hW.del 1 rfl
                        replace hW := hW.front 6 rfl rfl
                        replace hW := hW.front 6 rfl rfl
                        replace hW := hW.front 6 rfl rfl
                        replace hW := hW.front 6 rfl rfl
                        replace hW := hW.front 6 rfl rfl
                        replace hW := hW.front 5 rfl rfl
                        replace hW := hW.front 6 rfl rfl
                        refine t_n ?_
                        refine ⟨(b73, A89, c90), ?_, ?_, ?_⟩
                        · exact Fr.app (Fr.cons hF (t := 10) rfl rfl (Fr.nil hF)) (Fr.cons hF (t := 0) rfl rfl (Fr.cons hF (t := 1) rfl rfl (Fr.cons hF (t := 2) rfl rfl (Fr.cons hF (t := 3) rfl rfl (Fr.cons hF (t := 4) rfl rfl (Fr.cons hF (t := 7) rfl rfl (Fr.cons hF (t := 8) rfl rfl (Fr.cons hF (t := 9) rfl rfl (Fr.cons hF (t := 22) rfl rfl (Fr.cons hF (t := 70) rfl rfl (Fr.cons hF (t := 84) rfl rfl (Fr.cons hF (t := 96) rfl rfl (Fr.nil hF)))))))))))))
                        · exact hW
                        · trivial
                  · clear hF hW
                    clear a
                    intro q a wc hC hF hW
                    obtain ⟨b, A, c⟩ := q
                    dsimp only at hC
                    clear hC
                    refine c_sr ?_
                    refine pv hF hW (y_loadAll hF rfl 0 rfl Try.underlying42 rfl sz_42) (fun a hF => ?_)
                    refine pv hF hW (y_loadAll hF rfl 5 rfl Try.underlying46 rfl sz_46) (fun a hF => ?_)
                    refine pe (e_call hF rfl rfl en_21 (by rfl) rfl rfl (hstep2 _ hW.below _ (Ints.of_own (hW.row 1 rfl)) (by omega) (by omega)) ?_)
                    rintro e w1 ⟨A2, n2, rfl, hr, hb⟩
                    replace hW := hW.gotR hb hr
                    refine ⟨_, rfl, fun a hF => ?_⟩
                    replace hF := Fr.cast (v' := .tuple #[.agg #[.int .i64 dat, .int .i64 d0, .int .i64 d1, .int .i64 d2, .int .i64 d3, .int .i64 e0, .int .i64 e1, .int .i64 e2, .int .i64 e3, .int .i64 e4, .int .i64 e5, .int .i64 e6, .int .i64 e7, .int .i64 drd, .slice A2 dout.length n2, .int .i64 den], .agg #[.int .i64 kk, .int .i64 kc, .int .i64 kr, .int .i64 kf, .int .i64 kv], .int .i64 0]) rfl hF
                    refine pv hF hW (y_move hF rfl) (fun a hF => ?_)
                    refine pv hF hW (y_extract hF rfl rfl) (fun a hF => ?_)
                    refine pv hF hW (y_extract hF rfl rfl) (fun a hF => ?_)
                    refine pv hF hW (y_extract hF rfl rfl) (fun a hF => ?_)
                    refine pe (e_alloc hF hW ze_46 rfl rfl rfl ?_)
                    intro b91 a wc hF hW
                    refine pe (e_alloc hF hW ze_48 rfl rfl rfl ?_)
                    intro b92 a wc hF hW
                    refine pe (e_storeAll rfl hF hW rfl rfl 1 rfl rfl rfl (by kernel_rfl) sz_46 ?_)
                    intro wc hW
                    refine pe (e_storeAll rfl hF hW rfl rfl 0 rfl rfl rfl (by kernel_rfl) sz_48 ?_)
                    intro wc hW
                    refine pv hF hW (y_assign hF rfl) (fun a hF => ?_)
                    refine l_nil ?_
                    replace hF := (hF.k 0 rfl (hF.k 1 rfl (hF.k 2 rfl (hF.k 3 rfl (hF.k 4 rfl (hF.k 7 rfl (hF.k 8 rfl (hF.k 9 rfl (hF.k 10 rfl (hF.k 11 rfl (hF.k 12 rfl (hF.k 13 rfl (hF.k 22 rfl (hF.k 70 rfl (hF.k 84 rfl (hF.k 96 rfl hF.nil))))))))))))))))
                    refine t_n ?_
                    refine c_sr ?_
                    refine pe (e_call hF rfl rfl en_24 (by rfl) rfl rfl (cellBegun_any _) ?_)
                    rintro e w1 ⟨rfl, hb⟩
                    replace hW := hW.kept hb
                    clear hb
                    refine ⟨_, rfl, fun a hF => ?_⟩
                    refine pv hF hW (y_move hF rfl) (fun a hF => ?_)
                    refine pv hF hW (y_move hF rfl) (fun a hF => ?_) (ws hF rfl rfl)
                    refine pv hF hW (y_eql hF rfl rfl) (fun a hF => ?_) (ws hF rfl rfl)
                    replace hF := Fr.bool (t := true) (by first | decide | (simp; done) | rfl) hF
                    refine pv hF hW (y_pick hF rfl rfl) (fun a hF => ?_)
                    replace hF := Fr.bool (t := true) (by first | decide | (simp; done) | rfl) hF
                    refine pv hF hW (y_move hF rfl) (fun a hF => ?_)
                    replace hF := Fr.bool (t := true) (by first | decide | (simp; done) | rfl) hF
                    refine pv hF hW (y_loadAll hF rfl 1 rfl Try.underlying46 rfl sz_46) (fun a hF => ?_) (ws hF rfl rfl)
                    refine pv hF hW (y_loadAll hF rfl 6 rfl Try.underlying46 rfl sz_46) (fun a hF => ?_) (ws hF rfl rfl)
                    refine pe (e_call hF rfl rfl en_27 (by rfl) rfl rfl (sameCells_self ⟨dat, [d0, d1, d2, d3], [e0, e1, e2, e3, e4, e5, e6, e7], drd, dout, den⟩ _ _ hwd _ (hW.res 2 rfl) (hW.res 7 rfl)) ?_) (ws hF rfl rfl)
                    rintro e w1 ⟨rfl, hb⟩
                    replace hW := hW.kept hb
                    clear hb
                    refine ⟨_, rfl, fun a hF => ?_⟩
                    refine pv hF hW (y_pick hF rfl rfl) (fun a hF => ?_)
                    refine pv hF hW (y_move hF rfl) (fun a hF => ?_)
                    refine pv hF hW (y_loadAll hF rfl 0 rfl Try.underlying48 rfl sz_48) (fun a hF => ?_) (ws hF rfl rfl)
                    refine pv hF hW (y_loadAll hF rfl 5 rfl Try.underlying48 rfl sz_48) (fun a hF => ?_) (ws hF rfl rfl)
                    refine pv hF hW (y_bin hF rfl rfl (fun w => eqt_48 _ _ _ _ _ _ _ _ _ _ _ _ w)) (fun a hF => ?_) (ws hF rfl rfl)
                    refine Fr.splitD hF ?_ ?_
                    · intro h93 hF
                      refine pv hF hW (y_pick hF rfl rfl) (fun a hF => ?_)
                      refine pv hF hW (y_assign hF rfl) (fun a hF => ?_)
                      refine l_nil ?_
                      replace hF := (hF.k 0 rfl (hF.k 1 rfl (hF.k 2 rfl (hF.k 3 rfl (hF.k 4 rfl (hF.k 6 rfl (hF.k 7 rfl (hF.k 8 rfl (hF.k 9 rfl (hF.k 10 rfl (hF.k 11 rfl (hF.k 12 rfl (hF.k 13 rfl (hF.k 22 rfl (hF.k 70 rfl (hF.k 84 rfl (hF.k 96 rfl hF.nil)))))))))))))))))
                      refine t_n ?_
                      refine wp_ret ?_
                      refine ret1 Try.results7 hF (rv_t hF rfl) ?_
                      exact ⟨rfl, hW.below⟩
                    · intro h93 hF
                      exfalso
                      exact h93 ⟨rfl, rfl, rfl, rfl, rfl⟩
  · have hstep := fun w1 (hb : Below w.heap.size w w1) => stepTo (d := Cel.zero) (k := Wnt.zero) (hc.below hb) (hi.below hb) (ho.below hb) hwf rfl (fun h => absurd h h0) (fun _ => ⟨rfl, rfl⟩)
    generalize stepErr p c = E at *
    clear hc hi ho
    obtain ⟨at_, regs, mem, rd, out, en⟩ := c
    obtain ⟨r0, r1, r2, r3, hregs⟩ := len_four hwf.1
    obtain ⟨m0, m1, m2, m3, m4, m5, m6, m7, hmem⟩ := len_eight hwf.2
    dsimp only at hregs hmem
    subst hregs hmem
    clear hwf
    rw [celV_eq] at *
    refine enter Try.func7 rfl Try.ntmps7 rfl (fun a hF => ?_)
    have hW := Wd.start w NoB
    refine c_sr ?_
    refine pe (e_box hF hW rfl rfl rfl rfl ?_)
    intro b1 a wc hF hW
    refine pe (e_box hF hW rfl rfl rfl rfl ?_)
    intro b2 a wc hF hW
    refine pv hF hW (y_assign hF rfl) (fun a hF => ?_)
    refine l_nil ?_
    refine t_n ?_
    refine c_sr ?_
    refine pv hF hW (y_loadAll hF rfl 1 rfl Try.underlying42 rfl sz_42) (fun a hF => ?_)
    refine pv hF hW (y_loadAll hF rfl 0 rfl Try.underlying46 rfl sz_46) (fun a hF => ?_)
    refine pe (e_call hF rfl rfl en_21 (by rfl) rfl rfl (hstep _ hW.below) ?_)
    rintro e w1 ⟨A1, n1, rfl, hr, hb⟩
    replace hW := hW.gotR hb hr
    refine ⟨_, rfl, fun a hF => ?_⟩
    replace hF := Fr.cast (v' := .tuple #[.agg #[.int .i64 0, .int .i64 0, .int .i64 0, .int .i64 0, .int .i64 0, .int .i64 0, .int .i64 0, .int .i64 0, .int .i64 0, .int .i64 0, .int .i64 0, .int .i64 0, .int .i64 0, .int .i64 0, .slice A1 0 n1, .int .i64 0], .agg #[.int .i64 0, .int .i64 0, .int .i64 0, .int .i64 0, .int .i64 0], .int .i64 E]) rfl hF
    refine pv hF hW (y_move hF rfl) (fun a hF => ?_)
    refine pv hF hW (y_extract hF rfl rfl) (fun a hF => ?_)
    refine pv hF hW (y_extract hF rfl rfl) (fun a hF => ?_)
    refine pv hF hW (y_extract hF rfl rfl) (fun a hF => ?_)
    refine pe (e_alloc hF hW ze_46 rfl rfl rfl ?_)
    intro b3 a wc hF hW
    refine pe (e_alloc hF hW ze_48 rfl rfl rfl ?_)
    intro b4 a wc hF hW
    refine pe (e_storeAll rfl hF hW rfl rfl 1 rfl rfl rfl (by kernel_rfl) sz_46 ?_)
    intro wc hW
    refine pe (e_storeAll rfl hF hW rfl rfl 0 rfl rfl rfl (by kernel_rfl) sz_48 ?_)
    intro wc hW
    refine pv hF hW (y_assign hF rfl) (fun a hF => ?_)
    refine l_nil ?_
    replace hF := (hF.k 0 rfl (hF.k 1 rfl (hF.k 2 rfl (hF.k 3 rfl (hF.k 4 rfl (hF.k 6 rfl (hF.k 7 rfl (hF.k 8 rfl (hF.k 9 rfl hF.nil)))))))))
    refine t_n ?_
    refine c_s ?_
    refine c_sr ?_
    refine pv hF hW (y_move hF rfl) (fun a hF => ?_)
    refine pv hF hW (y_neq hF rfl rfl) (fun a hF => ?_)
    refine Fr.splitD hF ?_ ?_
    · intro h5 hF
      refine l_nil ?_
      replace hF := (hF.k 0 rfl (hF.k 1 rfl (hF.k 2 rfl (hF.k 3 rfl (hF.k 4 rfl (hF.k 6 rfl (hF.k 7 rfl (hF.k 8 rfl (hF.k 9 rfl (hF.k 22 rfl hF.nil))))))))))
      refine t_n ?_
      refine c_t hF rfl ?_
      refine c_sr ?_
      refine pe (e_call hF rfl rfl en_24 (by rfl) rfl rfl (cellBegun_any _) ?_)
      rintro e w1 ⟨rfl, hb⟩
      replace hW := hW.kept hb
      clear hb
      refine ⟨_, rfl, fun a hF => ?_⟩
      replace hF := hF.drop 6
      refine pv hF hW (y_assign hF rfl) (fun a hF => ?_)
      refine l_nil ?_
      replace hF := (hF.k 0 rfl (hF.k 1 rfl (hF.k 2 rfl (hF.k 3 rfl (hF.k 4 rfl (hF.k 6 rfl (hF.k 7 rfl (hF.k 8 rfl (hF.k 9 rfl (hF.k 22 rfl hF.nil))))))))))
      refine t_n ?_
      refine wp_ret ?_
      refine t_r ?_
      refine ret1 Try.results7 hF (rv_t hF rfl) ?_
      exact ⟨rfl, hW.below⟩
    · intro h5 hF
      exfalso
      omega

set_option maxRecDepth 100000 in
theorem cellTrue_contract (H : Type) (enc : TypeId × Value → H) (W : World) (base : Nat) (args : Array Value) (ds gs : List (DataW H)) (before : List MemPlace)
    (hval : ∀ (j : Nat) t v, Try.f7.params[j]? = some t → args[j]? = some v → Value.okWide Try.prog W .any base t v)
    (hW : DataW.Whole enc Try.prog Try.f7.params.toList Rows.cellTrueSpec.vars false W args.toList ds gs before) :
    Calls Try.prog 7 args W fun e W' => ∃ v, e = .returned v ∧ Rows.cellTrueSpec.post enc Try.prog Try.f7 false true false false W args v W' := by
  have hW' := hW
  obtain ⟨p, q, hA0, hV, rfl, hfz, hnd⟩ := hW
  have hA : DataW.TrodAll enc Try.prog W 0 (fun _ => true) true Try.f7.params.toList args.toList ds p := hA0
  rw [Try.params7] at hA hval
  obtain ⟨v0, v1, v2, d0, d1, d2, p0, p1, p2, rfl, rfl, rfl, h0, h1, h2⟩ := trodAll_three hA
  obtain ⟨pp, pv, pp2, rfl, hc, hi⟩ := part_open (hval 0 42 v0 rfl rfl) h0
  obtain ⟨c, ov, rfl, hwf, ho⟩ := cell_open (hval 1 46 v1 rfl rfl) h1
  obtain ⟨n, rfl, rfl, rfl, wk2⟩ := open_int Try.underlying3 (hval 2 3 v2 rfl rfl) h2
  refine (cellTrue_run pp2 c pp pv ov n W hwf ho hc hi).mono fun e W' ⟨he, hb⟩ => ?_
  subst he
  exact ⟨_, rfl, law_post Try.laidOut hW' hb rfl (by kernel_rfl) Try.underlying4 (by kernel_rfl) rfl⟩

set_option maxRecDepth 100000 in
theorem cellTrue_lifted (os : Os) (started : os.Started) (H : Type) (enc : TypeId × Value → H) :
    ReturnsInHanded {} Try.checked os 7 .any (Rows.cellTrueSpec.pre6 enc Try.prog Try.f7 Rows.cellTrueRow.domain false) (Rows.cellTrueSpec.post enc Try.prog Try.f7 false true false false) := by
  refine returnsInHanded_of_change (C := Try.checked) Try.own started (by kernel_rfl) Try.func7
    (ChangeSpec.witness6 (enc := enc) (C := Try.checked) false ⟨#[], #[.agg #[.slice none 0 0, .slice none 0 0], .agg #[.int .i64 0, .int .i64 0, .int .i64 0, .int .i64 0, .int .i64 0, .int .i64 0, .int .i64 0, .int .i64 0, .int .i64 0, .int .i64 0, .int .i64 0, .int .i64 0, .int .i64 0, .int .i64 0, .slice none 0 0, .int .i64 0], .int .i64 0], []⟩ 8 (by kernel_rfl) (by kernel_rfl) (by kernel_rfl) (by kernel_rfl)) ?_
  intro W base args ds gs before hval hW _ _
  exact cellTrue_contract H enc W base args ds gs before hval hW

theorem cellTrue_holds : Rows.CellTrueSaid :=
  OpenClaim.holds_of_wide 7 Try.f7 rfl rfl rfl rfl rfl rfl rfl ⟨rfl, rfl, rfl, rfl, rfl⟩ rfl rfl rfl rfl rfl (by kernel_rfl) Try.func7 (by kernel_rfl)
    (of_decide_eq_true (by kernel_rfl)) (by unfold Func.isWrapper; first | (rw [if_pos (by decide +kernel)]; kernel_rfl) | (rw [if_neg (by decide +kernel)]; exact ⟨rfl, rfl⟩))
    (fun os started H enc _ => cellTrue_lifted os started H enc)
end Go.Proofs.Ytebklpbbglojmaa
