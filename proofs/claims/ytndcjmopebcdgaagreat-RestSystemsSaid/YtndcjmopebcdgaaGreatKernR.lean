/- The reference's CheckWorld, SameLines, SameWorlds, OwnWorld. -/
import Derived.Test.YtndcjmopebcdgaaGreatKernN
set_option linter.unusedSimpArgs false
set_option linter.unusedVariables false
namespace Go.Proofs.YtndcjmopebcdgaaGreat
open Go.ChangeShapes Go.WideShapes Go.ChangeAt Go.RowKit
set_option maxRecDepth 100000
set_option maxHeartbeats 8000000 in
theorem checkWorld_any{x:SysD}{y:WD}{w:World}(hx:x.At w)(hy:y.At w):
  Calls Tryz.prog 4 #[x.val,y.val] w fun e w'=>e=.returned (.int .i64 (chkWorld x.sys y.wrl))∧Below w.heap.size w w':=by
 have hl1:=hx.parts.len
 have hl2:=hx.chans.len
 have hl3:=hy.cells.len
 have hl4:=hy.lines.len
 unfold maxLen at hl1 hl2 hl3 hl4
 rw[x.val_eq,y.val_eq]
 refine enter Tryz.func4 rfl Tryz.ntmps4 rfl fun a hF=>?_
 have hW:=Wd.start w NoB
 refine c_sr ?_;refine pe (e_box hF hW rfl rfl rfl rfl ?_);intro b1 a wc hF hW;refine pe (e_box hF hW rfl rfl rfl rfl ?_);intro b2 a wc hF hW;refine pv hF hW (y_assign hF rfl) fun a hF=>l_nil<|t_n<|c_s<|c_sr<|pv hF hW (y_loadAll hF rfl 1 rfl Tryz.underlying26 rfl sz_26) fun a hF=>?_;refine pe (e_call hF rfl rfl en_16 Rl rfl rfl (checkSystem_any (hx.below hW.below)) ?_);rintro e w1 ⟨rfl,hb⟩;replace hW:=hW.kept hb;clear hb;refine⟨_,rfl,fun a hF=>?_⟩;refine pv hF hW (y_assign hF rfl) fun a hF=>l_nil ?_;replace hF:=hF.ks [0,1,2,3,4,5] rfl;refine t_n<|c_sr<|pv hF hW (y_move hF rfl) fun a hF=>pv hF hW (y_neq hF rfl rfl) fun a hF=>?_;refine Fr.splitD hF ?_ ?_
 ·intro h3 hF;refine l_nil ?_;replace hF:=hF.ks [0,1,2,3,4,5,11] rfl;refine t_n<|c_t hF rfl<|c_sr<|pv hF hW (y_move hF rfl) fun a hF=>?_;replace hF:=hF.drop 4;refine pv hF hW (y_assign hF rfl) fun a hF=>l_nil ?_;replace hF:=hF.ks [0,1,2,3,4,5,11] rfl;refine t_n<|wp_ret<|t_r<|ret1 Tryz.results4 hF (rv_t hF rfl) ?_
  exact⟨by rw[chkWorld_c Am],hW.below⟩
 ·intro h3 hF;refine l_nil ?_;replace hF:=hF.ks [0,1,2,3,4,5,11] rfl;refine t_n<|c_f hF rfl<|wp_skip<|t_n<|c_s<|c_sr<|pv hF hW (y_fieldOwn hF rfl fa_30_0) fun a hF=>pv hF hW (y_loadOwn hF rfl 0 rfl rfl Tryz.underlying3 rfl) fun a hF=>?_;refine pe (e_call hF rfl rfl en_17 Rl rfl rfl (withinD_any _ _ _ _) ?_);rintro e w1 ⟨rfl,hb⟩;replace hW:=hW.kept hb;clear hb;refine⟨_,rfl,fun a hF=>?_⟩;refine Fr.splitB hF ?_ ?_
  ·intro h4 hF;refine pv hF hW (y_not hF rfl) fun a hF=>?_;replace hF:=hF.ff;refine pv hF hW (y_move hF rfl) fun a hF=>?_;replace hF:=hF.ff;refine pvg hF hW (y_fieldOwn hF rfl fa_30_1) (ws hF rfl rfl) fun a hF=>pvg hF hW (y_loadOwn hF rfl 0 rfl rfl Tryz.underlying27 rfl) (ws hF rfl rfl) fun a hF=>pvg hF hW (y_len hF rfl Tryz.underlying27) (ws hF rfl rfl) fun a hF=>pvg hF hW (y_fieldOwn hF rfl fa_26_0) (ws hF rfl rfl) fun a hF=>pvg hF hW (y_loadOwn hF rfl 1 rfl rfl Tryz.underlying22 rfl) (ws hF rfl rfl) fun a hF=>pvg hF hW (y_len hF rfl Tryz.underlying22) (ws hF rfl rfl) fun a hF=>pvg hF hW (y_neq hF rfl rfl) (ws hF rfl rfl) fun a hF=>?_;refine Fr.splitD hF ?_ ?_
   ·intro h5 hF;refine pv hF hW (y_pick hF rfl rfl) fun a hF=>pv hF hW (y_move hF rfl) fun a hF=>pk hF (wn hF rfl rfl rfl) fun a hF=>pk hF (wn hF rfl rfl rfl) fun a hF=>pk hF (wn hF rfl rfl rfl) fun a hF=>pk hF (wn hF rfl rfl rfl) fun a hF=>pk hF (wn hF rfl rfl rfl) fun a hF=>pk hF (wn hF rfl rfl rfl) fun a hF=>pk hF (wn hF rfl rfl rfl) fun a hF=>pv hF hW (y_pick hF rfl rfl) fun a hF=>l_nil ?_;replace hF:=hF.ks [0,1,2,3,4,5,11,34] rfl;refine t_n<|c_t hF rfl<|c_sr ?_;replace hF:=hF.drop 4;refine pv hF hW (y_assign hF rfl) fun a hF=>l_nil<|t_n<|wp_ret<|t_r<|ret1 Tryz.results4 hF (rv_t hF rfl) ?_
    exact⟨by rw[right_no Om (fun h=>by have:=h.t0;have:=h.t1;have:=h.cl;have:=h.ll;simp only[decide_eq_true_eq,decide_eq_false_iff_not] at*;omega)],hW.below⟩
   ·intro h5 hF;refine pv hF hW (y_pick hF rfl rfl) fun a hF=>pv hF hW (y_move hF rfl) fun a hF=>pvg hF hW (y_fieldOwn hF rfl fa_30_2) (ws hF rfl rfl) fun a hF=>pvg hF hW (y_loadOwn hF rfl 0 rfl rfl Tryz.underlying28 rfl) (ws hF rfl rfl) fun a hF=>pvg hF hW (y_len hF rfl Tryz.underlying28) (ws hF rfl rfl) fun a hF=>pvg hF hW (y_fieldOwn hF rfl fa_26_1) (ws hF rfl rfl) fun a hF=>pvg hF hW (y_loadOwn hF rfl 1 rfl rfl Tryz.underlying23 rfl) (ws hF rfl rfl) fun a hF=>pvg hF hW (y_len hF rfl Tryz.underlying23) (ws hF rfl rfl) fun a hF=>pvg hF hW (y_neq hF rfl rfl) (ws hF rfl rfl) fun a hF=>?_;refine Fr.splitD hF ?_ ?_
    ·intro h6 hF;refine pv hF hW (y_pick hF rfl rfl) fun a hF=>l_nil ?_;replace hF:=hF.ks [0,1,2,3,4,5,11,34] rfl;refine t_n<|c_t hF rfl<|c_sr ?_;replace hF:=hF.drop 4;refine pv hF hW (y_assign hF rfl) fun a hF=>l_nil<|t_n<|wp_ret<|t_r<|ret1 Tryz.results4 hF (rv_t hF rfl) ?_
     exact⟨by rw[right_no Om (fun h=>by have:=h.t0;have:=h.t1;have:=h.cl;have:=h.ll;simp only[decide_eq_true_eq,decide_eq_false_iff_not] at*;omega)],hW.below⟩
    ·intro h6 hF;refine pv hF hW (y_pick hF rfl rfl) fun a hF=>l_nil ?_;replace hF:=hF.ks [0,1,2,3,4,5,11,34] rfl;refine t_n<|c_f hF rfl<|wp_skip<|t_n<|c_s<|c_sr<|pv hF hW (y_assign hF rfl) fun a hF=>l_nil<|t_n<|wp_block ?_;refine c_loop (G:=Nat) (fun k:Nat=>[(6,.int .i64 (k:Int))]) (fun k:Nat=>[]) (fun k:Nat=>k≤y.cells.length∧∀i,i<k→cellFine (y.cells.getD i CD0).c=true∧(y.cells.getD i CD0).c.read≤(x.parts.getD i P0).1.inp.length) (fun k:Nat=>y.cells.length - k) 0 (hF.ks [0,1,2,3,5,11,34] rfl) (Fr.cons hF (t:=6) rfl Rg (Fr.nil hF)) (hW) ?_ ?_
     ·exact⟨by omega,fun i hi=>by omega⟩
     clear hF hW
     try clear a
     intro k a wc hC hF hW
     obtain⟨hk,hcs⟩:=hC
     refine c_s<|c_sr<|pv hF hW (y_move hF rfl) fun a hF=>pv hF hW (y_fieldOwn hF rfl fa_30_1) fun a hF=>pv hF hW (y_loadOwn hF rfl 0 rfl rfl Tryz.underlying27 rfl) fun a hF=>pv hF hW (y_len hF rfl Tryz.underlying27) fun a hF=>pv hF hW (y_lss hF rfl rfl) fun a hF=>?_;refine Fr.splitD hF ?_ ?_
     ·intro h7 hF;refine l_nil ?_;replace hF:=hF.ks [0,1,2,3,5,6,11,34,39] rfl;refine t_n<|c_t hF rfl<|wp_skip<|t_n<|c_s<|wp_block ?_
      have hcat:=hy.cell (k:=k) Om
      obtain⟨q,hq⟩:∃q,y.cells.getD k CD0=q:=⟨_,rfl⟩
      rw[hq] at hcat
      obtain⟨⟨at_,regs,mem,rd,out,en⟩,hwf,qa,qk⟩:=q
      obtain⟨r0,r1,r2,r3,hregs⟩:=len_four hwf.1
      obtain⟨m0,m1,m2,m3,m4,m5,m6,m7,hmem⟩:=len_eight hwf.2
      dsimp only at hregs hmem
      subst hregs hmem
      have hchk:=fun w1 ho=>cellFineR_any ⟨at_,[r0,r1,r2,r3],[m0,m1,m2,m3,m4,m5,m6,m7],rd,out,en⟩ (.slice qa out.length qk) hwf w1 ho
      rw[celV_eq] at hchk
      refine c_sd mixed_ok hW (hW) ?_
      clear hW;intro wc hW hS
      refine dv 0 rfl hF hS (y_fieldOwn hF rfl fa_30_1) fun a hF=>dv 1 rfl hF hS (y_loadOwn hF rfl 0 rfl rfl Tryz.underlying27 rfl) fun a hF=>dv 2 rfl hF hS (y_move hF rfl) fun a hF=>dv 3 rfl hF hS (y_indexS hF rfl rfl Od Tryz.underlying27 sz_42 (fun w h=>(hy.cellsR).wd h)) fun a hF=>dv 4 rfl hF hS (y_loadRowW hF rfl (fun w h=>(hy.cellsR).wd h) Od Tryz.underlying42 rfl (by rw[hq];exact sz_42)) fun a hF=>?_;replace hF:=Fr.cast (v':=.agg #[.int .i64 at_,.int .i64 r0,.int .i64 r1,.int .i64 r2,.int .i64 r3,.int .i64 m0,.int .i64 m1,.int .i64 m2,.int .i64 m3,.int .i64 m4,.int .i64 m5,.int .i64 m6,.int .i64 m7,.int .i64 rd,.slice qa out.length qk,.int .i64 en]) (by rw[hq];rfl) hF;refine d_1 5 Kr ?_;refine d_op rfl rfl (e_call hF rfl rfl en_18 Rl rfl rfl (hchk _ (hcat.below hW.below)) ?_);rintro e w1 ⟨rfl,hb⟩;replace hW:=hW.kept hb;clear hb;refine⟨_,rfl,fun a hF=>?_⟩;refine Fr.splitB hF ?_ ?_
      ·intro h8 hF;replace hS:=hW;refine⟨hS,?_⟩;refine dv 6 rfl hF hS (y_not hF rfl) fun a hF=>?_;replace hF:=hF.ff;refine dv 7 rfl hF hS (y_move hF rfl) fun a hF=>?_;replace hF:=hF.ff;refine dvg 8 rfl hF hS (y_fieldOwn hF rfl fa_30_1) (ws hF rfl rfl) fun a hF=>dvg 9 rfl hF hS (y_loadOwn hF rfl 0 rfl rfl Tryz.underlying27 rfl) (ws hF rfl rfl) fun a hF=>dvg 10 rfl hF hS (y_move hF rfl) (ws hF rfl rfl) fun a hF=>dvg 11 rfl hF hS (y_indexS hF rfl rfl Od Tryz.underlying27 sz_42 (fun w h=>(hy.cellsR).wd h)) (ws hF rfl rfl) fun a hF=>dvg 12 rfl hF hS (y_fieldRow hF rfl fa_42_3) (ws hF rfl rfl) fun a hF=>dvg 13 rfl hF hS (y_loadRow hF rfl (fun w h=>(hy.cellsR).wd h) Od (show _=some (.int .i64 rd) by rw[hq];rfl) Tryz.underlying3 rfl) (ws hF rfl rfl) fun a hF=>dvg 14 rfl hF hS (y_fieldOwn hF rfl fa_26_0) (ws hF rfl rfl) fun a hF=>dvg 15 rfl hF hS (y_loadOwn hF rfl 1 rfl rfl Tryz.underlying22 rfl) (ws hF rfl rfl) fun a hF=>dvg 16 rfl hF hS (y_move hF rfl) (ws hF rfl rfl) fun a hF=>dvg 17 rfl hF hS (y_indexS hF rfl rfl Od Tryz.underlying22 sz_49 (fun w h=>(hx.partsR).wd h)) (ws hF rfl rfl) fun a hF=>dvg 18 rfl hF hS (y_fieldRow hF rfl fa_49_1) (ws hF rfl rfl) fun a hF=>dvg 19 rfl hF hS (y_loadRow hF rfl (fun w h=>(hx.partsR).wd h) Od rfl Tryz.underlying40 rfl) (ws hF rfl rfl) fun a hF=>dvg 20 rfl hF hS (y_len hF rfl Tryz.underlying40) (ws hF rfl rfl) fun a hF=>dvg 21 rfl hF hS (y_gtr hF rfl rfl) (ws hF rfl rfl) fun a hF=>?_;refine Fr.splitD hF ?_ ?_
       ·intro h9 hF;refine dv 22 rfl hF hS (y_pick hF rfl rfl) fun a hF=>?_;clear hS;refine d_nil Kr ?_;replace hF:=hF.ks [0,1,2,3,5,6,11,34,39,64] rfl;refine t_n<|c_t hF rfl<|c_sr<|pv hF hW (y_assign hF rfl) fun a hF=>l_nil<|t_n<|wp_ret<|b_r<|t_r<|t_r<|b_r<|t_r<|ret1 Tryz.results4 hF (rv_t hF rfl) ?_
        exact⟨by rw[right_no Om (fun h=>by have hh:=(h.cell k Om).2;rw[hq] at hh;dsimp only at hh;omega)],hW.below⟩
       ·intro h9 hF;refine dv 22 rfl hF hS (y_pick hF rfl rfl) fun a hF=>?_;clear hS;refine d_nil Kr ?_;replace hF:=hF.ks [0,1,2,3,5,6,11,34,39,64] rfl;refine t_n<|c_f hF rfl<|wp_skip<|b_n<|t_n<|c_r<|pv hF hW (y_move hF rfl) fun a hF=>pv hF hW (y_add hF rfl rfl (IntWalk.i64_in _ Om)) fun a hF=>?_;replace hF:=hF.drop 6;refine pv hF hW (y_assign hF rfl) fun a hF=>l_nil ?_;replace hF:=hF.ks [0,1,2,3,5,6,11,34,39,64] rfl;refine t_n ?_;refine⟨(k+1),?_,?_,?_,?_⟩
        ·exact⟨by omega,fun i hi=>by rcases Nat.lt_or_ge i k with h|h;exact hcs i h;(have hik:i=k:=by omega);rw[hik,hq];exact⟨by assumption,by dsimp only;omega⟩⟩
        ·first|omega|(dsimp only;omega)
        ·exact Fr.app (Fr.cons hF (t:=6) rfl Rf (Fr.nil hF)) (hF.ks [0,1,2,3,5,11,34] rfl)
        ·exact hW
      ·intro h8 hF;replace hS:=hW;refine⟨hS,?_⟩;refine dv 6 rfl hF hS (y_not hF rfl) fun a hF=>?_;replace hF:=hF.tt;refine dv 7 rfl hF hS (y_move hF rfl) fun a hF=>?_;replace hF:=hF.tt;refine dk 8 rfl hF (wn hF rfl rfl rfl) hS fun a hF=>dk 9 rfl hF (wn hF rfl rfl rfl) hS fun a hF=>dk 10 rfl hF (wn hF rfl rfl rfl) hS fun a hF=>dk 11 rfl hF (wn hF rfl rfl rfl) hS fun a hF=>dk 12 rfl hF (wn hF rfl rfl rfl) hS fun a hF=>dk 13 rfl hF (wn hF rfl rfl rfl) hS fun a hF=>dk 14 rfl hF (wn hF rfl rfl rfl) hS fun a hF=>dk 15 rfl hF (wn hF rfl rfl rfl) hS fun a hF=>dk 16 rfl hF (wn hF rfl rfl rfl) hS fun a hF=>dk 17 rfl hF (wn hF rfl rfl rfl) hS fun a hF=>dk 18 rfl hF (wn hF rfl rfl rfl) hS fun a hF=>dk 19 rfl hF (wn hF rfl rfl rfl) hS fun a hF=>dk 20 rfl hF (wn hF rfl rfl rfl) hS fun a hF=>dk 21 rfl hF (wn hF rfl rfl rfl) hS fun a hF=>dv 22 rfl hF hS (y_pick hF rfl rfl) fun a hF=>?_;clear hS;refine d_nil Kr ?_;replace hF:=hF.ks [0,1,2,3,5,6,11,34,39,64] rfl;refine t_n<|c_t hF rfl<|c_sr<|pv hF hW (y_assign hF rfl) fun a hF=>l_nil<|t_n<|wp_ret<|b_r<|t_r<|t_r<|b_r<|t_r<|ret1 Tryz.results4 hF (rv_t hF rfl) ?_
       exact⟨by rw[right_no Om (fun h=>by have hh:=(h.cell k Om).1;rw[hq] at hh;simp_all)],hW.below⟩
     ·intro h7 hF;refine l_nil ?_;replace hF:=hF.ks [0,1,2,3,5,6,11,34,39] rfl;refine t_n<|c_f hF rfl<|wp_exit<|t_x<|t_x<|b_h<|t_n<|c_s ?_
      have HC:∀i,i<y.cells.length→cellFine (y.cells.getD i CD0).c=true∧(y.cells.getD i CD0).c.read≤(x.parts.getD i P0).1.inp.length:=fun i hi=>hcs i Om
      refine c_sr<|pv hF hW (y_assign hF rfl) fun a hF=>l_nil<|t_n<|wp_block ?_;refine c_loop (G:=Nat) (fun k:Nat=>[(7,.int .i64 (k:Int))]) (fun k:Nat=>[]) (fun k:Nat=>k≤y.lines.length∧∀i,i<k→chkLine (x.chans.getD i C0).kind (y.lines.getD i LD0).vals.length=0) (fun k:Nat=>y.lines.length - k) 0 (hF.ks [0,1,2,3,5,6,11,34,39] rfl) (Fr.cons hF (t:=7) rfl Rg (Fr.nil hF)) (hW) ?_ ?_
      ·exact⟨by omega,fun i hi=>by omega⟩
      clear hF hW
      try clear a
      intro k a wc hC hF hW
      obtain⟨hk,hls⟩:=hC
      refine c_s<|c_sr<|pv hF hW (y_move hF rfl) fun a hF=>pv hF hW (y_fieldOwn hF rfl fa_30_2) fun a hF=>pv hF hW (y_loadOwn hF rfl 0 rfl rfl Tryz.underlying28 rfl) fun a hF=>pv hF hW (y_len hF rfl Tryz.underlying28) fun a hF=>pv hF hW (y_lss hF rfl rfl) fun a hF=>?_;refine Fr.splitD hF ?_ ?_
      ·intro h10 hF;refine l_nil ?_;replace hF:=hF.ks [0,1,2,3,5,6,7,11,34,39,69] rfl;refine t_n<|c_t hF rfl<|wp_skip<|t_n<|c_s<|wp_block<|c_sd mixed_ok hW (hW) ?_
       clear hW;intro wc hW hS
       refine dv 0 rfl hF hS (y_fieldOwn hF rfl fa_26_1) fun a hF=>dv 1 rfl hF hS (y_loadOwn hF rfl 1 rfl rfl Tryz.underlying23 rfl) fun a hF=>dv 2 rfl hF hS (y_move hF rfl) fun a hF=>dv 3 rfl hF hS (y_indexS hF rfl rfl Od Tryz.underlying23 sz_67 (fun w h=>(hx.chansR).wd h)) fun a hF=>dv 4 rfl hF hS (y_fieldRow hF rfl fa_67_0) fun a hF=>dv 5 rfl hF hS (y_loadRow hF rfl (fun w h=>(hx.chansR).wd h) Od rfl Tryz.underlying3 rfl) fun a hF=>dv 6 rfl hF hS (y_fieldOwn hF rfl fa_30_2) fun a hF=>dv 7 rfl hF hS (y_loadOwn hF rfl 0 rfl rfl Tryz.underlying28 rfl) fun a hF=>dv 8 rfl hF hS (y_move hF rfl) fun a hF=>dv 9 rfl hF hS (y_indexS hF rfl rfl Od Tryz.underlying28 sz_44 (fun w h=>(hy.linesR).wd h)) fun a hF=>dv 10 rfl hF hS (y_loadRowW hF rfl (fun w h=>(hy.linesR).wd h) Od Tryz.underlying44 rfl sz_44) fun a hF=>d_1 11 Kr ?_;refine d_op rfl rfl (e_call hF rfl rfl en_19 Rl rfl rfl (checkLine_any _ _ _ _ ((hy.line (k:=k) Om).below hW.below)) ?_);rintro e w1 ⟨rfl,hb⟩;replace hW:=hW.kept hb;clear hb;refine⟨_,rfl,fun a hF=>?_⟩;replace hS:=hW;refine⟨hS,?_⟩;refine dv 12 rfl hF hS (y_neq hF rfl rfl) fun a hF=>?_;refine Fr.splitD hF ?_ ?_
       ·intro h11 hF;clear hS;refine d_nil Kr ?_;replace hF:=hF.ks [0,1,2,3,5,6,7,11,34,39,69,84] rfl;refine t_n<|c_t hF rfl<|c_sr<|pv hF hW (y_assign hF rfl) fun a hF=>l_nil<|t_n<|wp_ret<|b_r<|t_r<|t_r<|b_r<|t_r<|ret1 Tryz.results4 hF (rv_t hF rfl) ?_
        exact⟨by rw[right_no Om (fun h=>by have hh:=h.line k Om;omega)],hW.below⟩
       ·intro h11 hF;clear hS;refine d_nil Kr ?_;replace hF:=hF.ks [0,1,2,3,5,6,7,11,34,39,69,84] rfl;refine t_n<|c_f hF rfl<|wp_skip<|b_n<|t_n<|c_r<|pv hF hW (y_move hF rfl) fun a hF=>pv hF hW (y_add hF rfl rfl (IntWalk.i64_in _ Om)) fun a hF=>?_;replace hF:=hF.drop 7;refine pv hF hW (y_assign hF rfl) fun a hF=>l_nil ?_;replace hF:=hF.ks [0,1,2,3,5,6,7,11,34,39,69,84] rfl;refine t_n ?_;refine⟨(k+1),?_,?_,?_,?_⟩
        ·exact⟨by omega,fun i hi=>by rcases Nat.lt_or_ge i k with h|h;exact hls i h;(have hik:i=k:=by omega);rw[hik];omega⟩
        ·first|omega|(dsimp only;omega)
        ·exact Fr.app (Fr.cons hF (t:=7) rfl Rf (Fr.nil hF)) (hF.ks [0,1,2,3,5,6,11,34,39] rfl)
        ·exact hW
      ·intro h10 hF;refine l_nil ?_;replace hF:=hF.ks [0,1,2,3,5,6,7,11,34,39,69] rfl;refine t_n<|c_f hF rfl<|wp_exit<|t_x<|t_x<|b_h<|t_n<|c_sr<|pv hF hW (y_assign hF rfl) fun a hF=>l_nil<|t_n<|wp_ret<|ret1 Tryz.results4 hF (rv_t hF rfl) ?_
       simp only[decide_eq_true_eq,decide_eq_false_iff_not] at*
       exact⟨by rw[right_yes Om ⟨by omega,by omega,by omega,by omega,HC,fun i hi=>hls i Om⟩],hW.below⟩
  ·intro h4 hF;refine pv hF hW (y_not hF rfl) fun a hF=>?_;replace hF:=hF.tt;refine pv hF hW (y_move hF rfl) fun a hF=>?_;replace hF:=hF.tt;refine pk hF (wn hF rfl rfl rfl) fun a hF=>pk hF (wn hF rfl rfl rfl) fun a hF=>pk hF (wn hF rfl rfl rfl) fun a hF=>pk hF (wn hF rfl rfl rfl) fun a hF=>pk hF (wn hF rfl rfl rfl) fun a hF=>pk hF (wn hF rfl rfl rfl) fun a hF=>pk hF (wn hF rfl rfl rfl) fun a hF=>pv hF hW (y_pick hF rfl rfl) fun a hF=>pv hF hW (y_move hF rfl) fun a hF=>pk hF (wn hF rfl rfl rfl) fun a hF=>pk hF (wn hF rfl rfl rfl) fun a hF=>pk hF (wn hF rfl rfl rfl) fun a hF=>pk hF (wn hF rfl rfl rfl) fun a hF=>pk hF (wn hF rfl rfl rfl) fun a hF=>pk hF (wn hF rfl rfl rfl) fun a hF=>pk hF (wn hF rfl rfl rfl) fun a hF=>pv hF hW (y_pick hF rfl rfl) fun a hF=>l_nil ?_;replace hF:=hF.ks [0,1,2,3,4,5,11,34] rfl;refine t_n<|c_t hF rfl<|c_sr ?_;replace hF:=hF.drop 4;refine pv hF hW (y_assign hF rfl) fun a hF=>l_nil<|t_n<|wp_ret<|t_r<|ret1 Tryz.results4 hF (rv_t hF rfl) ?_
   exact⟨by rw[right_no Om (fun h=>by have:=h.t0;have:=h.t1;have:=h.cl;have:=h.ll;simp only[decide_eq_true_eq,decide_eq_false_iff_not] at*;omega)],hW.below⟩
theorem wrl_ext{x y:WD}(h1:x.tick=y.tick)(h2:x.cells.length=y.cells.length)(h3:∀i,i<x.cells.length→(x.cells.getD i CD0).c=(y.cells.getD i CD0).c)(h4:x.lines.map LD.vals=y.lines.map LD.vals):x.wrl=y.wrl:=by
 have e1:x.cells.map CD.c=y.cells.map CD.c:=list_eq_getD CD0.c (by simpa using h2) fun i hi=>by rw[getD_map,getD_map];exact h3 i (by simpa using hi)
 simp only[WD.wrl,h1,e1,h4]
theorem wrl_parts{x y:WD}(h:x.wrl=y.wrl):x.tick=y.tick∧x.cells.length=y.cells.length∧(∀i,(x.cells.getD i CD0).c=(y.cells.getD i CD0).c)∧x.lines.map LD.vals=y.lines.map LD.vals:=by
 have h2:x.cells.map CD.c=y.cells.map CD.c:=congrArg Wrl.cells h
 refine⟨congrArg Wrl.tick h,by simpa using congrArg List.length h2,fun i=>?_,congrArg Wrl.lines h⟩
 have:=congrArg (fun r=>r.getD i CD0.c) h2
 simpa only[getD_map] using this
set_option maxHeartbeats 8000000 in
theorem sameWorlds_any{x y:WD}{w:World}(hx:x.At w)(hy:y.At w):Calls Tryz.prog 12 #[x.val,y.val] w fun e w'=>e=.returned (.bool (decide (x.wrl=y.wrl)))∧Below w.heap.size w w':=by
 have hl3:=hx.cells.len
 unfold maxLen at hl3
 have hsl:=fun w1 (hb:Below w.heap.size w w1)=>sameLines_any (hx.lines.below hb) (hy.lines.below hb) (fun q hq=>(hx.eachL q hq).below hb) (fun q hq=>(hy.eachL q hq).below hb)
 rw[x.val_eq,y.val_eq]
 refine enter Tryz.func12 rfl Tryz.ntmps12 rfl fun a hF=>?_
 have hW:=Wd.start w NoB
 refine c_sr ?_;refine pe (e_box hF hW rfl rfl rfl rfl ?_);intro b1 a wc hF hW;refine pe (e_box hF hW rfl rfl rfl rfl ?_);intro b2 a wc hF hW;refine pv hF hW (y_assign hF rfl) fun a hF=>l_nil<|t_n<|c_s<|c_sr<|pv hF hW (y_fieldOwn hF rfl fa_30_0) fun a hF=>pv hF hW (y_loadOwn hF rfl 1 rfl rfl Tryz.underlying3 rfl) fun a hF=>pv hF hW (y_fieldOwn hF rfl fa_30_0) fun a hF=>pv hF hW (y_loadOwn hF rfl 0 rfl rfl Tryz.underlying3 rfl) fun a hF=>pv hF hW (y_neq hF rfl rfl) fun a hF=>?_;refine Fr.splitD hF ?_ ?_
 ·intro h3 hF;refine pv hF hW (y_move hF rfl) fun a hF=>pk hF (wn hF rfl rfl rfl) fun a hF=>pk hF (wn hF rfl rfl rfl) fun a hF=>pk hF (wn hF rfl rfl rfl) fun a hF=>pk hF (wn hF rfl rfl rfl) fun a hF=>pk hF (wn hF rfl rfl rfl) fun a hF=>pk hF (wn hF rfl rfl rfl) fun a hF=>pk hF (wn hF rfl rfl rfl) fun a hF=>pv hF hW (y_pick hF rfl rfl) fun a hF=>pv hF hW (y_move hF rfl) fun a hF=>pk hF (wn hF rfl rfl rfl) fun a hF=>pk hF (wn hF rfl rfl rfl) fun a hF=>pk hF (wn hF rfl rfl rfl) fun a hF=>pk hF (wn hF rfl rfl rfl) fun a hF=>pk hF (wn hF rfl rfl rfl) fun a hF=>pk hF (wn hF rfl rfl rfl) fun a hF=>pv hF hW (y_pick hF rfl rfl) fun a hF=>l_nil ?_;replace hF:=hF.ks [0,1,2,3,4,27] rfl;refine t_n<|c_t hF rfl<|c_sr ?_;replace hF:=hF.drop 4;refine pv hF hW (y_assign hF rfl) fun a hF=>l_nil<|t_n<|wp_ret<|t_r<|ret1 Tryz.results12 hF (rv_t hF rfl) ?_
  exact⟨by rw[decide_eq_false fun e=>by obtain⟨e1,e2,-,e4⟩:=wrl_parts e;first|omega|simp_all],hW.below⟩
 ·intro h3 hF;refine pv hF hW (y_move hF rfl) fun a hF=>pvg hF hW (y_fieldOwn hF rfl fa_30_1) (ws hF rfl rfl) fun a hF=>pvg hF hW (y_loadOwn hF rfl 1 rfl rfl Tryz.underlying27 rfl) (ws hF rfl rfl) fun a hF=>pvg hF hW (y_len hF rfl Tryz.underlying27) (ws hF rfl rfl) fun a hF=>pvg hF hW (y_fieldOwn hF rfl fa_30_1) (ws hF rfl rfl) fun a hF=>pvg hF hW (y_loadOwn hF rfl 0 rfl rfl Tryz.underlying27 rfl) (ws hF rfl rfl) fun a hF=>pvg hF hW (y_len hF rfl Tryz.underlying27) (ws hF rfl rfl) fun a hF=>pvg hF hW (y_neq hF rfl rfl) (ws hF rfl rfl) fun a hF=>?_;refine Fr.splitD hF ?_ ?_
  ·intro h4 hF;refine pv hF hW (y_pick hF rfl rfl) fun a hF=>pv hF hW (y_move hF rfl) fun a hF=>pk hF (wn hF rfl rfl rfl) fun a hF=>pk hF (wn hF rfl rfl rfl) fun a hF=>pk hF (wn hF rfl rfl rfl) fun a hF=>pk hF (wn hF rfl rfl rfl) fun a hF=>pk hF (wn hF rfl rfl rfl) fun a hF=>pk hF (wn hF rfl rfl rfl) fun a hF=>pv hF hW (y_pick hF rfl rfl) fun a hF=>l_nil ?_;replace hF:=hF.ks [0,1,2,3,4,27] rfl;refine t_n<|c_t hF rfl<|c_sr ?_;replace hF:=hF.drop 4;refine pv hF hW (y_assign hF rfl) fun a hF=>l_nil<|t_n<|wp_ret<|t_r<|ret1 Tryz.results12 hF (rv_t hF rfl) ?_
   exact⟨by rw[decide_eq_false fun e=>by obtain⟨e1,e2,-,e4⟩:=wrl_parts e;first|omega|simp_all],hW.below⟩
  ·intro h4 hF;refine pv hF hW (y_pick hF rfl rfl) fun a hF=>pv hF hW (y_move hF rfl) fun a hF=>pvg hF hW (y_fieldOwn hF rfl fa_30_2) (ws hF rfl rfl) fun a hF=>pvg hF hW (y_loadOwn hF rfl 1 rfl rfl Tryz.underlying28 rfl) (ws hF rfl rfl) fun a hF=>pvg hF hW (y_fieldOwn hF rfl fa_30_2) (ws hF rfl rfl) fun a hF=>pvg hF hW (y_loadOwn hF rfl 0 rfl rfl Tryz.underlying28 rfl) (ws hF rfl rfl) fun a hF=>?_;refine pe (e_call hF rfl rfl en_35 Rl rfl rfl (hsl _ hW.below) ?_) (ws hF rfl rfl);rintro e w1 ⟨rfl,hb⟩;replace hW:=hW.kept hb;clear hb;refine⟨_,rfl,fun a hF=>?_⟩;refine Fr.splitB hF ?_ ?_
   ·intro h5 hF;refine pvg hF hW (y_not hF rfl) (ws hF rfl rfl) fun a hF=>?_;replace hF:=hF.ff;refine pv hF hW (y_pick hF rfl rfl) fun a hF=>?_;replace hF:=hF.ff;refine l_nil ?_;replace hF:=hF.ks [0,1,2,3,4,27] rfl;refine t_n<|c_f hF rfl<|wp_skip<|t_n<|c_s<|c_sr<|pv hF hW (y_assign hF rfl) fun a hF=>l_nil<|t_n<|wp_block ?_;refine c_loop (G:=Nat) (fun k:Nat=>[(5,.int .i64 (k:Int))]) (fun k:Nat=>[]) (fun k:Nat=>k≤x.cells.length∧∀i,i<k→(x.cells.getD i CD0).c=(y.cells.getD i CD0).c) (fun k:Nat=>x.cells.length - k) 0 (hF.ks [0,1,2,3,27] rfl) (Fr.cons hF (t:=5) rfl Rg (Fr.nil hF)) (hW) ?_ ?_
    ·exact⟨by omega,fun i hi=>by omega⟩
    clear hF hW
    try clear a
    intro k a wc hC hF hW
    obtain⟨hk,heq⟩:=hC
    refine c_s<|c_sr<|pv hF hW (y_move hF rfl) fun a hF=>pv hF hW (y_fieldOwn hF rfl fa_30_1) fun a hF=>pv hF hW (y_loadOwn hF rfl 1 rfl rfl Tryz.underlying27 rfl) fun a hF=>pv hF hW (y_len hF rfl Tryz.underlying27) fun a hF=>pv hF hW (y_lss hF rfl rfl) fun a hF=>?_;refine Fr.splitD hF ?_ ?_
    ·intro h6 hF;refine l_nil ?_;replace hF:=hF.ks [0,1,2,3,5,27,32] rfl;refine t_n<|c_t hF rfl<|wp_skip<|t_n<|c_s<|wp_block<|c_sd mixed_ok hW (hW) ?_
     clear hW;intro wc hW hS
     refine dv 0 rfl hF hS (y_fieldOwn hF rfl fa_30_1) fun a hF=>dv 1 rfl hF hS (y_loadOwn hF rfl 1 rfl rfl Tryz.underlying27 rfl) fun a hF=>dv 2 rfl hF hS (y_move hF rfl) fun a hF=>dv 3 rfl hF hS (y_indexS hF rfl rfl Od Tryz.underlying27 sz_42 (fun w h=>(hx.cellsR).wd h)) fun a hF=>dv 4 rfl hF hS (y_loadRowW hF rfl (fun w h=>(hx.cellsR).wd h) Od Tryz.underlying42 rfl (by show _=some (encC _).length;rw[encC_len];exact sz_42)) fun a hF=>dv 5 rfl hF hS (y_fieldOwn hF rfl fa_30_1) fun a hF=>dv 6 rfl hF hS (y_loadOwn hF rfl 0 rfl rfl Tryz.underlying27 rfl) fun a hF=>dv 7 rfl hF hS (y_move hF rfl) fun a hF=>dv 8 rfl hF hS (y_indexS hF rfl rfl Od Tryz.underlying27 sz_42 (fun w h=>(hy.cellsR).wd h)) fun a hF=>dv 9 rfl hF hS (y_loadRowW hF rfl (fun w h=>(hy.cellsR).wd h) Od Tryz.underlying42 rfl (by show _=some (encC _).length;rw[encC_len];exact sz_42)) fun a hF=>d_1 10 Kr ?_;refine d_op rfl rfl (e_call hF rfl rfl en_36 Rl rfl rfl (sameCells_any _ _ _ _ (x.cells.getD k CD0).wf (y.cells.getD k CD0).wf _ (Ints.below (hx.cell (k:=k) Om) hW.below) (Ints.below (hy.cell (k:=k) Om) hW.below)) ?_);rintro e w1 ⟨rfl,hb⟩;replace hW:=hW.kept hb;clear hb;refine⟨_,rfl,fun a hF=>?_⟩;refine Fr.splitB hF ?_ ?_
     ·intro h7 hF;replace hS:=hW;refine⟨hS,?_⟩;refine dv 11 rfl hF hS (y_not hF rfl) fun a hF=>?_;replace hF:=hF.ff;clear hS;refine d_nil Kr ?_;replace hF:=hF.ks [0,1,2,3,5,27,32,46] rfl;refine t_n<|c_f hF rfl<|wp_skip<|b_n<|t_n<|c_r<|pv hF hW (y_move hF rfl) fun a hF=>pv hF hW (y_add hF rfl rfl (IntWalk.i64_in _ Om)) fun a hF=>?_;replace hF:=hF.drop 5;refine pv hF hW (y_assign hF rfl) fun a hF=>l_nil ?_;replace hF:=hF.ks [0,1,2,3,5,27,32,46] rfl;refine t_n ?_;refine⟨(k+1),?_,?_,?_,?_⟩
      ·exact⟨by omega,fun i hi=>by rcases Nat.lt_or_ge i k with h|h;exact heq i h;(have hik:i=k:=by omega);rw[hik];simp_all⟩
      ·first|omega|(dsimp only;omega)
      ·exact Fr.app (Fr.cons hF (t:=5) rfl Rf (Fr.nil hF)) (hF.ks [0,1,2,3,27] rfl)
      ·exact hW
     ·intro h7 hF;replace hS:=hW;refine⟨hS,?_⟩;refine dv 11 rfl hF hS (y_not hF rfl) fun a hF=>?_;replace hF:=hF.tt;clear hS;refine d_nil Kr ?_;replace hF:=hF.ks [0,1,2,3,5,27,32,46] rfl;refine t_n<|c_t hF rfl<|c_sr<|pv hF hW (y_assign hF rfl) fun a hF=>l_nil<|t_n<|wp_ret<|b_r<|t_r<|t_r<|b_r<|t_r<|ret1 Tryz.results12 hF (rv_t hF rfl) ?_
      exact⟨by rw[decide_eq_false fun e=>by have q:=(wrl_parts e).2.2.1 k;simp_all],hW.below⟩
    ·intro h6 hF;refine l_nil ?_;replace hF:=hF.ks [0,1,2,3,5,27,32] rfl;refine t_n<|c_f hF rfl<|wp_exit<|t_x<|t_x<|b_h<|t_n<|c_sr<|pv hF hW (y_assign hF rfl) fun a hF=>l_nil<|t_n<|wp_ret<|ret1 Tryz.results12 hF (rv_t hF rfl) ?_
     exact⟨by rw[decide_eq_true (wrl_ext Om Om (fun i hi=>heq i Om) (by simp_all))],hW.below⟩
   ·intro h5 hF;refine pvg hF hW (y_not hF rfl) (ws hF rfl rfl) fun a hF=>?_;replace hF:=hF.tt;refine pv hF hW (y_pick hF rfl rfl) fun a hF=>?_;replace hF:=hF.tt;refine l_nil ?_;replace hF:=hF.ks [0,1,2,3,4,27] rfl;refine t_n<|c_t hF rfl<|c_sr ?_;replace hF:=hF.drop 4;refine pv hF hW (y_assign hF rfl) fun a hF=>l_nil<|t_n<|wp_ret<|t_r<|ret1 Tryz.results12 hF (rv_t hF rfl) ?_
    exact⟨by rw[decide_eq_false fun e=>by obtain⟨e1,e2,-,e4⟩:=wrl_parts e;first|omega|simp_all],hW.below⟩
end Go.Proofs.YtndcjmopebcdgaaGreat
