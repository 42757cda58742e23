/- kern.Check and the reference's CheckWorld find the same. -/
import Derived.Test.YtndcjmopebcdgaaGreatKernD
import Derived.Test.YtndcjmopebcdgaaGreatEngU
import Derived.Test.YtndcjmopebcdgaaGreatCellRef
import Derived.Test.YtndcjmopebcdgaaGreatLineB
import Derived.Test.YtndcjmopebcdgaaGreatConfC1
set_option linter.unusedSimpArgs false
set_option linter.unusedVariables false
namespace Go.Proofs.YtndcjmopebcdgaaGreat
open Go.ChangeShapes Go.WideShapes Go.ChangeAt Go.RowKit
set_option maxRecDepth 100000
structure RightD(x:SysD)(y:WD):Prop where
 t0:0≤y.tick
 t1:y.tick≤300
 cl:y.cells.length=x.parts.length
 ll:y.lines.length=x.chans.length
 cell:∀k,k<y.cells.length→cellFine (y.cells.getD k CD0).c=true∧(y.cells.getD k CD0).c.read≤(x.parts.getD k P0).1.inp.length
 line:∀k,k<y.lines.length→chkLine (x.chans.getD k C0).kind (y.lines.getD k LD0).vals.length=0
theorem rightD_iff{x:SysD}{y:WD}:Right x.sys y.wrl↔RightD x y:=by
 have e1:∀k,(y.cells.map CD.c).getD k Cel.zero=(y.cells.getD k CD0).c:=fun k=>getD_map CD.c k CD0
 have e2:∀k,(x.parts.map Prod.fst).getD k Pt0=(x.parts.getD k P0).1:=fun k=>getD_map Prod.fst k P0
 have e3:∀k,(y.lines.map LD.vals).getD k []=(y.lines.getD k LD0).vals:=fun k=>getD_map LD.vals k LD0
 constructor
 ·intro h
  refine⟨h.t0,h.t1,?_,?_,fun k hk=>?_,fun k hk=>?_⟩
  ·simpa[SysD.sys,WD.wrl] using h.cl
  ·simpa[SysD.sys,WD.wrl] using h.ll
  ·have:=h.cell k (by simpa[WD.wrl] using hk)
   simp only[SysD.sys,WD.wrl,e1,e2] at this
   exact this
  ·have:=h.line k (by simpa[WD.wrl] using hk)
   simp only[SysD.sys,WD.wrl,e3] at this
   exact this
 ·intro h
  refine⟨h.t0,h.t1,by simpa[SysD.sys,WD.wrl] using h.cl,by simpa[SysD.sys,WD.wrl] using h.ll,fun k hk=>?_,fun k hk=>?_⟩
  ·simp only[SysD.sys,WD.wrl,e1,e2]
   exact h.cell k (by simpa[WD.wrl] using hk)
  ·simp only[SysD.sys,WD.wrl,e3]
   exact h.line k (by simpa[WD.wrl] using hk)
theorem cellErr_fine{c:Cel}(h:cellErr c=0):cellFine c=true:=by
 unfold cellErr at h
 split at h
 ·assumption
 ·cases h
theorem right_yes{x:SysD}{y:WD}(hk:chkSys x.sys=0)(h:RightD x y):chkWorld x.sys y.wrl=0:=chkWorld_0 hk (right_iff.2 (rightD_iff.2 h))
theorem right_no{x:SysD}{y:WD}(hk:chkSys x.sys=0)(h:¬RightD x y):chkWorld x.sys y.wrl=1:=chkWorld_1 hk (by
 cases hw:wrlOk x.sys y.wrl
 ·rfl
 ·exact absurd (rightD_iff.1 (right_iff.1 hw)) h)
set_option maxHeartbeats 8000000 in
theorem kernCheck_any{x:SysD}{y:WD}{w:World}(hx:x.At w)(hy:y.At w):
  Calls Tryz.prog 23 #[x.val,y.val] w fun e w'=>e=.returned (.int .i64 (chkWorld x.sys y.wrl))∧Below w.heap.size w w':=by
 have hl1:=hx.parts.len
 have hl2:=hx.chans.len
 have hl3:=hy.cells.len
 have hl4:=hy.lines.len
 unfold maxLen at hl1 hl2 hl3 hl4
 rw[x.val_eq,y.val_eq]
 refine enter Tryz.func23 rfl Tryz.ntmps23 rfl fun a hF=>?_
 have hW:=Wd.start w NoB
 refine c_sr ?_;refine pe (e_box hF hW rfl rfl rfl rfl ?_);intro b1 a wc hF hW;refine pe (e_box hF hW rfl rfl rfl rfl ?_);intro b2 a wc hF hW;refine pv hF hW (y_assign hF rfl) fun a hF=>l_nil<|t_n<|c_s<|c_sr<|pv hF hW (y_loadAll hF rfl 1 rfl Tryz.underlying26 rfl sz_26) fun a hF=>?_;refine pe (e_call hF rfl rfl en_47 Rl rfl rfl (confCheck_any (hx.below hW.below)) ?_);rintro e w1 ⟨rfl,hb⟩;replace hW:=hW.kept hb;clear hb;refine⟨_,rfl,fun a hF=>?_⟩;refine pv hF hW (y_assign hF rfl) fun a hF=>l_nil ?_;replace hF:=hF.ks [0,1,2,3,4,5] rfl;refine t_n<|c_sr<|pv hF hW (y_move hF rfl) fun a hF=>pv hF hW (y_neq hF rfl rfl) fun a hF=>?_;refine Fr.splitD hF ?_ ?_
 ·intro h3 hF;refine l_nil ?_;replace hF:=hF.ks [0,1,2,3,4,5,13] rfl;refine t_n<|c_t hF rfl<|c_sr<|pv hF hW (y_move hF rfl) fun a hF=>?_;replace hF:=hF.drop 4;refine pv hF hW (y_assign hF rfl) fun a hF=>l_nil ?_;replace hF:=hF.ks [0,1,2,3,4,5,13] rfl;refine t_n<|wp_ret<|t_r<|ret1 Tryz.results23 hF (rv_t hF rfl) ?_
  exact⟨by rw[chkWorld_c Am],hW.below⟩
 ·intro h3 hF;refine l_nil ?_;replace hF:=hF.ks [0,1,2,3,4,5,13] rfl;refine t_n<|c_f hF rfl<|wp_skip<|t_n<|c_s<|c_sr<|pv hF hW (y_fieldOwn hF rfl fa_30_0) fun a hF=>pv hF hW (y_loadOwn hF rfl 0 rfl rfl Tryz.underlying3 rfl) fun a hF=>pv hF hW (y_lss hF rfl rfl) fun a hF=>?_;refine Fr.splitD hF ?_ ?_
  ·intro h4 hF;refine pv hF hW (y_move hF rfl) fun a hF=>pk hF (wn hF rfl rfl rfl) fun a hF=>pk hF (wn hF rfl rfl rfl) fun a hF=>pk hF (wn hF rfl rfl rfl) fun a hF=>pv hF hW (y_pick hF rfl rfl) fun a hF=>pv hF hW (y_move hF rfl) fun a hF=>pk hF (wn hF rfl rfl rfl) fun a hF=>pk hF (wn hF rfl rfl rfl) fun a hF=>pk hF (wn hF rfl rfl rfl) fun a hF=>pk hF (wn hF rfl rfl rfl) fun a hF=>pk hF (wn hF rfl rfl rfl) fun a hF=>pk hF (wn hF rfl rfl rfl) fun a hF=>pk hF (wn hF rfl rfl rfl) fun a hF=>pv hF hW (y_pick hF rfl rfl) fun a hF=>pv hF hW (y_move hF rfl) fun a hF=>pk hF (wn hF rfl rfl rfl) fun a hF=>pk hF (wn hF rfl rfl rfl) fun a hF=>pk hF (wn hF rfl rfl rfl) fun a hF=>pk hF (wn hF rfl rfl rfl) fun a hF=>pk hF (wn hF rfl rfl rfl) fun a hF=>pk hF (wn hF rfl rfl rfl) fun a hF=>pk hF (wn hF rfl rfl rfl) fun a hF=>pv hF hW (y_pick hF rfl rfl) fun a hF=>l_nil ?_;replace hF:=hF.ks [0,1,2,3,4,5,13,40] rfl;refine t_n<|c_t hF rfl<|c_sr ?_;replace hF:=hF.drop 4;refine pv hF hW (y_assign hF rfl) fun a hF=>l_nil<|t_n<|wp_ret<|t_r<|ret1 Tryz.results23 hF (rv_t hF rfl) ?_
   exact⟨by rw[right_no Om (fun h=>by have:=h.t0;have:=h.t1;have:=h.cl;have:=h.ll;omega)],hW.below⟩
  ·intro h4 hF;refine pv hF hW (y_move hF rfl) fun a hF=>pvg hF hW (y_fieldOwn hF rfl fa_30_0) (ws hF rfl rfl) fun a hF=>pvg hF hW (y_loadOwn hF rfl 0 rfl rfl Tryz.underlying3 rfl) (ws hF rfl rfl) fun a hF=>pvg hF hW (y_gtr hF rfl rfl) (ws hF rfl rfl) fun a hF=>?_;refine Fr.splitD hF ?_ ?_
   ·intro h5 hF;refine pv hF hW (y_pick hF rfl rfl) fun a hF=>pv hF hW (y_move hF rfl) fun a hF=>pk hF (wn hF rfl rfl rfl) fun a hF=>pk hF (wn hF rfl rfl rfl) fun a hF=>pk hF (wn hF rfl rfl rfl) fun a hF=>pk hF (wn hF rfl rfl rfl) fun a hF=>pk hF (wn hF rfl rfl rfl) fun a hF=>pk hF (wn hF rfl rfl rfl) fun a hF=>pk hF (wn hF rfl rfl rfl) fun a hF=>pv hF hW (y_pick hF rfl rfl) fun a hF=>pv hF hW (y_move hF rfl) fun a hF=>pk hF (wn hF rfl rfl rfl) fun a hF=>pk hF (wn hF rfl rfl rfl) fun a hF=>pk hF (wn hF rfl rfl rfl) fun a hF=>pk hF (wn hF rfl rfl rfl) fun a hF=>pk hF (wn hF rfl rfl rfl) fun a hF=>pk hF (wn hF rfl rfl rfl) fun a hF=>pk hF (wn hF rfl rfl rfl) fun a hF=>pv hF hW (y_pick hF rfl rfl) fun a hF=>l_nil ?_;replace hF:=hF.ks [0,1,2,3,4,5,13,40] rfl;refine t_n<|c_t hF rfl<|c_sr ?_;replace hF:=hF.drop 4;refine pv hF hW (y_assign hF rfl) fun a hF=>l_nil<|t_n<|wp_ret<|t_r<|ret1 Tryz.results23 hF (rv_t hF rfl) ?_
    exact⟨by rw[right_no Om (fun h=>by have:=h.t0;have:=h.t1;have:=h.cl;have:=h.ll;omega)],hW.below⟩
   ·intro h5 hF;refine pv hF hW (y_pick hF rfl rfl) fun a hF=>pv hF hW (y_move hF rfl) fun a hF=>pvg hF hW (y_fieldOwn hF rfl fa_30_1) (ws hF rfl rfl) fun a hF=>pvg hF hW (y_loadOwn hF rfl 0 rfl rfl Tryz.underlying27 rfl) (ws hF rfl rfl) fun a hF=>pvg hF hW (y_len hF rfl Tryz.underlying27) (ws hF rfl rfl) fun a hF=>pvg hF hW (y_fieldOwn hF rfl fa_26_0) (ws hF rfl rfl) fun a hF=>pvg hF hW (y_loadOwn hF rfl 1 rfl rfl Tryz.underlying22 rfl) (ws hF rfl rfl) fun a hF=>pvg hF hW (y_len hF rfl Tryz.underlying22) (ws hF rfl rfl) fun a hF=>pvg hF hW (y_neq hF rfl rfl) (ws hF rfl rfl) fun a hF=>?_;refine Fr.splitD hF ?_ ?_
    ·intro h6 hF;refine pv hF hW (y_pick hF rfl rfl) fun a hF=>pv hF hW (y_move hF rfl) fun a hF=>pk hF (wn hF rfl rfl rfl) fun a hF=>pk hF (wn hF rfl rfl rfl) fun a hF=>pk hF (wn hF rfl rfl rfl) fun a hF=>pk hF (wn hF rfl rfl rfl) fun a hF=>pk hF (wn hF rfl rfl rfl) fun a hF=>pk hF (wn hF rfl rfl rfl) fun a hF=>pk hF (wn hF rfl rfl rfl) fun a hF=>pv hF hW (y_pick hF rfl rfl) fun a hF=>l_nil ?_;replace hF:=hF.ks [0,1,2,3,4,5,13,40] rfl;refine t_n<|c_t hF rfl<|c_sr ?_;replace hF:=hF.drop 4;refine pv hF hW (y_assign hF rfl) fun a hF=>l_nil<|t_n<|wp_ret<|t_r<|ret1 Tryz.results23 hF (rv_t hF rfl) ?_
     exact⟨by rw[right_no Om (fun h=>by have:=h.t0;have:=h.t1;have:=h.cl;have:=h.ll;omega)],hW.below⟩
    ·intro h6 hF;refine pv hF hW (y_pick hF rfl rfl) fun a hF=>pv hF hW (y_move hF rfl) fun a hF=>pvg hF hW (y_fieldOwn hF rfl fa_30_2) (ws hF rfl rfl) fun a hF=>pvg hF hW (y_loadOwn hF rfl 0 rfl rfl Tryz.underlying28 rfl) (ws hF rfl rfl) fun a hF=>pvg hF hW (y_len hF rfl Tryz.underlying28) (ws hF rfl rfl) fun a hF=>pvg hF hW (y_fieldOwn hF rfl fa_26_1) (ws hF rfl rfl) fun a hF=>pvg hF hW (y_loadOwn hF rfl 1 rfl rfl Tryz.underlying23 rfl) (ws hF rfl rfl) fun a hF=>pvg hF hW (y_len hF rfl Tryz.underlying23) (ws hF rfl rfl) fun a hF=>pvg hF hW (y_neq hF rfl rfl) (ws hF rfl rfl) fun a hF=>?_;refine Fr.splitD hF ?_ ?_
     ·intro h7 hF;refine pv hF hW (y_pick hF rfl rfl) fun a hF=>l_nil ?_;replace hF:=hF.ks [0,1,2,3,4,5,13,40] rfl;refine t_n<|c_t hF rfl<|c_sr ?_;replace hF:=hF.drop 4;refine pv hF hW (y_assign hF rfl) fun a hF=>l_nil<|t_n<|wp_ret<|t_r<|ret1 Tryz.results23 hF (rv_t hF rfl) ?_
      exact⟨by rw[right_no Om (fun h=>by have:=h.t0;have:=h.t1;have:=h.cl;have:=h.ll;omega)],hW.below⟩
     ·intro h7 hF;refine pv hF hW (y_pick hF rfl rfl) fun a hF=>l_nil ?_;replace hF:=hF.ks [0,1,2,3,4,5,13,40] rfl;refine t_n<|c_f hF rfl<|wp_skip<|t_n<|c_s<|c_sr<|pv hF hW (y_fieldOwn hF rfl fa_30_1) fun a hF=>pv hF hW (y_loadOwn hF rfl 0 rfl rfl Tryz.underlying27 rfl) fun a hF=>pv hF hW (y_len hF rfl Tryz.underlying27) fun a hF=>pv hF hW (y_move hF rfl) fun a hF=>l_nil ?_;replace hF:=hF.ks [0,1,2,3,4,5,13,40,42,43,44] rfl;refine t_n<|wp_block ?_;refine c_loop (G:=Nat) (fun k:Nat=>[(44,.int .i64 (k:Int))]) (fun k:Nat=>[]) (fun k:Nat=>k≤y.cells.length∧∀i,i<k→cellFine (y.cells.getD i CD0).c=true∧(y.cells.getD i CD0).c.read≤(x.parts.getD i P0).1.inp.length) (fun k:Nat=>y.cells.length - k) 0 (hF.ks [0,1,2,3,5,13,40,42,43] rfl) (Fr.cons hF (t:=44) rfl Rg (Fr.nil hF)) (hW) ?_ ?_
      ·exact⟨by omega,fun i hi=>by omega⟩
      clear hF hW
      try clear a
      intro k a wc hC hF hW
      obtain⟨hk,hcs⟩:=hC
      refine c_sr<|pv hF hW (y_lss hF rfl rfl) fun a hF=>?_;refine Fr.splitD hF ?_ ?_
      ·intro h8 hF;refine l_nil<|t_n<|c_s<|c_t hF rfl<|wp_skip<|t_n<|c_s<|wp_block ?_
       have hcat:=hy.cell (k:=k) Om
       obtain⟨q,hq⟩:∃q,y.cells.getD k CD0=q:=⟨_,rfl⟩
       rw[hq] at hcat
       obtain⟨⟨at_,regs,mem,rd,out,en⟩,hwf,qa,qk⟩:=q
       obtain⟨r0,r1,r2,r3,hregs⟩:=len_four hwf.1
       obtain⟨m0,m1,m2,m3,m4,m5,m6,m7,hmem⟩:=len_eight hwf.2
       dsimp only at hregs hmem
       subst hregs hmem
       have hchk:=fun w1 ho=>cellCheck_any ⟨at_,[r0,r1,r2,r3],[m0,m1,m2,m3,m4,m5,m6,m7],rd,out,en⟩ (.slice qa out.length qk) hwf w1 ho
       rw[celV_eq] at hchk
       refine c_sr<|pv hF hW (y_move hF rfl) fun a hF=>pv hF hW (y_indexS hF rfl rfl Od Tryz.underlying27 sz_42 (fun w h=>(hy.cellsR).wd h)) fun a hF=>pv hF hW (y_loadRowW hF rfl (fun w h=>(hy.cellsR).wd h) Od Tryz.underlying42 rfl (by rw[hq];exact sz_42)) fun a hF=>?_;replace hF:=Fr.cast (v':=.agg #[.int .i64 at_,.int .i64 r0,.int .i64 r1,.int .i64 r2,.int .i64 r3,.int .i64 m0,.int .i64 m1,.int .i64 m2,.int .i64 m3,.int .i64 m4,.int .i64 m5,.int .i64 m6,.int .i64 m7,.int .i64 rd,.slice qa out.length qk,.int .i64 en]) (by rw[hq];rfl) hF;refine pe (e_alloc hF hW ze_42 rfl rfl rfl ?_);intro b9 a wc hF hW;refine pv hF hW (y_assign hF rfl) fun a hF=>?_;refine pe (e_storeAll rfl hF hW rfl rfl 0 rfl rfl rfl Kr sz_42 ?_);intro wc hW;refine l_nil ?_;replace hF:=hF.ks [0,1,2,3,5,6,7,13,40,42,43,44,45] rfl;refine t_n<|c_sd mixed_ok hW (hW) ?_
       clear hW;intro wc hW hS
       refine dv 0 rfl hF hS (y_loadAll hF rfl 0 rfl Tryz.underlying42 rfl sz_42) fun a hF=>d_1 1 Kr ?_;refine d_op rfl rfl (e_call hF rfl rfl en_50 Rl rfl rfl (hchk _ (hcat.below hW.below)) ?_);rintro e w1 ⟨rfl,hb⟩;replace hW:=hW.kept hb;clear hb;refine⟨_,rfl,fun a hF=>?_⟩;replace hS:=hW;refine⟨hS,?_⟩;refine dv 2 rfl hF hS (y_neq hF rfl rfl) fun a hF=>?_;refine Fr.splitD hF ?_ ?_
       ·intro h10 hF;refine dv 3 rfl hF hS (y_move hF rfl) fun a hF=>dk 4 rfl hF (wn hF rfl rfl rfl) hS fun a hF=>dk 5 rfl hF (wn hF rfl rfl rfl) hS fun a hF=>dk 6 rfl hF (wn hF rfl rfl rfl) hS fun a hF=>dk 7 rfl hF (wn hF rfl rfl rfl) hS fun a hF=>dk 8 rfl hF (wn hF rfl rfl rfl) hS fun a hF=>dk 9 rfl hF (wn hF rfl rfl rfl) hS fun a hF=>dk 10 rfl hF (wn hF rfl rfl rfl) hS fun a hF=>dk 11 rfl hF (wn hF rfl rfl rfl) hS fun a hF=>dk 12 rfl hF (wn hF rfl rfl rfl) hS fun a hF=>dk 13 rfl hF (wn hF rfl rfl rfl) hS fun a hF=>dv 14 rfl hF hS (y_pick hF rfl rfl) fun a hF=>?_;clear hS;refine d_nil Kr ?_;replace hF:=hF.ks [0,1,2,3,5,6,7,13,40,42,43,44,45,63] rfl;refine t_n<|c_t hF rfl<|c_sr<|pv hF hW (y_assign hF rfl) fun a hF=>l_nil<|t_n<|wp_ret<|b_r<|t_r<|t_r<|b_r<|t_r<|ret1 Tryz.results23 hF (rv_t hF rfl) ?_
        exact⟨by rw[right_no Om (fun h=>by have hh:=(h.cell k Om).1;rw[hq] at hh;exact h10 (by unfold cellErr;rw[if_pos hh]))],hW.below⟩
       ·intro h10 hF;refine dv 3 rfl hF hS (y_move hF rfl) fun a hF=>dvg 4 rfl hF hS (y_fieldOwn hF rfl fa_42_3) (ws hF rfl rfl) fun a hF=>dvg 5 rfl hF hS (y_loadOwn hF rfl 0 rfl rfl Tryz.underlying3 rfl) (ws hF rfl rfl) fun a hF=>dvg 6 rfl hF hS (y_fieldOwn hF rfl fa_26_0) (ws hF rfl rfl) fun a hF=>dvg 7 rfl hF hS (y_loadOwn hF rfl 2 rfl rfl Tryz.underlying22 rfl) (ws hF rfl rfl) fun a hF=>dvg 8 rfl hF hS (y_move hF rfl) (ws hF rfl rfl) fun a hF=>dvg 9 rfl hF hS (y_indexS hF rfl rfl Od Tryz.underlying22 sz_49 (fun w h=>(hx.partsR).wd h)) (ws hF rfl rfl) fun a hF=>dvg 10 rfl hF hS (y_fieldRow hF rfl fa_49_1) (ws hF rfl rfl) fun a hF=>dvg 11 rfl hF hS (y_loadRow hF rfl (fun w h=>(hx.partsR).wd h) Od rfl Tryz.underlying40 rfl) (ws hF rfl rfl) fun a hF=>dvg 12 rfl hF hS (y_len hF rfl Tryz.underlying40) (ws hF rfl rfl) fun a hF=>dvg 13 rfl hF hS (y_gtr hF rfl rfl) (ws hF rfl rfl) fun a hF=>?_;refine Fr.splitD hF ?_ ?_
        ·intro h11 hF;refine dv 14 rfl hF hS (y_pick hF rfl rfl) fun a hF=>?_;clear hS;refine d_nil Kr ?_;replace hF:=hF.ks [0,1,2,3,5,6,7,13,40,42,43,44,45,63] rfl;refine t_n<|c_t hF rfl<|c_sr<|pv hF hW (y_assign hF rfl) fun a hF=>l_nil<|t_n<|wp_ret<|b_r<|t_r<|t_r<|b_r<|t_r<|ret1 Tryz.results23 hF (rv_t hF rfl) ?_
         exact⟨by rw[right_no Om (fun h=>by have hh:=(h.cell k Om).2;rw[hq] at hh;dsimp only at hh;omega)],hW.below⟩
        ·intro h11 hF;refine dv 14 rfl hF hS (y_pick hF rfl rfl) fun a hF=>?_;clear hS;refine d_nil Kr ?_;replace hF:=hF.ks [0,1,2,3,5,6,7,13,40,42,43,44,45,63] rfl;refine t_n<|c_f hF rfl<|wp_skip<|b_n<|t_n<|c_r<|pv hF hW (y_add hF rfl rfl (IntWalk.i64_in _ Om)) fun a hF=>?_;replace hF:=hF.drop 44;refine pv hF hW (y_move hF rfl) fun a hF=>l_nil ?_;replace hF:=hF.ks [0,1,2,3,5,6,7,13,40,42,43,44,45,63] rfl;replace hW:=hW.del 0 rfl;refine t_n ?_;refine⟨(k+1),?_,?_,?_,?_⟩
         ·exact⟨by omega,fun i hi=>by rcases Nat.lt_or_ge i k with h|h;exact hcs i h;(have hik:i=k:=by omega);rw[hik,hq];exact⟨cellErr_fine (Decidable.of_not_not h10),by dsimp only;omega⟩⟩
         ·first|omega|(dsimp only;omega)
         ·exact Fr.app (Fr.cons hF (t:=44) rfl Rf (Fr.nil hF)) (hF.ks [0,1,2,3,5,13,40,42,43] rfl)
         ·exact hW
      ·intro h8 hF;refine l_nil<|t_n<|c_s<|c_f hF rfl<|wp_exit<|t_x<|t_x<|b_h<|t_n<|c_s ?_
       have HC:∀i,i<y.cells.length→cellFine (y.cells.getD i CD0).c=true∧(y.cells.getD i CD0).c.read≤(x.parts.getD i P0).1.inp.length:=fun i hi=>hcs i Om
       refine c_sr<|pv hF hW (y_fieldOwn hF rfl fa_30_2) fun a hF=>pv hF hW (y_loadOwn hF rfl 0 rfl rfl Tryz.underlying28 rfl) fun a hF=>pv hF hW (y_len hF rfl Tryz.underlying28) fun a hF=>pv hF hW (y_move hF rfl) fun a hF=>l_nil ?_;replace hF:=hF.ks [0,1,2,3,5,13,40,42,43,44,45,66,67,68] rfl;refine t_n<|wp_block ?_;refine c_loop (G:=Nat) (fun k:Nat=>[(68,.int .i64 (k:Int))]) (fun k:Nat=>[]) (fun k:Nat=>k≤y.lines.length∧∀i,i<k→chkLine (x.chans.getD i C0).kind (y.lines.getD i LD0).vals.length=0) (fun k:Nat=>y.lines.length - k) 0 (hF.ks [0,1,2,3,5,13,40,42,43,44,45,66,67] rfl) (Fr.cons hF (t:=68) rfl Rg (Fr.nil hF)) (hW) ?_ ?_
       ·exact⟨by omega,fun i hi=>by omega⟩
       clear hF hW
       try clear a
       intro k a wc hC hF hW
       obtain⟨hk,hls⟩:=hC
       refine c_sr<|pv hF hW (y_lss hF rfl rfl) fun a hF=>?_;refine Fr.splitD hF ?_ ?_
       ·intro h12 hF;refine l_nil<|t_n<|c_s<|c_t hF rfl<|wp_skip<|t_n<|c_s<|wp_block<|c_sr<|pv hF hW (y_move hF rfl) fun a hF=>pv hF hW (y_indexS hF rfl rfl Od Tryz.underlying28 sz_44 (fun w h=>(hy.linesR).wd h)) fun a hF=>pv hF hW (y_loadRowW hF rfl (fun w h=>(hy.linesR).wd h) Od Tryz.underlying44 rfl sz_44) fun a hF=>?_;refine pe (e_alloc hF hW ze_44 rfl rfl rfl ?_);intro b13 a wc hF hW;refine pv hF hW (y_assign hF rfl) fun a hF=>?_;refine pe (e_storeAll rfl hF hW rfl rfl 0 rfl rfl rfl Kr sz_44 ?_);intro wc hW;refine l_nil ?_;replace hF:=hF.ks [0,1,2,3,5,8,9,13,40,42,43,44,45,66,67,68,69] rfl;refine t_n<|c_sd mixed_ok hW (hW) ?_
        clear hW;intro wc hW hS
        refine dv 0 rfl hF hS (y_fieldOwn hF rfl fa_26_1) fun a hF=>dv 1 rfl hF hS (y_loadOwn hF rfl 2 rfl rfl Tryz.underlying23 rfl) fun a hF=>dv 2 rfl hF hS (y_move hF rfl) fun a hF=>dv 3 rfl hF hS (y_indexS hF rfl rfl Od Tryz.underlying23 sz_67 (fun w h=>(hx.chansR).wd h)) fun a hF=>dv 4 rfl hF hS (y_fieldRow hF rfl fa_67_0) fun a hF=>dv 5 rfl hF hS (y_loadRow hF rfl (fun w h=>(hx.chansR).wd h) Od rfl Tryz.underlying3 rfl) fun a hF=>dv 6 rfl hF hS (y_loadAll hF rfl 0 rfl Tryz.underlying44 rfl sz_44) fun a hF=>d_1 7 Kr ?_;refine d_op rfl rfl (e_call hF rfl rfl en_51 Rl rfl rfl (chansCheck_any _ _ _ _ ((hy.line (k:=k) Om).below hW.below)) ?_);rintro e w1 ⟨rfl,hb⟩;replace hW:=hW.kept hb;clear hb;refine⟨_,rfl,fun a hF=>?_⟩;replace hS:=hW;refine⟨hS,?_⟩;refine dv 8 rfl hF hS (y_neq hF rfl rfl) fun a hF=>?_;refine Fr.splitD hF ?_ ?_
        ·intro h14 hF;clear hS;refine d_nil Kr ?_;replace hF:=hF.ks [0,1,2,3,5,8,9,13,40,42,43,44,45,66,67,68,69,81] rfl;refine t_n<|c_t hF rfl<|c_sr<|pv hF hW (y_assign hF rfl) fun a hF=>l_nil<|t_n<|wp_ret<|b_r<|t_r<|t_r<|b_r<|t_r<|ret1 Tryz.results23 hF (rv_t hF rfl) ?_
         exact⟨by rw[right_no Om (fun h=>by have hh:=h.line k Om;omega)],hW.below⟩
        ·intro h14 hF;clear hS;refine d_nil Kr ?_;replace hF:=hF.ks [0,1,2,3,5,8,9,13,40,42,43,44,45,66,67,68,69,81] rfl;refine t_n<|c_f hF rfl<|wp_skip<|b_n<|t_n<|c_r<|pv hF hW (y_add hF rfl rfl (IntWalk.i64_in _ Om)) fun a hF=>?_;replace hF:=hF.drop 68;refine pv hF hW (y_move hF rfl) fun a hF=>l_nil ?_;replace hF:=hF.ks [0,1,2,3,5,8,9,13,40,42,43,44,45,66,67,68,69,81] rfl;replace hW:=hW.del 0 rfl;refine t_n ?_;refine⟨(k+1),?_,?_,?_,?_⟩
         ·exact⟨by omega,fun i hi=>by rcases Nat.lt_or_ge i k with h|h;exact hls i h;(have hik:i=k:=by omega);rw[hik];omega⟩
         ·first|omega|(dsimp only;omega)
         ·exact Fr.app (Fr.cons hF (t:=68) rfl Rf (Fr.nil hF)) (hF.ks [0,1,2,3,5,13,40,42,43,44,45,66,67] rfl)
         ·exact hW
       ·intro h12 hF;refine l_nil<|t_n<|c_s<|c_f hF rfl<|wp_exit<|t_x<|t_x<|b_h<|t_n<|c_sr<|pv hF hW (y_assign hF rfl) fun a hF=>l_nil<|t_n<|wp_ret<|ret1 Tryz.results23 hF (rv_t hF rfl) ?_
        exact⟨by rw[right_yes Om ⟨by omega,by omega,by omega,by omega,HC,fun i hi=>hls i Om⟩],hW.below⟩
end Go.Proofs.YtndcjmopebcdgaaGreat
