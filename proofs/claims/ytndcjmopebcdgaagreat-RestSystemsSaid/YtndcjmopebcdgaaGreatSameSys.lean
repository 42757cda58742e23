/- The reference's SameCode and SameSystems. -/
import Derived.Test.YtndcjmopebcdgaaGreatSysRef
set_option linter.unusedSimpArgs false
set_option linter.unusedVariables false
namespace Go.Proofs.YtndcjmopebcdgaaGreat
open Go.ChangeShapes Go.WideShapes Go.ChangeAt Go.RowKit
set_option maxRecDepth 100000
theorem sameCode_any{l m:List Ins}{A B:Option Addr}{c d:Nat}{w:World}(hl:Code_ w (.slice A l.length c) l)(hm:Code_ w (.slice B m.length d) m):
  Calls Tryz.prog 34 #[.slice A l.length c,.slice B m.length d] w fun e w'=>e=.returned (.bool (decide (l=m)))∧Below w.heap.size w w':=by
 have hlen:=hl.len
 unfold maxLen at hlen
 have ha:=hl.rf Ins.cells_len I0
 have hb:=hm.rf Ins.cells_len I0
 refine enter Tryz.func34 rfl Tryz.ntmps34 rfl fun a hF=>?_
 have hW:=Wd.start w NoB
 refine c_sr<|pv hF hW (y_assign hF rfl) fun a hF=>l_nil<|t_n<|c_s<|c_sr<|pv hF hW (y_move hF rfl) fun a hF=>pv hF hW (y_len hF rfl Tryz.underlying47) fun a hF=>pv hF hW (y_move hF rfl) fun a hF=>pv hF hW (y_len hF rfl Tryz.underlying47) fun a hF=>pv hF hW (y_neq hF rfl rfl) fun a hF=>?_;refine Fr.splitD hF ?_ ?_
 ·intro h1 hF;refine l_nil ?_;replace hF:=hF.ks [0,1,4,10] rfl;refine t_n<|c_t hF rfl<|c_sr ?_;replace hF:=hF.drop 4;refine pv hF hW (y_assign hF rfl) fun a hF=>l_nil<|t_n<|wp_ret<|t_r<|ret1 Tryz.results34 hF (rv_t hF rfl) ?_
  exact⟨by simp[show¬l=m from fun e=>h1 (by rw[e])],hW.below⟩
 ·intro h1 hF;refine l_nil ?_;replace hF:=hF.ks [0,1,4,10] rfl;refine t_n<|c_f hF rfl<|wp_skip<|t_n<|c_s<|c_sr<|pv hF hW (y_assign hF rfl) fun a hF=>l_nil<|t_n<|wp_block ?_;refine c_loop (G:=Nat) (fun k:Nat=>[(5,.int .i64 (k:Int))]) (fun k:Nat=>[]) (fun k:Nat=>k≤l.length∧∀i,i<k→l.getD i I0=m.getD i I0) (fun k:Nat=>l.length - k) 0 (hF.ks [0,1,10] rfl) (Fr.cons hF (t:=5) rfl Rg (Fr.nil hF)) (hW) ?_ ?_
  ·exact⟨by omega,fun i hi=>by omega⟩
  clear hF hW
  try clear a
  intro k a wc hC hF hW
  obtain⟨hk,heq⟩:=hC
  refine c_s<|c_sr<|pv hF hW (y_move hF rfl) fun a hF=>pv hF hW (y_move hF rfl) fun a hF=>pv hF hW (y_len hF rfl Tryz.underlying47) fun a hF=>pv hF hW (y_lss hF rfl rfl) fun a hF=>?_;refine Fr.splitD hF ?_ ?_
  ·intro h2 hF;refine l_nil ?_;replace hF:=hF.ks [0,1,5,10,14] rfl;refine t_n<|c_t hF rfl<|wp_skip<|t_n<|c_s<|wp_block<|c_sd mixed_ok hW (hW) ?_
   clear hW;intro wc hW hS
   refine dv 0 rfl hF hS (y_move hF rfl) fun a hF=>dv 1 rfl hF hS (y_move hF rfl) fun a hF=>dv 2 rfl hF hS (y_indexS hF rfl rfl Od Tryz.underlying47 sz_51 (fun w h=>(ha).wd h)) fun a hF=>dv 3 rfl hF hS (y_loadRowW hF rfl (fun w h=>(ha).wd h) Od Tryz.underlying51 rfl sz_51) fun a hF=>dv 4 rfl hF hS (y_move hF rfl) fun a hF=>dv 5 rfl hF hS (y_move hF rfl) fun a hF=>dv 6 rfl hF hS (y_indexS hF rfl rfl Od Tryz.underlying47 sz_51 (fun w h=>(hb).wd h)) fun a hF=>dv 7 rfl hF hS (y_loadRowW hF rfl (fun w h=>(hb).wd h) Od Tryz.underlying51 rfl sz_51) fun a hF=>dv 8 rfl hF hS (y_bin hF rfl rfl (fun w=>net_51 _ _ _ _ _ _ _ _ _ _ w)) fun a hF=>?_;refine Fr.splitD hF ?_ ?_
   ·intro h3 hF;clear hS;refine d_nil Kr ?_;replace hF:=hF.ks [0,1,5,10,14,25] rfl;refine t_n<|c_t hF rfl<|c_sr<|pv hF hW (y_assign hF rfl) fun a hF=>l_nil<|t_n<|wp_ret<|b_r<|t_r<|t_r<|b_r<|t_r<|ret1 Tryz.results34 hF (rv_t hF rfl) ?_
    exact⟨by simp[show¬l=m from fun e=>h3 (by rw[e];exact⟨rfl,rfl,rfl,rfl⟩)],hW.below⟩
   ·intro h3 hF;clear hS;refine d_nil Kr ?_;replace hF:=hF.ks [0,1,5,10,14,25] rfl;refine t_n<|c_f hF rfl<|wp_skip<|b_n<|t_n<|c_r<|pv hF hW (y_move hF rfl) fun a hF=>pv hF hW (y_add hF rfl rfl (IntWalk.i64_in _ Om)) fun a hF=>?_;replace hF:=hF.drop 5;refine pv hF hW (y_assign hF rfl) fun a hF=>l_nil ?_;replace hF:=hF.ks [0,1,5,10,14,25] rfl;refine t_n ?_;refine⟨(k+1),?_,?_,?_,?_⟩
    ·exact⟨by omega,fun i hi=>by rcases Nat.lt_or_ge i k with h|h;exact heq i h;(have hik:i=k:=by omega);rw[hik];exact ins_eq (Decidable.of_not_not Am)⟩
    ·first|omega|(dsimp only;omega)
    ·exact Fr.app (Fr.cons hF (t:=5) rfl Rf (Fr.nil hF)) (hF.ks [0,1,10] rfl)
    ·exact hW
  ·intro h2 hF;refine l_nil ?_;replace hF:=hF.ks [0,1,5,10,14] rfl;refine t_n<|c_f hF rfl<|wp_exit<|t_x<|t_x<|b_h<|t_n<|c_sr<|pv hF hW (y_assign hF rfl) fun a hF=>l_nil<|t_n<|wp_ret<|ret1 Tryz.results34 hF (rv_t hF rfl) ?_
   exact⟨by simp[show l=m from list_eq_getD I0 Om fun i hi=>heq i Om],hW.below⟩
theorem sys_eq{x y:SysD}(h1:x.parts.length=y.parts.length)(h2:x.chans.length=y.chans.length)(h3:x.slots.length=y.slots.length)
  (k1:∀i,i<x.parts.length→(x.parts.getD i P0).1=(y.parts.getD i P0).1) (k2:∀i,i<x.chans.length→x.chans.getD i C0=y.chans.getD i C0) (k3:∀i,i<x.slots.length→x.slots.getD i S0=y.slots.getD i S0):x.sys=y.sys:=by
 have e1:x.parts.map Prod.fst=y.parts.map Prod.fst:=list_eq_getD P0.1 (by simpa using h1) fun i hi=>by rw[getD_map,getD_map];exact k1 i (by simpa using hi)
 simp only[SysD.sys,e1,list_eq_getD C0 h2 k2,list_eq_getD S0 h3 k3]
theorem sys_parts{x y:SysD}(h:x.sys=y.sys)(k:Nat):(x.parts.getD k P0).1=(y.parts.getD k P0).1:=by
 have h1:(x.sys.parts).getD k P0.1=(y.sys.parts).getD k P0.1:=by rw[h]
 simpa only[SysD.sys,getD_map] using h1
theorem sys_lens{x y:SysD}(h:x.sys=y.sys):x.parts.length=y.parts.length∧x.chans=y.chans∧x.slots=y.slots:=by
 have h1:(x.sys.parts).length=(y.sys.parts).length:=by rw[h]
 have h2:x.sys.chans=y.sys.chans:=by rw[h]
 have h3:x.sys.slots=y.sys.slots:=by rw[h]
 exact⟨by simpa[SysD.sys] using h1,h2,h3⟩
theorem prt_eq{p q:Prt}(h1:decide (p.code=q.code)=true)(h2:decide (p.inp=q.inp)=true):p=q:=by
 cases p;cases q;simp_all
set_option maxHeartbeats 4000000 in
theorem sameSystems_any{x y:SysD}{w:World}(hx:x.At w)(hy:y.At w):
  Calls Tryz.prog 11 #[x.val,y.val] w fun e w'=>e=.returned (.bool (decide (x.sys=y.sys)))∧Below w.heap.size w w':=by
 have hl1:=hx.parts.len
 have hl2:=hx.chans.len
 have hl3:=hx.slots.len
 unfold maxLen at hl1 hl2 hl3
 rw[x.val_eq,y.val_eq]
 refine enter Tryz.func11 rfl Tryz.ntmps11 rfl fun a hF=>?_
 have hW:=Wd.start w NoB
 refine c_sr ?_;refine pe (e_box hF hW rfl rfl rfl rfl ?_);intro b1 a wc hF hW;refine pe (e_box hF hW rfl rfl rfl rfl ?_);intro b2 a wc hF hW;refine pv hF hW (y_assign hF rfl) fun a hF=>l_nil<|t_n<|c_s<|c_sr<|pv hF hW (y_fieldOwn hF rfl fa_26_0) fun a hF=>pv hF hW (y_loadOwn hF rfl 1 rfl rfl Tryz.underlying22 rfl) fun a hF=>pv hF hW (y_len hF rfl Tryz.underlying22) fun a hF=>pv hF hW (y_fieldOwn hF rfl fa_26_0) fun a hF=>pv hF hW (y_loadOwn hF rfl 0 rfl rfl Tryz.underlying22 rfl) fun a hF=>pv hF hW (y_len hF rfl Tryz.underlying22) fun a hF=>pv hF hW (y_neq hF rfl rfl) fun a hF=>?_;refine Fr.splitD hF ?_ ?_
 ·intro h3 hF;refine pv hF hW (y_move hF rfl) fun a hF=>pk hF (wn hF rfl rfl rfl) fun a hF=>pk hF (wn hF rfl rfl rfl) fun a hF=>pk hF (wn hF rfl rfl rfl) fun a hF=>pk hF (wn hF rfl rfl rfl) fun a hF=>pk hF (wn hF rfl rfl rfl) fun a hF=>pk hF (wn hF rfl rfl rfl) fun a hF=>pk hF (wn hF rfl rfl rfl) fun a hF=>pv hF hW (y_pick hF rfl rfl) fun a hF=>pv hF hW (y_move hF rfl) fun a hF=>pk hF (wn hF rfl rfl rfl) fun a hF=>pk hF (wn hF rfl rfl rfl) fun a hF=>pk hF (wn hF rfl rfl rfl) fun a hF=>pk hF (wn hF rfl rfl rfl) fun a hF=>pk hF (wn hF rfl rfl rfl) fun a hF=>pk hF (wn hF rfl rfl rfl) fun a hF=>pk hF (wn hF rfl rfl rfl) fun a hF=>pv hF hW (y_pick hF rfl rfl) fun a hF=>l_nil ?_;replace hF:=hF.ks [0,1,2,3,4,32] rfl;refine t_n<|c_t hF rfl<|c_sr ?_;replace hF:=hF.drop 4;refine pv hF hW (y_assign hF rfl) fun a hF=>l_nil<|t_n<|wp_ret<|t_r<|ret1 Tryz.results11 hF (rv_t hF rfl) ?_
  exact⟨by rw[decide_eq_false fun e=>by have q:=(sys_lens e).1;omega],hW.below⟩
 ·intro h3 hF;refine pv hF hW (y_move hF rfl) fun a hF=>pvg hF hW (y_fieldOwn hF rfl fa_26_1) (ws hF rfl rfl) fun a hF=>pvg hF hW (y_loadOwn hF rfl 1 rfl rfl Tryz.underlying23 rfl) (ws hF rfl rfl) fun a hF=>pvg hF hW (y_len hF rfl Tryz.underlying23) (ws hF rfl rfl) fun a hF=>pvg hF hW (y_fieldOwn hF rfl fa_26_1) (ws hF rfl rfl) fun a hF=>pvg hF hW (y_loadOwn hF rfl 0 rfl rfl Tryz.underlying23 rfl) (ws hF rfl rfl) fun a hF=>pvg hF hW (y_len hF rfl Tryz.underlying23) (ws hF rfl rfl) fun a hF=>pvg hF hW (y_neq hF rfl rfl) (ws hF rfl rfl) fun a hF=>?_;refine Fr.splitD hF ?_ ?_
  ·intro h4 hF;refine pv hF hW (y_pick hF rfl rfl) fun a hF=>pv hF hW (y_move hF rfl) fun a hF=>pk hF (wn hF rfl rfl rfl) fun a hF=>pk hF (wn hF rfl rfl rfl) fun a hF=>pk hF (wn hF rfl rfl rfl) fun a hF=>pk hF (wn hF rfl rfl rfl) fun a hF=>pk hF (wn hF rfl rfl rfl) fun a hF=>pk hF (wn hF rfl rfl rfl) fun a hF=>pk hF (wn hF rfl rfl rfl) fun a hF=>pv hF hW (y_pick hF rfl rfl) fun a hF=>l_nil ?_;replace hF:=hF.ks [0,1,2,3,4,32] rfl;refine t_n<|c_t hF rfl<|c_sr ?_;replace hF:=hF.drop 4;refine pv hF hW (y_assign hF rfl) fun a hF=>l_nil<|t_n<|wp_ret<|t_r<|ret1 Tryz.results11 hF (rv_t hF rfl) ?_
   exact⟨by rw[decide_eq_false fun e=>by have q:=congrArg List.length (sys_lens e).2.1;omega],hW.below⟩
  ·intro h4 hF;refine pv hF hW (y_pick hF rfl rfl) fun a hF=>pv hF hW (y_move hF rfl) fun a hF=>pvg hF hW (y_fieldOwn hF rfl fa_26_2) (ws hF rfl rfl) fun a hF=>pvg hF hW (y_loadOwn hF rfl 1 rfl rfl Tryz.underlying24 rfl) (ws hF rfl rfl) fun a hF=>pvg hF hW (y_len hF rfl Tryz.underlying24) (ws hF rfl rfl) fun a hF=>pvg hF hW (y_fieldOwn hF rfl fa_26_2) (ws hF rfl rfl) fun a hF=>pvg hF hW (y_loadOwn hF rfl 0 rfl rfl Tryz.underlying24 rfl) (ws hF rfl rfl) fun a hF=>pvg hF hW (y_len hF rfl Tryz.underlying24) (ws hF rfl rfl) fun a hF=>pvg hF hW (y_neq hF rfl rfl) (ws hF rfl rfl) fun a hF=>?_;refine Fr.splitD hF ?_ ?_
   ·intro h5 hF;refine pv hF hW (y_pick hF rfl rfl) fun a hF=>l_nil ?_;replace hF:=hF.ks [0,1,2,3,4,32] rfl;refine t_n<|c_t hF rfl<|c_sr ?_;replace hF:=hF.drop 4;refine pv hF hW (y_assign hF rfl) fun a hF=>l_nil<|t_n<|wp_ret<|t_r<|ret1 Tryz.results11 hF (rv_t hF rfl) ?_
    exact⟨by rw[decide_eq_false fun e=>by have q:=congrArg List.length (sys_lens e).2.2;omega],hW.below⟩
   ·intro h5 hF;refine pv hF hW (y_pick hF rfl rfl) fun a hF=>l_nil ?_;replace hF:=hF.ks [0,1,2,3,4,32] rfl;refine t_n<|c_f hF rfl<|wp_skip<|t_n<|c_s<|c_sr<|pv hF hW (y_assign hF rfl) fun a hF=>l_nil<|t_n<|wp_block ?_;refine c_loop (G:=Nat) (fun k:Nat=>[(5,.int .i64 (k:Int))]) (fun k:Nat=>[]) (fun k:Nat=>k≤x.parts.length∧∀i,i<k→(x.parts.getD i P0).1=(y.parts.getD i P0).1) (fun k:Nat=>x.parts.length - k) 0 (hF.ks [0,1,2,3,32] rfl) (Fr.cons hF (t:=5) rfl Rg (Fr.nil hF)) (hW) ?_ ?_
    ·exact⟨by omega,fun i hi=>by omega⟩
    clear hF hW
    try clear a
    intro k a wc hC hF hW
    obtain⟨hk,heq⟩:=hC
    refine c_s<|c_sr<|pv hF hW (y_move hF rfl) fun a hF=>pv hF hW (y_fieldOwn hF rfl fa_26_0) fun a hF=>pv hF hW (y_loadOwn hF rfl 1 rfl rfl Tryz.underlying22 rfl) fun a hF=>pv hF hW (y_len hF rfl Tryz.underlying22) fun a hF=>pv hF hW (y_lss hF rfl rfl) fun a hF=>?_;refine Fr.splitD hF ?_ ?_
    ·intro h6 hF;refine l_nil ?_;replace hF:=hF.ks [0,1,2,3,5,32,37] rfl;refine t_n<|c_t hF rfl<|wp_skip<|t_n<|c_s<|wp_block<|c_sd mixed_ok hW (hW) ?_
     clear hW;intro wc hW hS
     refine dv 0 rfl hF hS (y_fieldOwn hF rfl fa_26_0) fun a hF=>dv 1 rfl hF hS (y_loadOwn hF rfl 1 rfl rfl Tryz.underlying22 rfl) fun a hF=>dv 2 rfl hF hS (y_move hF rfl) fun a hF=>dv 3 rfl hF hS (y_indexS hF rfl rfl Od Tryz.underlying22 sz_49 (fun w h=>(hx.partsR).wd h)) fun a hF=>dv 4 rfl hF hS (y_fieldRow hF rfl fa_49_0) fun a hF=>dv 5 rfl hF hS (y_loadRow hF rfl (fun w h=>(hx.partsR).wd h) Od rfl Tryz.underlying47 rfl) fun a hF=>dv 6 rfl hF hS (y_fieldOwn hF rfl fa_26_0) fun a hF=>dv 7 rfl hF hS (y_loadOwn hF rfl 0 rfl rfl Tryz.underlying22 rfl) fun a hF=>dv 8 rfl hF hS (y_move hF rfl) fun a hF=>dv 9 rfl hF hS (y_indexS hF rfl rfl Od Tryz.underlying22 sz_49 (fun w h=>(hy.partsR).wd h)) fun a hF=>dv 10 rfl hF hS (y_fieldRow hF rfl fa_49_0) fun a hF=>dv 11 rfl hF hS (y_loadRow hF rfl (fun w h=>(hy.partsR).wd h) Od rfl Tryz.underlying47 rfl) fun a hF=>d_1 12 Kr ?_;refine d_op rfl rfl (e_call hF rfl rfl en_34 Rl rfl rfl (sameCode_any ((hx.part (k:=k) Om).below hW.below).code ((hy.part (k:=k) Om).below hW.below).code) ?_);rintro e w1 ⟨rfl,hb⟩;replace hW:=hW.kept hb;clear hb;refine⟨_,rfl,fun a hF=>?_⟩;refine Fr.splitB hF ?_ ?_
     ·intro h7 hF;replace hS:=hW;refine⟨hS,?_⟩;refine dv 13 rfl hF hS (y_not hF rfl) fun a hF=>?_;replace hF:=hF.ff;refine dv 14 rfl hF hS (y_move hF rfl) fun a hF=>?_;replace hF:=hF.ff;refine dvg 15 rfl hF hS (y_fieldOwn hF rfl fa_26_0) (ws hF rfl rfl) fun a hF=>dvg 16 rfl hF hS (y_loadOwn hF rfl 1 rfl rfl Tryz.underlying22 rfl) (ws hF rfl rfl) fun a hF=>dvg 17 rfl hF hS (y_move hF rfl) (ws hF rfl rfl) fun a hF=>dvg 18 rfl hF hS (y_indexS hF rfl rfl Od Tryz.underlying22 sz_49 (fun w h=>(hx.partsR).wd h)) (ws hF rfl rfl) fun a hF=>dvg 19 rfl hF hS (y_fieldRow hF rfl fa_49_1) (ws hF rfl rfl) fun a hF=>dvg 20 rfl hF hS (y_loadRow hF rfl (fun w h=>(hx.partsR).wd h) Od rfl Tryz.underlying40 rfl) (ws hF rfl rfl) fun a hF=>dvg 21 rfl hF hS (y_fieldOwn hF rfl fa_26_0) (ws hF rfl rfl) fun a hF=>dvg 22 rfl hF hS (y_loadOwn hF rfl 0 rfl rfl Tryz.underlying22 rfl) (ws hF rfl rfl) fun a hF=>dvg 23 rfl hF hS (y_move hF rfl) (ws hF rfl rfl) fun a hF=>dvg 24 rfl hF hS (y_indexS hF rfl rfl Od Tryz.underlying22 sz_49 (fun w h=>(hy.partsR).wd h)) (ws hF rfl rfl) fun a hF=>dvg 25 rfl hF hS (y_fieldRow hF rfl fa_49_1) (ws hF rfl rfl) fun a hF=>dvg 26 rfl hF hS (y_loadRow hF rfl (fun w h=>(hy.partsR).wd h) Od rfl Tryz.underlying40 rfl) (ws hF rfl rfl) fun a hF=>d_1 27 Kr ?_;refine d_op rfl (ws hF rfl rfl) (e_call hF rfl rfl en_24 Rl rfl rfl (sameIntsB ((hx.part (k:=k) Om).below hW.below).inp ((hy.part (k:=k) Om).below hW.below).inp) ?_);rintro e w1 ⟨rfl,hb⟩;replace hW:=hW.kept hb;clear hb;refine⟨_,rfl,fun a hF=>?_⟩;refine Fr.splitB hF ?_ ?_
      ·intro h8 hF;replace hS:=hW;refine⟨hS,?_⟩;refine dvg 28 rfl hF hS (y_not hF rfl) (ws hF rfl rfl) fun a hF=>?_;replace hF:=hF.ff;refine dv 29 rfl hF hS (y_pick hF rfl rfl) fun a hF=>?_;replace hF:=hF.ff;clear hS;refine d_nil Kr ?_;replace hF:=hF.ks [0,1,2,3,5,32,37,69] rfl;refine t_n<|c_f hF rfl<|wp_skip<|b_n<|t_n<|c_r<|pv hF hW (y_move hF rfl) fun a hF=>pv hF hW (y_add hF rfl rfl (IntWalk.i64_in _ Om)) fun a hF=>?_;replace hF:=hF.drop 5;refine pv hF hW (y_assign hF rfl) fun a hF=>l_nil ?_;replace hF:=hF.ks [0,1,2,3,5,32,37,69] rfl;refine t_n ?_;refine⟨(k+1),?_,?_,?_,?_⟩
       ·exact⟨by omega,fun i hi=>by rcases Nat.lt_or_ge i k with h|h;exact heq i h;(have hik:i=k:=by omega);rw[hik];exact prt_eq (by simp_all) (by simp_all)⟩
       ·first|omega|(dsimp only;omega)
       ·exact Fr.app (Fr.cons hF (t:=5) rfl Rf (Fr.nil hF)) (hF.ks [0,1,2,3,32] rfl)
       ·exact hW
      ·intro h8 hF;replace hS:=hW;refine⟨hS,?_⟩;refine dvg 28 rfl hF hS (y_not hF rfl) (ws hF rfl rfl) fun a hF=>?_;replace hF:=hF.tt;refine dv 29 rfl hF hS (y_pick hF rfl rfl) fun a hF=>?_;replace hF:=hF.tt;clear hS;refine d_nil Kr ?_;replace hF:=hF.ks [0,1,2,3,5,32,37,69] rfl;refine t_n<|c_t hF rfl<|c_sr<|pv hF hW (y_assign hF rfl) fun a hF=>l_nil<|t_n<|wp_ret<|b_r<|t_r<|t_r<|b_r<|t_r<|ret1 Tryz.results11 hF (rv_t hF rfl) ?_
       exact⟨by rw[decide_eq_false fun e=>by have q:=sys_parts e k;simp_all],hW.below⟩
     ·intro h7 hF;replace hS:=hW;refine⟨hS,?_⟩;refine dv 13 rfl hF hS (y_not hF rfl) fun a hF=>?_;replace hF:=hF.tt;refine dv 14 rfl hF hS (y_move hF rfl) fun a hF=>?_;replace hF:=hF.tt;refine dk 15 rfl hF (wn hF rfl rfl rfl) hS fun a hF=>dk 16 rfl hF (wn hF rfl rfl rfl) hS fun a hF=>dk 17 rfl hF (wn hF rfl rfl rfl) hS fun a hF=>dk 18 rfl hF (wn hF rfl rfl rfl) hS fun a hF=>dk 19 rfl hF (wn hF rfl rfl rfl) hS fun a hF=>dk 20 rfl hF (wn hF rfl rfl rfl) hS fun a hF=>dk 21 rfl hF (wn hF rfl rfl rfl) hS fun a hF=>dk 22 rfl hF (wn hF rfl rfl rfl) hS fun a hF=>dk 23 rfl hF (wn hF rfl rfl rfl) hS fun a hF=>dk 24 rfl hF (wn hF rfl rfl rfl) hS fun a hF=>dk 25 rfl hF (wn hF rfl rfl rfl) hS fun a hF=>dk 26 rfl hF (wn hF rfl rfl rfl) hS fun a hF=>dk 27 rfl hF (wn hF rfl rfl rfl) hS fun a hF=>dk 28 rfl hF (wn hF rfl rfl rfl) hS fun a hF=>dv 29 rfl hF hS (y_pick hF rfl rfl) fun a hF=>?_;clear hS;refine d_nil Kr ?_;replace hF:=hF.ks [0,1,2,3,5,32,37,69] rfl;refine t_n<|c_t hF rfl<|c_sr<|pv hF hW (y_assign hF rfl) fun a hF=>l_nil<|t_n<|wp_ret<|b_r<|t_r<|t_r<|b_r<|t_r<|ret1 Tryz.results11 hF (rv_t hF rfl) ?_
      exact⟨by rw[decide_eq_false fun e=>by have q:=sys_parts e k;simp_all],hW.below⟩
    ·intro h6 hF;refine l_nil ?_;replace hF:=hF.ks [0,1,2,3,5,32,37] rfl;refine t_n<|c_f hF rfl<|wp_exit<|t_x<|t_x<|b_h<|t_n<|c_s<|c_sr<|pv hF hW (y_assign hF rfl) fun a hF=>l_nil<|t_n<|wp_block ?_;refine c_loop (G:=Nat) (fun m:Nat=>[(6,.int .i64 (m:Int))]) (fun m:Nat=>[]) (fun m:Nat=>m≤x.chans.length∧∀i,i<m→x.chans.getD i C0=y.chans.getD i C0) (fun m:Nat=>x.chans.length - m) 0 (hF.ks [0,1,2,3,5,32,37] rfl) (Fr.cons hF (t:=6) rfl Rg (Fr.nil hF)) (hW) ?_ ?_
     ·exact⟨by omega,fun i hi=>by omega⟩
     clear hF hW
     try clear a
     intro m a wc hC hF hW
     obtain⟨hm,heqC⟩:=hC
     refine c_s<|c_sr<|pv hF hW (y_move hF rfl) fun a hF=>pv hF hW (y_fieldOwn hF rfl fa_26_1) fun a hF=>pv hF hW (y_loadOwn hF rfl 1 rfl rfl Tryz.underlying23 rfl) fun a hF=>pv hF hW (y_len hF rfl Tryz.underlying23) fun a hF=>pv hF hW (y_lss hF rfl rfl) fun a hF=>?_;refine Fr.splitD hF ?_ ?_
     ·intro h9 hF;refine l_nil ?_;replace hF:=hF.ks [0,1,2,3,5,6,32,37,74] rfl;refine t_n<|c_t hF rfl<|wp_skip<|t_n<|c_s<|wp_block<|c_sd mixed_ok hW (hW) ?_
      clear hW;intro wc hW hS
      refine dv 0 rfl hF hS (y_fieldOwn hF rfl fa_26_1) fun a hF=>dv 1 rfl hF hS (y_loadOwn hF rfl 1 rfl rfl Tryz.underlying23 rfl) fun a hF=>dv 2 rfl hF hS (y_move hF rfl) fun a hF=>dv 3 rfl hF hS (y_indexS hF rfl rfl Od Tryz.underlying23 sz_67 (fun w h=>(hx.chansR).wd h)) fun a hF=>dv 4 rfl hF hS (y_loadRowW hF rfl (fun w h=>(hx.chansR).wd h) Od Tryz.underlying67 rfl sz_67) fun a hF=>dv 5 rfl hF hS (y_fieldOwn hF rfl fa_26_1) fun a hF=>dv 6 rfl hF hS (y_loadOwn hF rfl 0 rfl rfl Tryz.underlying23 rfl) fun a hF=>dv 7 rfl hF hS (y_move hF rfl) fun a hF=>dv 8 rfl hF hS (y_indexS hF rfl rfl Od Tryz.underlying23 sz_67 (fun w h=>(hy.chansR).wd h)) fun a hF=>dv 9 rfl hF hS (y_loadRowW hF rfl (fun w h=>(hy.chansR).wd h) Od Tryz.underlying67 rfl sz_67) fun a hF=>dv 10 rfl hF hS (y_bin hF rfl rfl (fun w=>net_67 _ _ _ _ _ _ _ _ w)) fun a hF=>?_;refine Fr.splitD hF ?_ ?_
      ·intro h10 hF;clear hS;refine d_nil Kr ?_;replace hF:=hF.ks [0,1,2,3,5,6,32,37,74,87] rfl;refine t_n<|c_t hF rfl<|c_sr<|pv hF hW (y_assign hF rfl) fun a hF=>l_nil<|t_n<|wp_ret<|b_r<|t_r<|t_r<|b_r<|t_r<|ret1 Tryz.results11 hF (rv_t hF rfl) ?_
       exact⟨by rw[decide_eq_false fun e=>by have q:=(sys_lens e).2.1;simp_all],hW.below⟩
      ·intro h10 hF;clear hS;refine d_nil Kr ?_;replace hF:=hF.ks [0,1,2,3,5,6,32,37,74,87] rfl;refine t_n<|c_f hF rfl<|wp_skip<|b_n<|t_n<|c_r<|pv hF hW (y_move hF rfl) fun a hF=>pv hF hW (y_add hF rfl rfl (IntWalk.i64_in _ Om)) fun a hF=>?_;replace hF:=hF.drop 6;refine pv hF hW (y_assign hF rfl) fun a hF=>l_nil ?_;replace hF:=hF.ks [0,1,2,3,5,6,32,37,74,87] rfl;refine t_n ?_;refine⟨(m+1),?_,?_,?_,?_⟩
       ·exact⟨by omega,fun i hi=>by rcases Nat.lt_or_ge i m with h|h;exact heqC i h;(have hik:i=m:=by omega);rw[hik];exact chn_eq (Decidable.of_not_not Am)⟩
       ·first|omega|(dsimp only;omega)
       ·exact Fr.app (Fr.cons hF (t:=6) rfl Rf (Fr.nil hF)) (hF.ks [0,1,2,3,5,32,37] rfl)
       ·exact hW
     ·intro h9 hF;refine l_nil ?_;replace hF:=hF.ks [0,1,2,3,5,6,32,37,74] rfl;refine t_n<|c_f hF rfl<|wp_exit<|t_x<|t_x<|b_h<|t_n<|c_s<|c_sr<|pv hF hW (y_assign hF rfl) fun a hF=>l_nil<|t_n<|wp_block ?_;refine c_loop (G:=Nat) (fun n:Nat=>[(7,.int .i64 (n:Int))]) (fun n:Nat=>[]) (fun n:Nat=>n≤x.slots.length∧∀i,i<n→x.slots.getD i S0=y.slots.getD i S0) (fun n:Nat=>x.slots.length - n) 0 (hF.ks [0,1,2,3,5,6,32,37,74] rfl) (Fr.cons hF (t:=7) rfl Rg (Fr.nil hF)) (hW) ?_ ?_
      ·exact⟨by omega,fun i hi=>by omega⟩
      clear hF hW
      try clear a
      intro n a wc hC hF hW
      obtain⟨hn,heqS⟩:=hC
      refine c_s<|c_sr<|pv hF hW (y_move hF rfl) fun a hF=>pv hF hW (y_fieldOwn hF rfl fa_26_2) fun a hF=>pv hF hW (y_loadOwn hF rfl 1 rfl rfl Tryz.underlying24 rfl) fun a hF=>pv hF hW (y_len hF rfl Tryz.underlying24) fun a hF=>pv hF hW (y_lss hF rfl rfl) fun a hF=>?_;refine Fr.splitD hF ?_ ?_
      ·intro h11 hF;refine l_nil ?_;replace hF:=hF.ks [0,1,2,3,5,6,7,32,37,74,92] rfl;refine t_n<|c_t hF rfl<|wp_skip<|t_n<|c_s<|wp_block<|c_sd mixed_ok hW (hW) ?_
       clear hW;intro wc hW hS
       refine dv 0 rfl hF hS (y_fieldOwn hF rfl fa_26_2) fun a hF=>dv 1 rfl hF hS (y_loadOwn hF rfl 1 rfl rfl Tryz.underlying24 rfl) fun a hF=>dv 2 rfl hF hS (y_move hF rfl) fun a hF=>dv 3 rfl hF hS (y_indexS hF rfl rfl Od Tryz.underlying24 sz_85 (fun w h=>(hx.slotsR).wd h)) fun a hF=>dv 4 rfl hF hS (y_loadRowW hF rfl (fun w h=>(hx.slotsR).wd h) Od Tryz.underlying85 rfl sz_85) fun a hF=>dv 5 rfl hF hS (y_fieldOwn hF rfl fa_26_2) fun a hF=>dv 6 rfl hF hS (y_loadOwn hF rfl 0 rfl rfl Tryz.underlying24 rfl) fun a hF=>dv 7 rfl hF hS (y_move hF rfl) fun a hF=>dv 8 rfl hF hS (y_indexS hF rfl rfl Od Tryz.underlying24 sz_85 (fun w h=>(hy.slotsR).wd h)) fun a hF=>dv 9 rfl hF hS (y_loadRowW hF rfl (fun w h=>(hy.slotsR).wd h) Od Tryz.underlying85 rfl sz_85) fun a hF=>dv 10 rfl hF hS (y_bin hF rfl rfl (fun w=>net_85 _ _ _ _ _ _ w)) fun a hF=>?_;refine Fr.splitD hF ?_ ?_
       ·intro h12 hF;clear hS;refine d_nil Kr ?_;replace hF:=hF.ks [0,1,2,3,5,6,7,32,37,74,92,105] rfl;refine t_n<|c_t hF rfl<|c_sr<|pv hF hW (y_assign hF rfl) fun a hF=>l_nil<|t_n<|wp_ret<|b_r<|t_r<|t_r<|b_r<|t_r<|ret1 Tryz.results11 hF (rv_t hF rfl) ?_
        exact⟨by rw[decide_eq_false fun e=>by have q:=(sys_lens e).2.2;simp_all],hW.below⟩
       ·intro h12 hF;clear hS;refine d_nil Kr ?_;replace hF:=hF.ks [0,1,2,3,5,6,7,32,37,74,92,105] rfl;refine t_n<|c_f hF rfl<|wp_skip<|b_n<|t_n<|c_r<|pv hF hW (y_move hF rfl) fun a hF=>pv hF hW (y_add hF rfl rfl (IntWalk.i64_in _ Om)) fun a hF=>?_;replace hF:=hF.drop 7;refine pv hF hW (y_assign hF rfl) fun a hF=>l_nil ?_;replace hF:=hF.ks [0,1,2,3,5,6,7,32,37,74,92,105] rfl;refine t_n ?_;refine⟨(n+1),?_,?_,?_,?_⟩
        ·exact⟨by omega,fun i hi=>by rcases Nat.lt_or_ge i n with h|h;exact heqS i h;(have hik:i=n:=by omega);rw[hik];exact slt_eq (Decidable.of_not_not Am)⟩
        ·first|omega|(dsimp only;omega)
        ·exact Fr.app (Fr.cons hF (t:=7) rfl Rf (Fr.nil hF)) (hF.ks [0,1,2,3,5,6,32,37,74] rfl)
        ·exact hW
      ·intro h11 hF;refine l_nil ?_;replace hF:=hF.ks [0,1,2,3,5,6,7,32,37,74,92] rfl;refine t_n<|c_f hF rfl<|wp_exit<|t_x<|t_x<|b_h<|t_n<|c_sr<|pv hF hW (y_assign hF rfl) fun a hF=>l_nil<|t_n<|wp_ret<|ret1 Tryz.results11 hF (rv_t hF rfl) ?_
       exact⟨by rw[decide_eq_true (sys_eq Om Om Om (fun i hi=>heq i Om) (fun i hi=>heqC i Om) (fun i hi=>heqS i Om))],hW.below⟩
theorem same_true{x y:SysD}{w:World}(hx:x.At w)(hy:y.At w)(h:x.sys=y.sys):Calls Tryz.prog 11 #[x.val,y.val] w fun e w'=>e=.returned (.bool true)∧Below w.heap.size w w':=by
 have:=sameSystems_any hx hy
 rwa [decide_eq_true h] at this
end Go.Proofs.YtndcjmopebcdgaaGreat
