/- The reference's PurgeOf. -/
import Derived.Test.YtndcjmopebcdgaaGreatViewR
import Derived.Test.YtndcjmopebcdgaaGreatViewQ
import Derived.Test.YtndcjmopebcdgaaGreatSysCalm
set_option linter.unusedSimpArgs false
set_option linter.unusedVariables false
namespace Go.Proofs.YtndcjmopebcdgaaGreat
open Go.ChangeShapes Go.WideShapes Go.ChangeAt Go.RowKit
set_option maxRecDepth 100000
theorem parts_at{L:List PP}{b c n:Nat}{T:TypeId}{l:List Value}{cs:List Chn}{ha sa:Option Addr}{hc sc:Nat}{ss:List Slt}{A:Option Addr}{k:Nat}{u:World}(hn:n=L.length)(hB:Blk u b T l)(htk:l.take (n*2)=L.flatMap encP)(hnc:n≤c)(hcm:c≤maxLen)(hll:l.length=c*2)
  (hr:SysD.Rest ⟨L,A,k,cs,ha,hc,ss,sa,sc⟩ u):SysD.At ⟨L,some ⟨b,0,none⟩,c,cs,ha,hc,ss,sa,sc⟩ u:=by
 refine⟨?_,hr.1,hr.2.1,hr.2.2⟩
 have:=flat_take (c:=c) hB (xs:=L) hn htk encP_len hnc hcm
 rw[hn] at this
 simpa using this
structure Purging(x:SysD)(p k:Nat)(L:List PP):Prop where
 len:L.length=x.parts.length
 val:∀i,i<x.parts.length→(L.getD i P0).1=if i<k∧rch x.chans x.parts.length i p=false then calmP else(x.parts.getD i P0).1
theorem Purging.start{x y:SysD}{p:Nat}(h:y.sys=x.sys):Purging x p 0 y.parts:=by
 have h1:y.parts.map Prod.fst=x.parts.map Prod.fst:=congrArg Sys.parts h
 refine⟨by have:=congrArg List.length h1;simpa using this,fun i hi=>?_⟩
 rw[if_neg Om]
 have e:∀z:SysD,(z.parts.getD i P0).1=(z.parts.map Prod.fst).getD i P0.1:=fun z=>(getD_map Prod.fst i P0).symm
 rw[e,e,h1]
theorem Purging.keep{x:SysD}{p k:Nat}{L:List PP}(h:Purging x p k L)(hr:rch x.chans x.parts.length k p=true):Purging x p (k+1) L:=by
 refine⟨h.len,fun i hi=>?_⟩
 rw[h.val i hi]
 by_cases hik:i=k
 ·subst hik
  rw[if_neg (by simp[hr]),if_neg (by simp[hr])]
 ·have:(i<k+1)↔i<k:=by omega
  simp only[this]
theorem Purging.calm{x:SysD}{p k:Nat}{L:List PP}{q:PP}(h:Purging x p k L)(hk:k<x.parts.length)(hr:rch x.chans x.parts.length k p=false)(hq:q.1=calmP):Purging x p (k+1) (L.set k q):=by
 refine⟨by rw[List.length_set];exact h.len,fun i hi=>?_⟩
 rw[getD_set (by rw[h.len];exact hi)]
 by_cases hik:k=i
 ·subst hik
  rw[if_pos rfl,if_pos ⟨by omega,hr⟩,hq]
 ·rw[if_neg hik,h.val i hi]
  have:(i<k+1)↔i<k:=by omega
  simp only[this]
theorem Purging.done{x y:SysD}{p:Nat}{L:List PP}{b c:Nat}(h:Purging x p x.parts.length L)(hy:y.sys=x.sys):SysD.sys ⟨L,some ⟨b,0,none⟩,c,y.chans,y.ha,y.hc,y.slots,y.sa,y.sc⟩=purged x.sys p:=by
 have h1:y.chans=x.chans:=congrArg Sys.chans hy
 have h2:y.slots=x.slots:=congrArg Sys.slots hy
 simp only[SysD.sys,purged,h1,h2,List.length_map]
 congr 1
 apply List.ext_getElem
 ·simp[h.len]
 ·intro i g1 g2
  have hi:i<L.length:=by simpa using g1
  have hv:=h.val i (by rw[←h.len];exact hi)
  have hx:(x.parts.map Prod.fst).getD i Pt0=(x.parts.getD i P0).1:=getD_map Prod.fst i P0
  simp only[List.getElem_map,List.getElem_range,hx]
  rw[List.getD,List.getElem?_eq_getElem hi,Option.getD_some] at hv
  rw[hv]
  have hl:=h.len
  cases hr:rch x.chans x.parts.length i p
  ·rw[if_pos ⟨by omega,rfl⟩,if_neg Si]
  ·rw[if_neg Si,if_pos rfl]
theorem splice_len2{l:List Value}{k c:Nat}{q:PP}(hl:l.length=c*2)(hk:k<c):(splice l (k*2) (encP q)).length=c*2:=by
 rw[splice_len]
 exact hl
set_option maxHeartbeats 4000000 in
theorem purgeOf_any{x:SysD}{w:World}(hx:x.At w){p:Nat}(hk:chkSys x.sys=0)(hp:p<x.parts.length):
  Calls Tryz.prog 15 #[x.val,.int .i64 p] w fun e w'=>∃z:SysD,e=.returned z.val∧z.sys=purged x.sys p∧Below w.heap.size w w'∧OwnRes w w' z.At:=by
 obtain⟨⟨hz1,hz2⟩,hz3,-⟩:=sizes_get (chkSys_zero hk).1
 have hre:=fun w1 (hb:Below w.heap.size w w1) (k:Nat)=>reaches_any (hx.below hb) k p Om Om
 have how:=fun w1 (hb:Below w.heap.size w w1)=>ownSystem_any (hx.below hb) hk
 rw[x.val_eq] at*
 refine enter Tryz.func15 rfl Tryz.ntmps15 rfl fun a hF=>?_
 have hW:=Wd.start w NoB
 refine c_sr ?_;refine pe (e_box hF hW rfl rfl rfl rfl ?_);intro b1 a wc hF hW;refine pe (e_alloc hF hW ze_26 rfl rfl rfl ?_);intro b2 a wc hF hW;refine l_nil<|t_n<|c_sr<|pv hF hW (y_loadAll hF rfl 1 rfl Tryz.underlying26 rfl sz_26) fun a hF=>?_;refine pe (e_call hF rfl rfl en_6 Rl rfl rfl (how _ hW.below) ?_);rintro e w1 ⟨y,rfl,hsys,hN⟩
 obtain⟨hyl,-,-⟩:=sys_len hsys
 replace hW:=hW.comb2 hN
 obtain⟨b,c,l,hpv,hnc,hcm,hll,htk,hW'⟩:=hW.row_whole 1 rfl Om
 replace hW:=hW';clear hW';refine⟨_,rfl,fun a hF=>?_⟩;replace hF:=Fr.cast (v':=.agg #[.slice (some ⟨b,0,none⟩) y.parts.length c,.slice y.ha y.chans.length y.hc,.slice y.sa y.slots.length y.sc]) (by rw[SysD.val_eq,hpv]) hF;refine pe (e_alloc hF hW ze_26 rfl rfl rfl ?_);intro b3 a wc hF hW;refine pe (e_storeAll rfl hF hW rfl rfl 0 rfl rfl rfl Kr sz_26 ?_);intro wc hW;refine l_nil ?_;replace hF:=hF.ks [0,1,2,4,5] rfl;refine t_n<|c_s<|c_sr<|pv hF hW (y_assign hF rfl) fun a hF=>l_nil<|t_n<|wp_block ?_;replace hW:=hW.front 2 rfl rfl;replace hW:=hW.front 2 rfl rfl;refine c_loop (G:=Nat×List PP×List Value) (fun(gq:Nat×List PP×List Value)=>match gq with|⟨k,L,m⟩=>[(6,.int .i64 (k:Int))]) (fun(gq:Nat×List PP×List Value)=>match gq with|⟨k,L,m⟩=>[.res (SysD.Rest ⟨L,y.pa,y.pc,y.chans,y.ha,y.hc,y.slots,y.sa,y.sc⟩),.blk b 49 m]) (fun(gq:Nat×List PP×List Value)=>match gq with|⟨k,L,m⟩=>k≤x.parts.length∧Purging x p k L∧m.length=c*2∧m.take (y.parts.length*2)=L.flatMap encP) (fun(gq:Nat×List PP×List Value)=>match gq with|⟨k,L,m⟩=>x.parts.length - k) (0,y.parts,l) (hF.ks [0,1,2,4,5] rfl) (Fr.cons hF (t:=6) rfl Rg (Fr.nil hF)) (hW) ?_ ?_
 ·exact⟨by omega,Purging.start hsys,hll,htk⟩
 clear hF hW
 try clear a
 intro gq a wc hC hF hW
 obtain⟨k,L,m⟩:=gq
 dsimp only at hC
 obtain⟨hkp,hP,hml,hmt⟩:=hC
 refine c_s<|c_sr<|pv hF hW (y_move hF rfl) fun a hF=>pv hF hW (y_fieldOwn hF rfl fa_26_0) fun a hF=>pv hF hW (y_loadOwn hF rfl 4 rfl rfl Tryz.underlying22 rfl) fun a hF=>pv hF hW (y_len hF rfl Tryz.underlying22) fun a hF=>pv hF hW (y_lss hF rfl rfl) fun a hF=>?_;refine Fr.splitD hF ?_ ?_
 ·intro h4 hF;refine l_nil ?_;replace hF:=hF.ks [0,1,2,4,5,6,13] rfl;refine t_n<|c_t hF rfl<|wp_skip<|t_n<|c_s<|wp_block<|c_sr<|pv hF hW (y_loadAll hF rfl 4 rfl Tryz.underlying26 rfl sz_26) fun a hF=>pv hF hW (y_move hF rfl) fun a hF=>pv hF hW (y_move hF rfl) fun a hF=>?_;refine pe (e_call hF rfl rfl en_43 Rl rfl rfl (hre _ hW.below k) ?_);rintro e w1 ⟨rfl,hb⟩;replace hW:=hW.kept hb;clear hb;refine⟨_,rfl,fun a hF=>?_⟩;refine Fr.splitB hF ?_ ?_
  ·intro h5 hF;refine pv hF hW (y_not hF rfl) fun a hF=>?_;replace hF:=hF.ff;refine l_nil ?_;replace hF:=hF.ks [0,1,2,4,5,6,13,20] rfl;refine t_n<|c_f hF rfl<|wp_skip<|b_n<|t_n<|c_r<|pv hF hW (y_move hF rfl) fun a hF=>pv hF hW (y_add hF rfl rfl (IntWalk.i64_in _ Om)) fun a hF=>?_;replace hF:=hF.drop 6;refine pv hF hW (y_assign hF rfl) fun a hF=>l_nil ?_;replace hF:=hF.ks [0,1,2,4,5,6,13,20] rfl;refine t_n ?_;refine⟨(k+1,L,m),?_,?_,?_,?_⟩
   ·exact⟨by omega,hP.keep Am,hml,hmt⟩
   ·first|omega|(dsimp only;omega)
   ·exact Fr.app (Fr.cons hF (t:=6) rfl Rf (Fr.nil hF)) (hF.ks [0,1,2,4,5] rfl)
   ·exact hW
  ·intro h5 hF;refine pv hF hW (y_not hF rfl) fun a hF=>?_;replace hF:=hF.tt;refine l_nil ?_;replace hF:=hF.ks [0,1,2,4,5,6,13,20] rfl;refine t_n<|c_t hF rfl<|c_d mixed_ok hW ((hW.del 1 rfl)) ?_
   clear hW;intro wc hW hS
   refine dv 0 rfl hF hS (y_fieldOwn hF rfl fa_26_0) fun a hF=>dv 1 rfl hF hS (y_loadOwn hF rfl 1 rfl rfl Tryz.underlying22 rfl) fun a hF=>dv 2 rfl hF hS (y_move hF rfl) fun a hF=>d_1 3 Kr ?_;refine d_op rfl rfl (e_call hF rfl rfl en_44 Rl rfl rfl (calmR_any _) ?_);rintro e w1 ⟨q,rfl,hq,hb,hr⟩;replace hW:=hW.gotR hb hr;refine⟨_,rfl,fun a hF=>?_⟩;replace hF:=Fr.cast (v':=.agg #[.slice q.2.ca q.1.code.length q.2.cc,.slice q.2.ia q.1.inp.length q.2.ic]) rfl hF;replace hS:=((hW.del 0 rfl).del 1 rfl);refine⟨hS,?_⟩;refine dv 4 rfl hF hS (y_indexOwnS hF rfl rfl Od Tryz.underlying22 sz_49) fun a hF=>d_1 5 Kr ?_;refine d_op rfl rfl (e_storeMid rfl hF hW rfl rfl 2 rfl (by show _+2≤_;omega) Kr sz_49 ?_);intro wc hW;replace hS:=((hW.del 0 rfl).del 1 rfl);refine⟨hS,?_⟩;clear hS;refine d_nil Kr ?_;replace hF:=hF.ks [0,1,2,4,5,6,13,20] rfl;refine b_n<|t_n<|c_r<|pv hF hW (y_move hF rfl) fun a hF=>pv hF hW (y_add hF rfl rfl (IntWalk.i64_in _ Om)) fun a hF=>?_;replace hF:=hF.drop 6;refine pv hF hW (y_assign hF rfl) fun a hF=>l_nil ?_;replace hF:=hF.ks [0,1,2,4,5,6,13,20] rfl;replace hW:=hW.front 1 rfl rfl;replace hW:=hW.front 1 rfl rfl
   replace hW:=hW.res2 (R:=SysD.Rest ⟨L.set k q,y.pa,y.pc,y.chans,y.ha,y.hc,y.slots,y.sa,y.sc⟩) fun u h1 h2=>⟨fun q' hq'=>(List.mem_or_eq_of_mem_set hq').elim (h2.1 q') fun e=>by rw[e];exact h1,h2.2⟩
   refine t_n ?_;refine⟨(k+1,L.set k q,splice m (k*2) (encP q)),?_,?_,?_,?_⟩
   ·exact⟨by omega,hP.calm Om Am hq,splice_len2 hml Om,flat_splice encP_len hmt (by rw[hP.len];exact hyl) Om (by rw[hml];omega) q⟩
   ·first|omega|(dsimp only;omega)
   ·exact Fr.app (Fr.cons hF (t:=6) rfl Rf (Fr.nil hF)) (hF.ks [0,1,2,4,5] rfl)
   ·exact hW
 ·intro h4 hF;refine l_nil ?_;replace hF:=hF.ks [0,1,2,4,5,6,13] rfl;refine t_n<|c_f hF rfl<|wp_exit<|t_x<|t_x<|b_h<|t_n<|c_sr<|pv hF hW (y_loadAll hF rfl 2 rfl Tryz.underlying26 rfl sz_26) fun a hF=>?_;refine pe (e_storeAll rfl hF hW rfl rfl 3 rfl rfl rfl Kr sz_26 ?_);intro wc hW;refine l_nil ?_;replace hF:=hF.ks [0,1,2,4,5,6,13] rfl;refine t_n<|wp_ret<|ret1 Tryz.results15 hF (rv_c hF rfl hW 3 rfl Tryz.underlying26 rfl sz_26) ?_;replace hW:=hW.del 2 rfl;replace hW:=hW.del 2 rfl;replace hW:=hW.del 2 rfl;replace hW:=hW.front 1 rfl rfl
  obtain rfl:k=x.parts.length:=Om
  exact⟨⟨L,some ⟨b,0,none⟩,c,y.chans,y.ha,y.hc,y.slots,y.sa,y.sc⟩,by simp only[SysD.val,hP.len,hyl],hP.done hsys,hW.below,(((hW.blk_res 0 rfl).res2 fun u h1 h2=>parts_at (by rw[hP.len];exact hyl) h1 hmt hnc hcm hml h2).res_res 0 rfl)⟩
end Go.Proofs.YtndcjmopebcdgaaGreat
