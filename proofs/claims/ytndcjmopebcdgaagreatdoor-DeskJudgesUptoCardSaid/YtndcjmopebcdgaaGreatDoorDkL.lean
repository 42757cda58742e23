/- Rules: who may have a say in whom; sets of certificates. cert.Verify and the reference's VerifyOf. -/
import Derived.Test.YtndcjmopebcdgaaGreatDoorCertC
import Derived.Test.YtndcjmopebcdgaaGreatDoorDkM
set_option linter.unusedSimpArgs false
set_option linter.unusedVariables false
namespace Go.Proofs.YtndcjmopebcdgaaGreatDoor
section
open Go.ChangeShapes Go.WideShapes Go.ChangeAt Go.RowKit
theorem bu_CertD_53_0_1(x0:Int)(x1:Int)(w:World):(Instr.build 53 #[(0,(.int .i64 x0)),(1,(.int .i64 x1))]).run Tryz.prog w=.ok (.agg #[(.int .i64 x0),(.int .i64 x1)]) w:=by kernel_rfl
set_option maxRecDepth 100000
theorem kok_53:KeyOk Tryz.prog 53 encPair:=keyOk_pair Kr Kr Kr Kr (fun _ _ _ _=>by kernel_rfl)
def edgeIn(l:List Edg)(u v:Int):Bool:=l.any fun e=>decide (e.from_=u∧e.to_=v)
def mayB(l:List Edg)(u v:Int):Bool:=decide (u=v)||edgeIn l u v
theorem edgeIn_snoc{l:List Edg}{k:Nat}(hk:k<l.length)(u v:Int):edgeIn (l.take (k+1)) u v=(edgeIn (l.take k) u v||decide ((l.getD k E0).from_=u∧(l.getD k E0).to_=v)):=by
 unfold edgeIn
 rw[List.take_add_one,List.getElem?_eq_getElem hk,List.any_append,List.getD,List.getElem?_eq_getElem hk]
 simp
structure MapOf(l:List Edg)(ks:List ((Int×Int)×Int)):Prop where
 is:∀u v,decide (0<cget (u,v) ks)=edgeIn l u v
 few:∀p,0≤cget p ks∧cget p ks≤l.length
theorem MapOf.start:MapOf [] []:=⟨fun u v=>by simp[cget_nil,edgeIn],fun p=>by simp[cget_nil]⟩
theorem MapOf.next{l:List Edg}{ks:List ((Int×Int)×Int)}{k:Nat}{fr tt c:Int}(h:MapOf (l.take k) ks)(hk:k<l.length)(hz:l.getD k E0=⟨fr,tt⟩)(hc:c=cget (fr,tt) ks+1)(ks':List ((Int×Int)×Int))(hks:∀p,cget p ks'=if p=(fr,tt) then c else cget p ks):MapOf (l.take (k+1)) ks':=by
 have h0:=h.few (fr,tt)
 refine⟨fun u v=>?_,fun p=>?_⟩
 ·rw[edgeIn_snoc hk,hz,←h.is,hks]
  by_cases e:(u,v)=(fr,tt)
  ·rw[if_pos e]
   obtain⟨rfl,rfl⟩:=Prod.mk.inj e
   have:0<c:=by omega
   simp[this]
  ·rw[if_neg e]
   have:¬(fr=u∧tt=v):=fun h=>e (by rw[h.1,h.2])
   simp[this]
 ·have hp:=h.few p
  have e1:(l.take k).length=k:=by rw[List.length_take];omega
  have e2:(l.take (k+1)).length=k+1:=by rw[List.length_take];omega
  rw[e1] at hp h0
  rw[hks,e2]
  split<;>omega
set_option maxHeartbeats 4000000 in
theorem certOf_any{l:List Edg}{A:Option Addr}{c:Nat}{w:World}(hm:May_ w A c l)(hlm:l.length≤maxLen):
  Calls Tryz.prog 40 #[.agg #[.slice A l.length c]] w fun e w'=>∃(b:Nat) (ks:List ((Int×Int)×Int)),e=.returned (.map (some b))∧MapOf l ks∧Wd w NoB [.cmap b encPair ks] w':=by
 have hM:RF w A l.length 2 (fun k=>Edg.cells (l.getD k E0)):=Flat.rf Edg.cells_len E0 hm
 unfold maxLen at hlm
 refine enter Tryz.func40 rfl Tryz.ntmps40 rfl fun a hF=>?_
 have hW:=Wd.start w NoB
 refine c_sr<|pe<|e_box hF hW rfl rfl rfl rfl fun b1 a wc hF hW=>pq 1 hF rfl fun a hF=>lts<|pe<|e_makeMap hF hW encPair rfl rfl fun b2 a wc hF hW=>pq 1 hF rfl fun a hF=>l_nil<|t_n<|c_s<|c_sr<|pq 1 hF rfl fun a hF=>pv hF hW (y_loadOwn hF rfl 1 rfl rfl Tryz.underlying25 rfl) fun a hF=>pq 2 hF rfl fun a hF=>l_nil<|t_n<|wp_block ?_;refine c_loop (G:=Nat×List ((Int×Int)×Int)) (fun(gq:Nat×List ((Int×Int)×Int))=>match gq with|⟨k,ks⟩=>[(10,.int .i64 (k:Int))]) (fun(gq:Nat×List ((Int×Int)×Int))=>match gq with|⟨k,ks⟩=>[.cmap b2 encPair ks]) (fun(gq:Nat×List ((Int×Int)×Int))=>match gq with|⟨k,ks⟩=>k≤l.length∧MapOf (l.take k) ks) (fun(gq:Nat×List ((Int×Int)×Int))=>match gq with|⟨k,ks⟩=>l.length - k) (0,[]) (hF.ks [0,1,2,3,8,9] rfl) (Fr.cons hF (t:=10) rfl Rg (Fr.nil hF)) (hW) ?_ ?_
 ·exact⟨by omega,MapOf.start⟩
 clear hF hW
 try clear a
 intro gq a wc hC hF hW
 obtain⟨k,ks⟩:=gq
 dsimp only at hC
 obtain⟨hkl,hMo⟩:=hC
 refine c_sr<|pq 1 hF rfl fun a hF=>?_;refine Fr.splitD hF (fun h3 hF=>?_) (fun h3 hF=>?_)
 ·refine l_nil<|t_n<|c_s<|c_t hF rfl<|wp_skip<|t_n<|c_s<|wp_block ?_
  obtain⟨z,hz⟩:∃q,l.getD k E0=q:=⟨_,rfl⟩
  obtain⟨fr,tt⟩:=z
  have hkl2:k<l.length:=Om
  have hft:=hMo.few (fr,tt)
  rw[List.length_take] at hft
  have hft2:=cget_centry (fr,tt) (fr,tt) ks
  refine c_sr<|pv hF hW (y_indexS hF rfl rfl (by exact hkl2) Tryz.underlying25 sz_53 (fun w h=>(hM).wd h)) fun a hF=>pv hF hW (y_loadRowW hF rfl (fun w h=>(hM).wd h) (by exact hkl2) Tryz.underlying53 rfl (by rw[hz];exact sz_53)) fun a hF=>?_;replace hF:=Fr.cast (v':=.agg #[.int .i64 fr,.int .i64 tt]) (by rw[hz];rfl) hF;refine pe<|e_alloc hF hW ze_53 rfl rfl rfl fun b4 a wc hF hW=>pe<|e_storeAll rfl hF hW rfl rfl 0 rfl rfl rfl Kr sz_53 fun wc hW=>l_nil<|t_n<|c_d mixed_ok hW ((hW.del 1 rfl)) ?_
  clear hW;intro wc hW hS
  refine dq 1 [0] hF hS rfl fun a hF=>dv 1 rfl hF hS (y_loadAll hF rfl 0 rfl Tryz.underlying53 rfl sz_53) fun a hF=>?_;refine d_2 2 4 Kr ?_ ?_
  ·refine d_opval rfl hF rfl hW (y_lookup (k:=(fr,tt)) kok_53 hF rfl rfl 1 rfl Tryz.underlying103 ze_3) rfl rfl fun a hF=>ai (hW.del 1 rfl) fun hS=>dv 3 rfl hF hS (y_add hF rfl rfl (IntWalk.i64_in _ Om)) fun a hF=>d_1 4 Kr<|d_op rfl rfl<|e_mapEntry (k:=(fr,tt)) kok_53 hF hW rfl rfl 1 rfl Tryz.underlying103 ze_3 rfl rfl fun a wc hF hW=>ai (hW.del 1 rfl) fun hS=>dq 1 [5] hF hS rfl fun a hF=>d_1 6 Kr<|d_op rfl rfl<|e_entryStore rfl hF hW rfl rfl rfl 1 rfl (by exact centry_lt _ _) fun wc hW=>ai (hW.del 1 rfl) fun hS=>?_;clear hS;refine d_nil Kr<|b_n<|t_n<|c_r<|pv hF hW (y_add hF rfl rfl (IntWalk.i64_in _ Om)) fun a hF=>pq 1 hF rfl fun a hF=>l_nil ?_;replace hW:=hW.del 0 rfl;refine t_n ?_;refine⟨(k+1,cmod (centry (fr,tt) ks).2 (cget (fr,tt) ks+1) (centry (fr,tt) ks).1),?_,?_,?_,?_⟩
   ·exact⟨by omega,hMo.next hkl2 hz rfl _ fun p=>cget_add p (fr,tt) _ ks⟩
   ·first|omega|(dsimp only;omega)
   ·exact hF.a1 rfl rfl
   ·exact hW
  ·refine d_op rfl rfl<|e_mapEntry (k:=(fr,tt)) kok_53 hF hW rfl rfl 1 rfl Tryz.underlying103 ze_3 rfl rfl fun a wc hF hW=>ai (hW.del 1 rfl) fun hS=>dq 1 [5] hF hS rfl fun a hF=>d_1 2 Kr<|d_opval rfl hF rfl hW (y_lookup (k:=(fr,tt)) kok_53 hF rfl rfl 1 rfl Tryz.underlying103 ze_3) rfl rfl fun a hF=>ai (hW.del 1 rfl) fun hS=>dv 3 rfl hF hS (y_add hF rfl rfl (IntWalk.i64_in _ Om)) fun a hF=>d_1 6 Kr<|d_op rfl rfl<|e_entryStore rfl hF hW rfl rfl rfl 1 rfl (by exact centry_lt _ _) fun wc hW=>ai (hW.del 1 rfl) fun hS=>?_;clear hS;refine d_nil Kr<|b_n<|t_n<|c_r<|pv hF hW (y_add hF rfl rfl (IntWalk.i64_in _ Om)) fun a hF=>pq 1 hF rfl fun a hF=>l_nil ?_;replace hW:=hW.del 0 rfl;refine t_n ?_;refine⟨(k+1,cmod (centry (fr,tt) ks).2 (cget (fr,tt) (centry (fr,tt) ks).1+1) (centry (fr,tt) ks).1),?_,?_,?_,?_⟩
   ·exact⟨by omega,hMo.next hkl2 hz rfl _ fun p=>by rw[cget_centry];exact cget_add p (fr,tt) _ ks⟩
   ·first|omega|(dsimp only;omega)
   ·exact hF.a1 rfl rfl
   ·exact hW
 ·refine l_nil<|t_n<|c_s<|c_f hF rfl<|wp_exit<|t_x<|t_x<|b_h<|t_n<|c_sr<|pq 2 hF rfl fun a hF=>l_nil<|t_n<|wp_ret<|ret1 Tryz.results40 hF (rv_t hF rfl) ?_;replace hW:=hW.del 1 rfl
  have hkl3:k=l.length:=Om
  subst hkl3
  rw[List.take_length] at hMo
  exact⟨_,ks,rfl,hMo,hW⟩
theorem may_any{l:List Edg}{ks:List ((Int×Int)×Int)}{b:Nat}{w:World}(hb:w.heap[b]?=some (.map (cents encPair ks 0).toArray ks.length))(hk:MapOf l ks)(u v:Int):
  Calls Tryz.prog 41 #[.map (some b),.int .i64 u,.int .i64 v] w fun e w'=>e=.returned (.bool (mayB l u v))∧Below w.heap.size w w':=by
 refine enter Tryz.func41 rfl Tryz.ntmps41 rfl fun a hF=>?_
 have hW:=Wd.start w NoB
 refine c_sr<|pq 1 hF rfl fun a hF=>lts<|pq 3 hF rfl fun a hF=>?_;refine Fr.splitD hF (fun h1 hF=>?_) (fun h1 hF=>?_);refine pq 9 hF rfl fun a hF=>l_nil<|t_n<|wp_ret<|ret1 Tryz.results41 hF (rv_t hF rfl) ?_
 first
 |exact⟨by unfold mayB;simp_all,hW.below⟩
 refine pq 4 hF rfl fun a hF=>pvg hF hW (y_build hF rfl (fun w=>bu_CertD_53_0_1 _ _ w)) (ws hF rfl rfl) fun a hF=>pvg hF hW (y_lookupB (k:=(u,v)) kok_53 hF rfl rfl (hb) Tryz.underlying103 ze_3) (ws hF rfl rfl) fun a hF=>pq 1 hF rfl fun a hF=>?_;replace hF:=Fr.cast (v':=.bool (edgeIn l u v)) (by rw[←hk.is]) hF;refine pq 1 hF rfl fun a hF=>?_;refine Fr.splitB hF (fun h2 hF=>?_) (fun h2 hF=>?_);refine pq 1 hF rfl fun a hF=>l_nil<|t_n<|wp_ret<|ret1 Tryz.results41 hF (rv_t hF rfl) ?_
 first
 |exact⟨by unfold mayB;simp_all,hW.below⟩
 refine pq 1 hF rfl fun a hF=>l_nil<|t_n<|wp_ret<|ret1 Tryz.results41 hF (rv_t hF rfl) ?_
 first
 |exact⟨by unfold mayB;simp_all,hW.below⟩
theorem mayR_any{l:List Edg}{A:Option Addr}{c:Nat}{w:World}(hm:May_ w A c l)(hlm:l.length≤maxLen)(u v:Int):
  Calls Tryz.prog 72 #[.agg #[.slice A l.length c],.int .i64 u,.int .i64 v] w fun e w'=>e=.returned (.bool (mayB l u v))∧Below w.heap.size w w':=by
 have hM:RF w A l.length 2 (fun k=>Edg.cells (l.getD k E0)):=Flat.rf Edg.cells_len E0 hm
 unfold maxLen at hlm
 refine enter Tryz.func72 rfl Tryz.ntmps72 rfl fun a hF=>?_
 have hW:=Wd.start w NoB
 refine c_sr<|pe<|e_box hF hW rfl rfl rfl rfl fun b1 a wc hF hW=>pq 1 hF rfl fun a hF=>lts<|pq 4 hF rfl fun a hF=>l_nil<|t_n<|c_s<|c_sr<|pq 1 hF rfl fun a hF=>l_nil<|t_n<|wp_block ?_;refine c_loop (G:=Nat) (fun k:Nat=>[(8,.int .i64 (k:Int)),(7,.bool (edgeIn (l.take k) u v||decide (u=v)))]) (fun k:Nat=>[]) (fun k:Nat=>k≤l.length) (fun k:Nat=>l.length - k) 0 (hF.ks [0,1,2,3,6] rfl) (Fr.cons hF (t:=8) rfl Rg (Fr.cons hF (t:=7) rfl Rg (Fr.nil hF))) (hW) ?_ ?_
 omega
 clear hF hW
 try clear a
 intro k a wc hC hF hW
 have hkl:=hC
 refine c_s<|c_sr<|pq 2 hF rfl fun a hF=>pv hF hW (y_loadOwn hF rfl 0 rfl rfl Tryz.underlying25 rfl) fun a hF=>pq 2 hF rfl fun a hF=>?_;refine Fr.splitD hF (fun h2 hF=>?_) (fun h2 hF=>?_);refine l_nil<|t_n<|c_t hF rfl<|wp_skip<|t_n<|c_s<|wp_block ?_
 obtain⟨z,hz⟩:∃q,l.getD k E0=q:=⟨_,rfl⟩
 obtain⟨fr,tt⟩:=z
 have hkl2:k<l.length:=Om
 refine c_r<|pq 1 hF rfl fun a hF=>?_;refine Fr.splitB hF (fun h3 hF=>?_) (fun h3 hF=>?_);refine pq 12 hF rfl fun a hF=>l_nil ?_;replace hF:=hF.ks [0,1,2,3,6,7,8,16] rfl;refine b_n<|t_n<|c_r<|pq 1 hF rfl fun a hF=>pv hF hW (y_add hF rfl rfl (IntWalk.i64_in _ Om)) fun a hF=>pq 1 hF rfl fun a hF=>l_nil<|t_n ?_;refine⟨(k+1),?_,?_,?_,?_⟩
 omega
 first|omega|(dsimp only;omega)
 focus
  exact Fr.app (Fr.cons hF (t:=8) rfl (by first|rfl|(rw[edgeIn_snoc hkl2,hz];cases hq:edgeIn (l.take k) u v<;>by_cases hq2:u=v<;>simp_all)|(simp;done)|omega) (Fr.cons hF (t:=7) rfl (by first|rfl|(rw[edgeIn_snoc hkl2,hz];cases hq:edgeIn (l.take k) u v<;>by_cases hq2:u=v<;>simp_all)|(simp;done)|omega) (Fr.nil hF))) (hF.ks [0,1,2,3,6] rfl)
 exact hW
 refine pq 2 hF rfl fun a hF=>pvg hF hW (y_loadOwn hF rfl 0 rfl rfl Tryz.underlying25 rfl) (ws hF rfl rfl) fun a hF=>pq 1 hF rfl fun a hF=>pvg hF hW (y_indexS hF rfl rfl (by exact hkl2) Tryz.underlying25 sz_53 (fun w h=>(hM).wd h)) (ws hF rfl rfl) fun a hF=>pvg hF hW (y_loadRowW hF rfl (fun w h=>(hM).wd h) (by exact hkl2) Tryz.underlying53 rfl (by rw[hz];exact sz_53)) (ws hF rfl rfl) fun a hF=>?_;replace hF:=Fr.cast (v':=.agg #[.int .i64 fr,.int .i64 tt]) (by rw[hz];rfl) hF;refine pq 2 hF rfl fun a hF=>pvg hF hW (y_build hF rfl (fun w=>bu_CertD_53_0_1 _ _ w)) (ws hF rfl rfl) fun a hF=>pvg hF hW (y_bin hF rfl rfl (fun w=>eqt_53 _ _ _ _ _ _ w)) (ws hF rfl rfl) fun a hF=>?_;refine Fr.splitD hF (fun h4 hF=>?_) (fun h4 hF=>?_);refine pq 2 hF rfl fun a hF=>l_nil ?_;replace hF:=hF.ks [0,1,2,3,6,7,8,16] rfl;refine b_n<|t_n<|c_r<|pq 1 hF rfl fun a hF=>pv hF hW (y_add hF rfl rfl (IntWalk.i64_in _ Om)) fun a hF=>pq 1 hF rfl fun a hF=>l_nil<|t_n ?_;refine⟨(k+1),?_,?_,?_,?_⟩
 omega
 first|omega|(dsimp only;omega)
 focus
  exact Fr.app (Fr.cons hF (t:=8) rfl (by first|rfl|(rw[edgeIn_snoc hkl2,hz];cases hq:edgeIn (l.take k) u v<;>by_cases hq2:u=v<;>simp_all)|(simp;done)|omega) (Fr.cons hF (t:=7) rfl (by first|rfl|(rw[edgeIn_snoc hkl2,hz];cases hq:edgeIn (l.take k) u v<;>by_cases hq2:u=v<;>simp_all)|(simp;done)|omega) (Fr.nil hF))) (hF.ks [0,1,2,3,6] rfl)
 exact hW
 refine pq 2 hF rfl fun a hF=>l_nil ?_;replace hF:=hF.ks [0,1,2,3,6,7,8,16] rfl;refine b_n<|t_n<|c_r<|pq 1 hF rfl fun a hF=>pv hF hW (y_add hF rfl rfl (IntWalk.i64_in _ Om)) fun a hF=>pq 1 hF rfl fun a hF=>l_nil<|t_n ?_;refine⟨(k+1),?_,?_,?_,?_⟩
 omega
 first|omega|(dsimp only;omega)
 focus
  exact Fr.app (Fr.cons hF (t:=8) rfl (by first|rfl|(rw[edgeIn_snoc hkl2,hz];cases hq:edgeIn (l.take k) u v<;>by_cases hq2:u=v<;>simp_all)|(simp;done)|omega) (Fr.cons hF (t:=7) rfl (by first|rfl|(rw[edgeIn_snoc hkl2,hz];cases hq:edgeIn (l.take k) u v<;>by_cases hq2:u=v<;>simp_all)|(simp;done)|omega) (Fr.nil hF))) (hF.ks [0,1,2,3,6] rfl)
 exact hW
 refine l_nil<|t_n<|c_f hF rfl<|wp_exit<|t_x<|t_x<|b_h<|t_n<|c_sr<|pq 2 hF rfl fun a hF=>l_nil<|t_n<|wp_ret<|ret1 Tryz.results72 hF (rv_t hF rfl) ?_
 (have hkl3:k=l.length:=Om;subst hkl3;exact⟨by rw[List.take_length,Bool.or_comm];rfl,hW.below⟩)
def setAt(n:Nat)(P:List Edg)(u:Int)(l:List Int)(k:Nat):Bool:=decide ((if k=0 then -1 else l.getD (k - 1) 0)<l.getD k 0)&&decide (l.getD k 0<n)&&mayB P (l.getD k 0) u
end
section
open Go.ChangeShapes Go.WideShapes Go.ChangeAt Go.RowKit
set_option maxRecDepth 100000
structure Sets_(w:World)(A:Option Addr)(c:Nat)(qs:List IR):Prop where
 m:Flat IR.cells 1 w (.slice A qs.length c) qs
 each:∀q,q∈qs→q.At w
end
end Go.Proofs.YtndcjmopebcdgaaGreatDoor
