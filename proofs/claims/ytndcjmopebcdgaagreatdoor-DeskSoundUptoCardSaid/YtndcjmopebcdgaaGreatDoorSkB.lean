/- Rules: who may have a say in whom; sets of certificates. cert.Verify and the reference's VerifyOf. The engine: copy onto a part of an own block. No program is named. The engine: strings cut, joined and compared; rows of bytes as strings; bytes of numbers. No program is named. The engine: ranges over strings; interfaces held against nil. No program is named. -/
import Derived.Test.YtndcjmopebcdgaaGreatDoorCertC
import Derived.Test.YtndcjmopebcdgaaGreatDoorSkG
import Derived.Test.YtndcjmopebcdgaaGreatDoorSkC
import Derived.Defers
import Derived.Laws.IdiomCopy
import Derived.Test.YtndcjmopebcdgaaGreatDoorImgN
import Derived.Laws.IdiomStrings
import Derived.Laws.Strings
import Derived.Test.YtndcjmopebcdgaaGreatDoorBase
import Derived.Lib.OthersKept
import Derived.Laws.RangeString
import Derived.Stop.IfaceNil
import Derived.Lib.AppendStr
set_option linter.unusedSimpArgs false
set_option linter.unusedVariables false
namespace Go.Proofs.YtndcjmopebcdgaaGreatDoor
section
open Go.ChangeShapes Go.WideShapes Go.ChangeAt Go.RowKit
theorem bu_CertD_53_0_1(x0:Int)(x1:Int)(w:World):(Instr.build 53 #[(0,(.int .i64 x0)),(1,(.int .i64 x1))]).run Tryz.prog w=.ok (.agg #[(.int .i64 x0),(.int .i64 x1)]) w:=by kernel_rfl
set_option maxRecDepth 100000
theorem kok_53:KeyOk Tryz.prog 53 encPair:=keyOk_pair Kr Kr Kr Kr (fun _ _ _ _=>by kernel_rfl)
def edgeIn(l:List Edg)(u v:Int):Bool:=l.any fun e=>decide (e.from_=u∧e.to_=v)
def mayB(l:List Edg)(u v:Int):Bool:=decide (u=v)||edgeIn l u v
theorem edgeIn_snoc{l:List Edg}{k:Nat}(hk:k<l.length)(u v:Int):edgeIn (l.take (k+1)) u v=(edgeIn (l.take k) u v||decide ((l.getD k E0).from_=u∧(l.getD k E0).to_=v)):=by
 unfold edgeIn
 rw[List.take_add_one,List.getElem?_eq_getElem hk,List.any_append,List.getD,List.getElem?_eq_getElem hk]
 simp
structure MapOf(l:List Edg)(ks:List ((Int×Int)×Int)):Prop where
 is:∀u v,decide (0<cget (u,v) ks)=edgeIn l u v
 few:∀p,0≤cget p ks∧cget p ks≤l.length
theorem MapOf.start:MapOf [] []:=⟨fun u v=>by simp[cget_nil,edgeIn],fun p=>by simp[cget_nil]⟩
theorem MapOf.next{l:List Edg}{ks:List ((Int×Int)×Int)}{k:Nat}{fr tt c:Int}(h:MapOf (l.take k) ks)(hk:k<l.length)(hz:l.getD k E0=⟨fr,tt⟩)(hc:c=cget (fr,tt) ks+1)(ks':List ((Int×Int)×Int))(hks:∀p,cget p ks'=if p=(fr,tt) then c else cget p ks):MapOf (l.take (k+1)) ks':=by
 have h0:=h.few (fr,tt)
 refine⟨fun u v=>?_,fun p=>?_⟩
 ·rw[edgeIn_snoc hk,hz,←h.is,hks]
  by_cases e:(u,v)=(fr,tt)
  ·rw[if_pos e]
   obtain⟨rfl,rfl⟩:=Prod.mk.inj e
   have:0<c:=by omega
   simp[this]
  ·rw[if_neg e]
   have:¬(fr=u∧tt=v):=fun h=>e (by rw[h.1,h.2])
   simp[this]
 ·have hp:=h.few p
  have e1:(l.take k).length=k:=by rw[List.length_take];omega
  have e2:(l.take (k+1)).length=k+1:=by rw[List.length_take];omega
  rw[e1] at hp h0
  rw[hks,e2]
  split<;>omega
set_option maxHeartbeats 4000000 in
theorem certOf_any{l:List Edg}{A:Option Addr}{c:Nat}{w:World}(hm:May_ w A c l)(hlm:l.length≤maxLen):
  Calls Tryz.prog 40 #[.agg #[.slice A l.length c]] w fun e w'=>∃(b:Nat) (ks:List ((Int×Int)×Int)),e=.returned (.map (some b))∧MapOf l ks∧Wd w NoB [.cmap b encPair ks] w':=by
 have hM:RF w A l.length 2 (fun k=>Edg.cells (l.getD k E0)):=Flat.rf Edg.cells_len E0 hm
 unfold maxLen at hlm
 refine enter Tryz.func40 rfl Tryz.ntmps40 rfl fun a hF=>?_
 have hW:=Wd.start w NoB
 refine c_sr<|pe<|e_box hF hW rfl rfl rfl rfl fun b1 a wc hF hW=>pq 1 hF rfl fun a hF=>lts<|pe<|e_makeMap hF hW encPair rfl rfl fun b2 a wc hF hW=>pq 1 hF rfl fun a hF=>l_nil<|t_n<|c_s<|c_sr<|pq 1 hF rfl fun a hF=>pv hF hW (y_loadOwn hF rfl 1 rfl rfl Tryz.underlying25 rfl) fun a hF=>pq 2 hF rfl fun a hF=>l_nil<|t_n<|wp_block ?_;refine c_loop (G:=Nat×List ((Int×Int)×Int)) (fun(gq:Nat×List ((Int×Int)×Int))=>match gq with|⟨k,ks⟩=>[(10,.int .i64 (k:Int))]) (fun(gq:Nat×List ((Int×Int)×Int))=>match gq with|⟨k,ks⟩=>[.cmap b2 encPair ks]) (fun(gq:Nat×List ((Int×Int)×Int))=>match gq with|⟨k,ks⟩=>k≤l.length∧MapOf (l.take k) ks) (fun(gq:Nat×List ((Int×Int)×Int))=>match gq with|⟨k,ks⟩=>l.length - k) (0,[]) (hF.ks [0,1,2,3,8,9] rfl) (Fr.cons hF (t:=10) rfl Rg (Fr.nil hF)) (hW) ?_ ?_
 ·exact⟨by omega,MapOf.start⟩
 clear hF hW
 try clear a
 intro gq a wc hC hF hW
 obtain⟨k,ks⟩:=gq
 dsimp only at hC
 obtain⟨hkl,hMo⟩:=hC
 refine c_sr<|pq 1 hF rfl fun a hF=>?_;refine Fr.splitD hF (fun h3 hF=>?_) (fun h3 hF=>?_)
 ·refine l_nil<|t_n<|c_s<|c_t hF rfl<|wp_skip<|t_n<|c_s<|wp_block ?_
  obtain⟨z,hz⟩:∃q,l.getD k E0=q:=⟨_,rfl⟩
  obtain⟨fr,tt⟩:=z
  have hkl2:k<l.length:=Om
  have hft:=hMo.few (fr,tt)
  rw[List.length_take] at hft
  have hft2:=cget_centry (fr,tt) (fr,tt) ks
  refine c_sr<|pv hF hW (y_indexS hF rfl rfl (by exact hkl2) Tryz.underlying25 sz_53 (fun w h=>(hM).wd h)) fun a hF=>pv hF hW (y_loadRowW hF rfl (fun w h=>(hM).wd h) (by exact hkl2) Tryz.underlying53 rfl (by rw[hz];exact sz_53)) fun a hF=>?_;replace hF:=Fr.cast (v':=.agg #[.int .i64 fr,.int .i64 tt]) (by rw[hz];rfl) hF;refine pe<|e_alloc hF hW ze_53 rfl rfl rfl fun b4 a wc hF hW=>pe<|e_storeAll rfl hF hW rfl rfl 0 rfl rfl rfl Kr sz_53 fun wc hW=>l_nil<|t_n<|c_d mixed_ok hW ((hW.del 1 rfl)) ?_
  clear hW;intro wc hW hS
  refine dq 1 [0] hF hS rfl fun a hF=>dv 1 rfl hF hS (y_loadAll hF rfl 0 rfl Tryz.underlying53 rfl sz_53) fun a hF=>?_;refine d_2 2 4 Kr ?_ ?_
  ·refine d_opval rfl hF rfl hW (y_lookup (k:=(fr,tt)) kok_53 hF rfl rfl 1 rfl Tryz.underlying103 ze_3) rfl rfl fun a hF=>ai (hW.del 1 rfl) fun hS=>dv 3 rfl hF hS (y_add hF rfl rfl (IntWalk.i64_in _ Om)) fun a hF=>d_1 4 Kr<|d_op rfl rfl<|e_mapEntry (k:=(fr,tt)) kok_53 hF hW rfl rfl 1 rfl Tryz.underlying103 ze_3 rfl rfl fun a wc hF hW=>ai (hW.del 1 rfl) fun hS=>dq 1 [5] hF hS rfl fun a hF=>d_1 6 Kr<|d_op rfl rfl<|e_entryStore rfl hF hW rfl rfl rfl 1 rfl (by exact centry_lt _ _) fun wc hW=>ai (hW.del 1 rfl) fun hS=>?_;clear hS;refine d_nil Kr<|b_n<|t_n<|c_r<|pv hF hW (y_add hF rfl rfl (IntWalk.i64_in _ Om)) fun a hF=>pq 1 hF rfl fun a hF=>l_nil ?_;replace hW:=hW.del 0 rfl;refine t_n ?_;refine⟨(k+1,cmod (centry (fr,tt) ks).2 (cget (fr,tt) ks+1) (centry (fr,tt) ks).1),?_,?_,?_,?_⟩
   ·exact⟨by omega,hMo.next hkl2 hz rfl _ fun p=>cget_add p (fr,tt) _ ks⟩
   ·first|omega|(dsimp only;omega)
   ·exact hF.a1 rfl rfl
   ·exact hW
  ·refine d_op rfl rfl<|e_mapEntry (k:=(fr,tt)) kok_53 hF hW rfl rfl 1 rfl Tryz.underlying103 ze_3 rfl rfl fun a wc hF hW=>ai (hW.del 1 rfl) fun hS=>dq 1 [5] hF hS rfl fun a hF=>d_1 2 Kr<|d_opval rfl hF rfl hW (y_lookup (k:=(fr,tt)) kok_53 hF rfl rfl 1 rfl Tryz.underlying103 ze_3) rfl rfl fun a hF=>ai (hW.del 1 rfl) fun hS=>dv 3 rfl hF hS (y_add hF rfl rfl (IntWalk.i64_in _ Om)) fun a hF=>d_1 6 Kr<|d_op rfl rfl<|e_entryStore rfl hF hW rfl rfl rfl 1 rfl (by exact centry_lt _ _) fun wc hW=>ai (hW.del 1 rfl) fun hS=>?_;clear hS;refine d_nil Kr<|b_n<|t_n<|c_r<|pv hF hW (y_add hF rfl rfl (IntWalk.i64_in _ Om)) fun a hF=>pq 1 hF rfl fun a hF=>l_nil ?_;replace hW:=hW.del 0 rfl;refine t_n ?_;refine⟨(k+1,cmod (centry (fr,tt) ks).2 (cget (fr,tt) (centry (fr,tt) ks).1+1) (centry (fr,tt) ks).1),?_,?_,?_,?_⟩
   ·exact⟨by omega,hMo.next hkl2 hz rfl _ fun p=>by rw[cget_centry];exact cget_add p (fr,tt) _ ks⟩
   ·first|omega|(dsimp only;omega)
   ·exact hF.a1 rfl rfl
   ·exact hW
 ·refine l_nil<|t_n<|c_s<|c_f hF rfl<|wp_exit<|t_x<|t_x<|b_h<|t_n<|c_sr<|pq 2 hF rfl fun a hF=>l_nil<|t_n<|wp_ret<|ret1 Tryz.results40 hF (rv_t hF rfl) ?_;replace hW:=hW.del 1 rfl
  have hkl3:k=l.length:=Om
  subst hkl3
  rw[List.take_length] at hMo
  exact⟨_,ks,rfl,hMo,hW⟩
theorem may_any{l:List Edg}{ks:List ((Int×Int)×Int)}{b:Nat}{w:World}(hb:w.heap[b]?=some (.map (cents encPair ks 0).toArray ks.length))(hk:MapOf l ks)(u v:Int):
  Calls Tryz.prog 41 #[.map (some b),.int .i64 u,.int .i64 v] w fun e w'=>e=.returned (.bool (mayB l u v))∧Below w.heap.size w w':=by
 refine enter Tryz.func41 rfl Tryz.ntmps41 rfl fun a hF=>?_
 have hW:=Wd.start w NoB
 refine c_sr<|pq 1 hF rfl fun a hF=>lts<|pq 3 hF rfl fun a hF=>?_;refine Fr.splitD hF (fun h1 hF=>?_) (fun h1 hF=>?_);refine pq 9 hF rfl fun a hF=>l_nil<|t_n<|wp_ret<|ret1 Tryz.results41 hF (rv_t hF rfl) ?_
 first
 |exact⟨by unfold mayB;simp_all,hW.below⟩
 refine pq 4 hF rfl fun a hF=>pvg hF hW (y_build hF rfl (fun w=>bu_CertD_53_0_1 _ _ w)) (ws hF rfl rfl) fun a hF=>pvg hF hW (y_lookupB (k:=(u,v)) kok_53 hF rfl rfl (hb) Tryz.underlying103 ze_3) (ws hF rfl rfl) fun a hF=>pq 1 hF rfl fun a hF=>?_;replace hF:=Fr.cast (v':=.bool (edgeIn l u v)) (by rw[←hk.is]) hF;refine pq 1 hF rfl fun a hF=>?_;refine Fr.splitB hF (fun h2 hF=>?_) (fun h2 hF=>?_);refine pq 1 hF rfl fun a hF=>l_nil<|t_n<|wp_ret<|ret1 Tryz.results41 hF (rv_t hF rfl) ?_
 first
 |exact⟨by unfold mayB;simp_all,hW.below⟩
 refine pq 1 hF rfl fun a hF=>l_nil<|t_n<|wp_ret<|ret1 Tryz.results41 hF (rv_t hF rfl) ?_
 first
 |exact⟨by unfold mayB;simp_all,hW.below⟩
def setAt(n:Nat)(P:List Edg)(u:Int)(l:List Int)(k:Nat):Bool:=decide ((if k=0 then -1 else l.getD (k - 1) 0)<l.getD k 0)&&decide (l.getD k 0<n)&&mayB P (l.getD k 0) u
end
section
open Go.ChangeShapes Go.WideShapes Go.ChangeAt Go.RowKit
set_option maxRecDepth 100000
structure Sets_(w:World)(A:Option Addr)(c:Nat)(qs:List IR):Prop where
 m:Flat IR.cells 1 w (.slice A qs.length c) qs
 each:∀q,q∈qs→q.At w
end
section
open Go.ChangeShapes Go.WideShapes Go.ChangeAt Go.RowKit
section
variable {P:Program} {w0 w:World} {X:Nat→Prop} {es:List Asn} {a:Act} {ds:List Deferred} {N:Nat} {env:List (Nat×Value)} {ty:TypeId} {ps:String} {af:Array Edge} {gd:Option (Nat×Bool)} {K:Act→World→Prop} {Q:Exit→Act→World→Prop} {d:Tmp} {t t':TypeId} {x y:Operand}
end
end
section
open Go.ChangeShapes Go.WideShapes Go.ChangeAt Go.RowKit
def bcs(l:List UInt8):List Value:=l.map fun b=>Value.int .u8 (b.toNat:Int)
theorem bcs_app(l m:List UInt8):bcs (l++m)=bcs l++bcs m:=List.map_append
theorem bcs_len(l:List UInt8):(bcs l).length=l.length:=List.length_map _
theorem bstr_toList(l:List UInt8):(bstr l).toList=l:=by rw[ByteArray.toList_eq];simp[bstr]
theorem bstr_app(l m:List UInt8):bstr l++bstr m=bstr (l++m):=by
 apply ByteArray.ext
 simp[bstr,ByteArray.data_append]
theorem byt_wrap(n:Int):IntKind.u8.wrap n=((byt n).toNat:Int):=by
 rw[byt_val]
 unfold IntKind.wrap
 show(if(false&&decide (n%2 ^ 8≥2 ^(8 - 1)))=true then n%2 ^ 8 - 2 ^ 8 else n%2 ^ 8)=_
 simp
section
variable {P:Program} {w0 w:World} {X:Nat→Prop} {es:List Asn} {a:Act} {ds:List Deferred} {N:Nat} {env:List (Nat×Value)} {dst:Option Tmp} {ty:TypeId} {ps:String} {af:Array Edge} {gd:Option (Nat×Bool)} {t t':TypeId} {x y:Operand}
theorem y_eqB(hF:Fr ds N env a){l m:List UInt8}(hx:ev env x=some (.string (bstr l)))(hy:ev env y=some (.string (bstr m))):Yv P w0 X es a ⟨dst,.binOp .eql t x y t',ty,ps,af,gd⟩ (.bool (decide (l=m))):=by
 have h:=y_eqs (P:=P) (w0:=w0) (X:=X) (es:=es) (dst:=dst) (ty:=ty) (ps:=ps) (af:=af) (gd:=gd) (t:=t) (t':=t') hF hx hy
 rw[bstr_toList,bstr_toList] at h
 rwa [show(l==m)=decide (l=m) by by_cases e:l=m<;>simp[e]] at h
theorem y_neB(hF:Fr ds N env a){l m:List UInt8}(hx:ev env x=some (.string (bstr l)))(hy:ev env y=some (.string (bstr m))):Yv P w0 X es a ⟨dst,.binOp .neq t x y t',ty,ps,af,gd⟩ (.bool (decide (¬l=m))):=by
 have h:=y_nes (P:=P) (w0:=w0) (X:=X) (es:=es) (dst:=dst) (ty:=ty) (ps:=ps) (af:=af) (gd:=gd) (t:=t) (t':=t') hF hx hy
 rw[bstr_toList,bstr_toList] at h
 rwa [show(!(l==m))=decide (¬l=m) by by_cases e:l=m<;>simp[e]] at h
theorem y_catB(hF:Fr ds N env a){l m:List UInt8}(hx:ev env x=some (.string (bstr l)))(hy:ev env y=some (.string (bstr m)))(hb:l.length+m.length≤maxLen):Yv P w0 X es a ⟨dst,.binOp .add t x y t',ty,ps,af,gd⟩ (.string (bstr (l++m))):=
 y_bin hF hx hy fun w=>by
  have h:¬(((bstr l).size+(bstr m).size:Nat):Int)>IntKind.i64.max:=by
   rw[bstr_size,bstr_size]
   unfold maxLen at hb
   simp only[IntKind.max,IntKind.signed,IntKind.bits]
   omega
  rw[←bstr_app]
  simp only[eqGuard,binOp,Op.stringOp,if_neg h]
  simp
theorem y_sliceStrLH(hF:Fr ds N env a){l:List UInt8}{lo hi:Operand}{kk kh:IntKind}{i j:Nat}(hx:ev env x=some (.string (bstr l)))(hy:ev env lo=some (.int kk (i:Int)))(hh:ev env hi=some (.int kh (j:Int)))(hij:i≤j)(hj:j≤l.length)(hu:P.underlying t=some .string):
  Yv P w0 X es a ⟨dst,.slice t x (some lo) (some hi) none,ty,ps,af,gd⟩ (.string (bstr ((l.drop i).take (j - i)))):=fun w _=>by
 have h1:(bstr l).extract i j=bstr ((l.drop i).take (j - i)):=by
  apply ByteArray.ext
  rw[ByteArray.data_extract]
  apply Array.ext'
  simp[bstr]
 have h3:j≤(bstr l).size:=hj
 simp[execOp,hF.ev hx,hF.ev hy,hF.ev hh,Instr.sliceAt,Instr.slice,run_underlying hu,Instr.sliceBounds,Instr.sliceBound,asIntOf,hij,h3,h1]
theorem y_sliceStrH(hF:Fr ds N env a){l:List UInt8}{hi:Operand}{kh:IntKind}{j:Nat}(hx:ev env x=some (.string (bstr l)))(hh:ev env hi=some (.int kh (j:Int)))(hj:j≤l.length)(hu:P.underlying t=some .string):
  Yv P w0 X es a ⟨dst,.slice t x none (some hi) none,ty,ps,af,gd⟩ (.string (bstr (l.take j))):=fun w _=>by
 have h1:(bstr l).extract 0 j=bstr (l.take j):=by
  apply ByteArray.ext
  rw[ByteArray.data_extract]
  apply Array.ext'
  simp[bstr]
 have h3:j≤(bstr l).size:=hj
 simp[execOp,hF.ev hx,hF.ev hh,Instr.sliceAt,Instr.slice,run_underlying hu,Instr.sliceBounds,Instr.sliceBound,asIntOf,h3,h1]
theorem y_lenB(hF:Fr ds N env a){l:List UInt8}(hx:ev env x=some (.string (bstr l)))(hu:P.underlying t=some .string):Yv P w0 X es a ⟨dst,.call ⟨.builtin .len,#[x],#[t]⟩,ty,ps,af,gd⟩ (.int .i64 (l.length:Int)):=y_lenS (s:=bstr l) hF hx hu
theorem y_bytesStr(hF:Fr ds N env a){src d e:TypeId}{A:Option Addr}{n c:Nat}{l:List UInt8}(hx:ev env x=some (.slice A n c))(hR:∀w,Wd w0 X es w→RowAt w 1 A n (bcs l))(h0:0<n)
  (hs:P.underlying src=some (.slice e)) (he:P.underlying e=some (.int .u8)) (hd:P.underlying d=some .string):Yv P w0 X es a ⟨dst,.convert src d x,ty,ps,af,gd⟩ (.string (bstr l)):=fun w hw=>by
 obtain⟨h1,h2⟩:=hR w hw
 obtain⟨ad,rfl,hc⟩:=h2 h0
 rw[bcs_len,Nat.mul_one] at h1
 subst h1
 have hr:=run_convert_bytes_back (P:=P) w src d e ad c l hs he hd fun j hj=>hc j _ (by rw[bcs,List.getElem?_map,List.getElem?_eq_getElem hj];rfl)
 simp[execOp,hF.ev hx,hr,bstr]
end
def RFs(w0:World)(X:Nat→Prop)(A:Option Addr)(n size:Nat)(f:Nat→List Value):Prop:=∀u,Wd w0 X [] u→RF u A n size f
theorem RFs.wd{w0 u:World}{X:Nat→Prop}{A:Option Addr}{n size:Nat}{f:Nat→List Value}{es:List Asn}(h:RFs w0 X A n size f)(hW:Wd w0 X es u):RF u A n size f:=h u hW.none_
theorem rfs_ints{w0:World}{X:Nat→Prop}{A:Option Addr}{n:Nat}{M:List Int}(h:∀u,Wd w0 X [] u→RowAt u 1 A n (M.map (.int .i64))):RFs w0 X A n 1 (fun k=>[.int .i64 (M.getD k 0)]):=fun u hu=>RF.of_row (h u hu) fun i hi o v hv=>by
 obtain rfl:o=0:=by
  have:=(List.getElem?_eq_some_iff.1 hv).1
  simp at this
  omega
 have hl:=(h u hu).1
 simp only[List.length_map,Nat.mul_one] at hl
 simp only[List.getElem?_cons_zero,Option.some.injEq] at hv
 rw[←hv,Nat.mul_one,Nat.add_zero,List.getElem?_map,List.getElem?_eq_getElem Om]
 simp[List.getD,show i<M.length by omega]
theorem Own.lendI{w0 w:World}{X0:Nat→Prop}{es:List Asn}(E:List Asn)(hW:Wd w0 X0 (E++es) w):∃X:Nat→Prop,Wd w X E w∧∀w' E',Wd w X E' w'→Wd w0 X0 (E'++es) w':=by
 obtain⟨Y,h1,h2,h3⟩:=Own.split E _ hW.own
 have hz:=hW.size
 refine⟨Y,⟨Chg.refl _ _,h2⟩,fun w' E' hN=>?_⟩
 have hcX:Chg X0 w0 w':=by
  refine⟨hN.chg.os.trans hW.chg.os,hN.chg.tape.trans hW.chg.tape,hN.chg.output.trans hW.chg.output,Nat.le_trans hz hN.chg.size,fun k hk hX=>?_⟩
  exact(hN.chg.block k Om fun hy=>(h1 k hy).1 ⟨hk,hX⟩).trans (hW.chg.block k hk hX)
 refine⟨hcX,Own.combX hN.chg.size (fun k hk hy=>hN.chg.block k hk hy) (fun k hy=>.inr hy) E' _ _ hN.own (fun k hk=>⟨by omega,fun hy=>(h1 k hy).1 hk⟩) (fun k _ hk=>.inl hk) (fun k hk hn=>?_) h3⟩
 by_cases hy:Y k
 ·exact .inr hy
 ·exact absurd ⟨hk,hy⟩ hn
end
section
open Go.ChangeShapes Go.WideShapes Go.ChangeAt Go.RowKit
section
variable {P:Program} {w0 w:World} {X:Nat→Prop} {es:List Asn} {a:Act} {ds:List Deferred} {N:Nat} {env:List (Nat×Value)} {dst:Option Tmp} {ty:TypeId} {ps:String} {af:Array Edge} {gd:Option (Nat×Bool)} {K:Act→World→Prop} {Q:Exit→Act→World→Prop} {d:Tmp} {t t':TypeId} {x y:Operand}
def isIf:Value→Bool
 | .iface _ _=>true
 |_=>false
theorem y_eqNil(hF:Fr ds N env a){v:Value}(hx:ev env x=some v)(hv:v=.nilIface∨∃T p,v=.iface T (.pointer p))(hu:P.isIface t=true):Yv P w0 X es a ⟨dst,.binOp .eql t x (.const .nilIface) t',ty,ps,af,gd⟩ (.bool (!isIf v)):=by
 refine y_bin hF hx rfl fun w=>?_
 rcases hv with rfl|⟨T,p,rfl⟩
 ·have hr:=run_eql_nil_nil_at (P:=P) w t hu
  simp[eqGuard,hr,isIf]
 ·have hr:=run_eql_iface_nil (P:=P) w t hu T (.pointer p)
  simp[eqGuard,hr,isIf]
theorem e_appendStr{T:TypeId}{v:Value}{n n':Nat}{l s l':List UInt8}{t u:TypeId}(hF:Fr ds N env a)(hW:Wd w0 X es w)(i:Nat)(hi:es[i]?=some (.row T 1 v n (bcs l)))(hx:ev env x=some v)(hy:ev env y=some (.string (bstr s)))
  (ht:P.underlying t=some (.slice T)) (hu:P.underlying u=some .string) (hinf:(P.info? T).map (fun i=>(i.zero,i.size,i.bytes))=some (some (.int .u8 0),1,1)) (hN:n+s.length=n') (hl:l++s=l') (hb:n'≤140737488355328) (hd:Nat.blt d N=true) (hf:fresh env d=true)
  (k:∀A' c' a w,Fr ds N ((d,.slice A' n' c')::env) a→Wd w0 X (es.set i (.row T 1 (.slice A' n' c') n' (bcs l'))) w→K a w):(⟨some d,.call ⟨.builtin .append,#[x,y],#[t,u]⟩,ty,ps,af,gd⟩:Oper).wp P a w K Q:=by
 subst hN hl
 obtain⟨i0,hi0,hz0,hz1,hz2⟩:=info_parts hinf
 obtain⟨v',w',hrun,hown,hg,hnil⟩:=Lib.run_append_own_string (P:=P) (w:=w) 0 t u ty T i0 ht hu hi0 hz0 hz1 hz2 v n (bcs l) (hW.row i hi) (bstr s) (by rw[bstr_size];unfold maxLen;omega) (by rw[bstr_size];exact hb) (Nat.zero_le _)
 have hat:v'.ownBlock=v.ownBlock∨v'.ownBlock=some w.heap.size:=by
  have hxl:(bcs l).length=n:=by simpa using(hW.row i hi).1
  have hsz:=bstr_size s
  rcases(hW.row i hi).2 with⟨rfl,rfl⟩|⟨g,cap,cur,rfl,hbg,hgh,hnc,hcm,hcs,htake⟩
  ·by_cases hm:(bstr s).size=0
   ·rw[hnil.2 ⟨rfl,hm⟩]
    exact .inl rfl
   ·have hr:=run_append_nil_string (P:=P) w t u ty T i0 (.int .u8 0) ht hu hi0 hz0 (bstr s) Om Om (by rw[hz2];omega)
    rw[hr] at hrun
    injection hrun with h1 _
    rw[←h1]
    exact .inr rfl
  ·have hcs':cur.size=cap:=by simpa using hcs
   by_cases hroom:n+(bstr s).size≤cap
   ·have hr:=Lib.run_append_room_string (P:=P) w t u ty T i0 ht hu hi0 hz1 g n cap cur hgh (bstr s) hroom Om
    rw[hr] at hrun
    injection hrun with h1 _
    rw[←h1]
    exact .inl rfl
   ·have hr:=Lib.run_append_grow_string (P:=P) w t u ty T i0 (.int .u8 0) ht hu hi0 hz0 ⟨g,0,none⟩ n cap (bcs l) (by rw[hz1];simpa using hxl) ((hW.row i hi).cells (g:=g) rfl) (bstr s) Om Om (by rw[hz2];exact growslice_fits Om Om)
    rw[hr] at hrun
    injection hrun with h1 _
    rw[←h1]
    exact .inr rfl
 have hbs:bcs l++Lib.strCells (bstr s)=bcs (l++s):=by
  rw[bcs_app]
  rfl
 rw[hbs,bstr_size] at hown
 obtain⟨A',c',rfl⟩:∃A' c',v'=.slice A' (n+s.length) c':=by
  rcases hown.2 with⟨h1,h2⟩|⟨g,cap,cur,h1,_⟩
  ·exact⟨none,0,by rw[h1,h2]⟩
  ·exact⟨_,_,h1⟩
 have hex:(execOp a.eval ⟨some d,.call ⟨.builtin .append,#[x,y],#[t,u]⟩,ty,ps,af,gd⟩).run P w=.ok (.value (.slice A' (n+s.length) c')) w':=by
  simp[execOp,resolve,invoke,builtin,hF.ev hx,hF.ev hy,hrun]
 unfold Oper.wp
 rw[hex]
 exact k A' c' _ w' (hF.put _ hd hf) (hW.grown i hi hown hg hat)
theorem Wd.addB(hW:Wd w0 X es w){w':World}(hb:Below w.heap.size w w'){b:Nat}{T:TypeId}{l:List Value}(hB:Blk w' b T l)(hge:w.heap.size≤b):Wd w0 X (.blk b T l::es) w':=
 hW.add (F:=fun k=>k=b) hb ⟨rfl,fun _ h=>h,hB⟩ fun k hk=>by subst hk;exact⟨hge,hB.lt⟩
end
end
end Go.Proofs.YtndcjmopebcdgaaGreatDoor
