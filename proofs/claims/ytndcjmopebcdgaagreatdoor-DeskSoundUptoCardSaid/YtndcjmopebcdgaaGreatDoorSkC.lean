/- The engine, part twelve: slices of values that begin anywhere in a block of the call's own, and are appended to. No program is named. The engine, part thirteen: panics and deferred calls; strings, shifts, bytes. No program is named. -/
import Derived.Test.YtndcjmopebcdgaaGreatDoorSkD
import Derived.Defers
import Derived.Recover
import Derived.Laws.BytesString
set_option linter.unusedSimpArgs false
set_option linter.unusedVariables false
namespace Go.Proofs.YtndcjmopebcdgaaGreatDoor
section
open Go.ChangeShapes Go.WideShapes Go.ChangeAt Go.RowKit
section
variable {w0 w w':World} {X:Nat→Prop} {es:List Asn}
def Asn.vseg(T:TypeId)(v:Value)(l:List Value):Asn where
 holds w F:=∃A c,v=.slice A l.length c∧l.length≤c∧c≤maxLen∧(0<c→∃b o L,A=some ⟨b,o,none⟩∧F b∧Blk w b T L∧o+c≤L.length∧(L.drop o).take l.length=l)
 loc:=fun w w' F h hk=>by
  obtain⟨A,c,e,h1,h2,h3⟩:=h
  refine⟨A,c,e,h1,h2,fun h0=>?_⟩
  obtain⟨b,o,L,e2,hF,hB,r⟩:=h3 h0
  exact⟨b,o,L,e2,hF,(hk b hF).trans hB,r⟩
variable {T:TypeId} {v:Value} {l:List Value} {A:Option Addr} {n c:Nat}
theorem Wd.vsegR{d0:Value}(hW:Wd w0 X es w)(i:Nat)(hi:es[i]?=some (.vseg T (.slice A n c) l)):RF w A n 1 (fun k=>[l.getD k d0]):=fun hn=>by
 obtain⟨F,⟨A',c',e,h1,h2,h3⟩,_⟩:=Own.get es _ i _ hW.own hi
 simp only[Value.slice.injEq] at e
 obtain⟨rfl,rfl,rfl⟩:=e
 obtain⟨b,o,L,rfl,-,hB,hL,ht⟩:=h3 Om
 refine⟨rfl,fun k hk o' u hu=>?_⟩
 obtain rfl:o'=0:=by
  have:=(List.getElem?_eq_some_iff.1 hu).1
  simp at this
  omega
 simp only[List.getElem?_cons_zero,Option.some.injEq] at hu
 show w.cell? ((⟨b,o,none⟩:Addr).add (k*1+0))=some u
 rw[add_own,Nat.mul_one,Nat.add_zero,hB.cell]
 have h4:=congrArg (fun r=>r[k]?) ht
 simp only[List.getElem?_take,if_pos hk,List.getElem?_drop,List.getElem?_eq_getElem hk] at h4
 rw[h4,←hu]
 simp[List.getD,List.getElem?_eq_getElem hk]
theorem Wd.vseg_tail(hW:Wd w0 X es w)(i:Nat)(hi:es[i]?=some (.vseg T (.slice A n c) l))(hl:0<n):Wd w0 X (es.set i (.vseg T (.slice (if c=1 then A else A.map (·.add (1*1))) (n - 1) (c - 1)) l.tail)) w:=
 hW.upd i hi fun F hF=>by
  obtain⟨A',c',e,h1,h2,h3⟩:=hF
  simp only[Value.slice.injEq] at e
  obtain⟨rfl,rfl,rfl⟩:=e
  obtain⟨b,o,L,rfl,hFb,hB,hL,ht⟩:=h3 Om
  refine⟨Chg.refl _ _,(· =b),⟨_,c - 1,by rw[List.length_tail],by rw[List.length_tail];omega,by omega,fun h0=>⟨b,o+1,L,?_,rfl,hB,by omega,?_⟩⟩,fun k hk=>by subst hk;exact⟨hB.lt,.inl hFb⟩⟩
  ·rw[if_neg Om]
   show some ((⟨b,o,none⟩:Addr).add (1*1))=_
   rw[add_own]
  ·have h4:=congrArg List.tail ht
   rw[List.length_tail,←List.drop_drop,←h4,←List.drop_one,List.drop_take]
theorem Wd.blk_vseg(hW:Wd w0 X es w)(i:Nat){b:Nat}{L:List Value}(l:List Value)(hi:es[i]?=some (.blk b T L))(hL:L=l)(hm:l.length≤maxLen):Wd w0 X (es.set i (.vseg T (.slice (some ⟨b,0,none⟩) l.length l.length) l)) w:=
 hW.upd i hi fun F hF=>⟨Chg.refl _ _,(· =b),⟨_,l.length,rfl,Nat.le_refl _,hm,fun _=>⟨b,0,L,rfl,rfl,hF.2.2,by simp[hL],by rw[hL,List.drop_zero,List.take_of_length_le Si]⟩⟩,fun k hk=>by subst hk;exact⟨hF.2.2.lt,.inl hF.1⟩⟩
end
section
variable {P:Program} {w0 w:World} {X:Nat→Prop} {es:List Asn} {a:Act} {ds:List Deferred} {N:Nat} {env:List (Nat×Value)} {ty:TypeId} {ps:String} {af:Array Edge} {gd:Option (Nat×Bool)} {K:Act→World→Prop} {Q:Exit→Act→World→Prop} {d:Tmp} {t:TypeId} {x y:Operand}
theorem e_appendVSeg{T:TypeId}{bytes:Nat}{z:Value}{m c2:Nat}{A2:Option Addr}{v:Value}{l news l':List Value}(hF:Fr ds N env a)(hW:Wd w0 X es w)(i:Nat)(hi:es[i]?=some (.vseg T v l))
  (hx:ev env x=some v) (hy:ev env y=some (.slice A2 m c2)) (ht:P.underlying t=some (.slice T)) (hinf:(P.info? T).map (fun i=>(i.zero,i.size,i.bytes))=some (some z,1,bytes)) (hzs:z.cells.size=1)
  (hr:RowAt w 1 A2 m news) (h1n:∀u∈news,u.oneCell'=true) (hl':l++news=l') (hb:l'.length*bytes≤140737488355328) (h63:l'.length≤maxLen) (hd:Nat.blt d N=true) (hf:fresh env d=true)
  (k:∀A' c' a w,Fr ds N ((d,.slice A' l'.length c')::env) a→Wd w0 X (es.set i (.vseg T (.slice A' l'.length c') l')) w→K a w):(⟨some d,.call ⟨.builtin .append,#[x,y],#[t,t]⟩,ty,ps,af,gd⟩:Oper).wp P a w K Q:=by
 subst hl'
 obtain⟨i0,hi0,hz0,hz1,hz2⟩:=info_parts hinf
 obtain⟨F,⟨A,c,rfl,h1,h2,h3⟩,hFo⟩:=Own.get es _ i _ hW.own hi
 have hm:news.length=m:=by have:=hr.1;simpa using this
 have hsrc:Src P i0.size t (.slice A2 m c2) m news w:=by
  rw[hz1]
  rcases A2 with _|ad
  ·have h0:m=0:=by
    rcases Nat.eq_zero_or_pos m with h0|h0
    ·exact h0
    ·obtain⟨ad,h,_⟩:=hr.2 h0
     cases h
   subst h0
   obtain rfl:=List.eq_nil_of_length_eq_zero hm
   exact Src.ofNil _ ht c2
  ·refine Src.ofSlice _ ht ad m c2 _ hr.1 (fun j u hj=>?_) (fun u hu=>h1n u hu)
   ·have h0:0<m:=by
     have:=(List.getElem?_eq_some_iff.1 hj).1
     omega
    obtain⟨ad',e,hc⟩:=hr.2 h0
    injection e with e
    subst e
    exact hc j u hj
 have fin:∀(v':Value) (w':World),(Builtin.append_ #[t,t] ty #[.slice A l.length c,.slice A2 m c2]).run P w=.ok v' w'→(∃A' c',v'=.slice A' (l++news).length c'∧Wd w0 X (es.set i (.vseg T (.slice A' (l++news).length c') (l++news))) w')→(⟨some d,.call ⟨.builtin .append,#[x,y],#[t,t]⟩,ty,ps,af,gd⟩:Oper).wp P a w K Q:=by
  rintro v' w' hrun ⟨A',c',rfl,hW'⟩
  have hrun':(execOp a.eval ⟨some d,.call ⟨.builtin .append,#[x,y],#[t,t]⟩,ty,ps,af,gd⟩).run P w=.ok (.value (.slice A' (l++news).length c')) w':=by
   simp[execOp,resolve,invoke,builtin,hF.ev hx,hF.ev hy,hrun]
  unfold Oper.wp
  rw[hrun']
  exact k A' c' _ w' (hF.put _ hd hf) hW'
 rcases Nat.eq_zero_or_pos m with h0|h0
 ·subst h0
  obtain rfl:=List.eq_nil_of_length_eq_zero hm
  refine fin _ w (run_append_nothing w t t ty T i0 ht hi0 A l.length c h1 _ hsrc) ⟨A,c,by simp,?_⟩
  rw[List.append_nil]
  have hself:es.set i (.vseg T (.slice A l.length c) l)=es:=by
   apply List.ext_getElem?
   intro j
   rw[List.getElem?_set]
   split
   ·rename_i h
    subst h
    rw[if_pos (List.getElem?_eq_some_iff.1 hi).1,hi]
   ·rfl
  rw[hself]
  exact hW
 ·by_cases hroom:l.length+m≤c
  ·obtain⟨b,o,L,rfl,hFb,hB,hL,htk⟩:=h3 Om
   have hcell:∀j,j<news.length→(w.cell? ⟨b,o+l.length*i0.size+j,none⟩).isSome=true:=fun j hj=>by
    rw[hB.cell,hz1,Nat.mul_one]
    rw[List.getElem?_eq_getElem Om]
    rfl
   have hrun:=run_append_room_src w t t ty T i0 ht hi0 b o l.length c _ m _ hsrc hroom hcell (fun j _=>hB.frozen _)
   obtain⟨hB',hO'⟩:=setCells_blk news w L (o+l.length*i0.size) hB
   refine fin _ _ hrun ⟨some ⟨b,o,none⟩,c,by rw[List.length_append,hm],?_⟩
   refine hW.upd i hi fun F2 hF2=>?_
   obtain⟨A2',c2',e2,_,_,h3'⟩:=hF2
   simp only[Value.slice.injEq] at e2
   obtain⟨rfl,-,rfl⟩:=e2
   obtain⟨b2,o2,L2,e3,hFb2,-,-,-⟩:=h3' Om
   simp only[Option.some.injEq,Addr.mk.injEq,and_true] at e3
   obtain⟨rfl,rfl⟩:=e3
   refine⟨(Chg.of_only hO').mono fun k _ hk=>hk▸hFb2,(· =b),⟨_,c,rfl,by rw[List.length_append,hm];exact hroom,h2,fun _=>⟨b,o,_,rfl,rfl,hB',by rw[splice_len];exact hL,?_⟩⟩,fun k hk=>by subst hk;exact⟨hB'.lt,.inl hFb2⟩⟩
   rw[hz1,Nat.mul_one,splice_eq _ _ _ Om,List.length_append]
   have e1:(L.take (o+l.length)).length=o+l.length:=by rw[List.length_take];omega
   have e2:(L.take (o+l.length)).drop o=l:=by
    rw[List.drop_take,Nat.add_sub_cancel_left]
    exact htk
   rw[List.drop_append_of_le_length Om,e2,←List.append_assoc]
   exact List.take_left' Si
  ·have hold:(Builtin.firstCells i0.size l.length (.slice A l.length c)).run P w.drew=.ok l.toArray w.drew:=by
    rcases Nat.eq_zero_or_pos c with hc0|hc0
    ·have hl0:l.length=0:=by omega
     obtain rfl:=List.eq_nil_of_length_eq_zero hl0
     rcases A with _|ad
     ·exact run_firstCells_none _ _ _ _ _
     ·exact run_firstCells_some _ _ _ _ _ _ _ Si Si
    ·obtain⟨b,o,L,rfl,hFb,hB,hL,htk⟩:=h3 hc0
     refine run_firstCells_some _ _ _ _ _ _ _ (by rw[hz1];simp) fun j u hj=>?_
     show w.cell? _=_
     rw[add_own,hB.cell,←hj,←htk,List.getElem?_take,List.getElem?_drop,if_pos (by have:=(List.getElem?_eq_some_iff.1 hj).1;simpa using this)]
   have hlen:(l++news).length=l.length+m:=by rw[List.length_append,hm]
   have hrun:=run_append_grow_src w t t ty T i0 z ht hi0 hz0 A l.length c _ hold _ m _ hsrc Om (by unfold maxLen at h63;omega) (by rw[hz2];exact growslice_fits Om (by rw[←hlen];exact hb))
   have hge:=grownCap_ge w (l.length+m) c T
   have hcm:grownCap w (l.length+m) c T≤maxLen:=grownCap_le_maxLen w (l.length+m) c T (by rw[←hlen];exact h63)
   refine fin _ _ hrun ⟨_,_,by rw[hlen],?_⟩
   refine hW.upd i hi fun F2 hF2=>⟨⟨rfl,rfl,rfl,by simp,fun k hk _=>heap_alloc_old w.drew _ hk⟩,(· =w.heap.size),⟨_,_,rfl,by rw[hlen];exact hge,hcm,fun _=>⟨w.heap.size,0,_,rfl,rfl,Blk.new w.drew _ _,?_,?_⟩⟩,fun k hk=>⟨by subst hk;simp,.inr (Nat.le_of_eq hk.symm)⟩⟩
   ·simp[size_zeroCells,hzs,hm]
    omega
   ·simp only[List.drop_zero,Array.toList_append,List.map_append]
    rw[List.take_left' Si]
end
section
variable {P:Program} {w0 w:World} {X:Nat→Prop} {es:List Asn} {a:Act} {ds:List Deferred} {N:Nat} {env:List (Nat×Value)} {dst:Option Tmp} {ty:TypeId} {ps:String} {af:Array Edge} {gd:Option (Nat×Bool)} {t t':TypeId} {x y:Operand}
end
end
section
open Go.ChangeShapes Go.WideShapes Go.ChangeAt Go.RowKit
section
variable {P:Program} {w0 w:World} {X:Nat→Prop} {es:List Asn} {a:Act} {ds:List Deferred} {N:Nat} {env:List (Nat×Value)} {dst:Option Tmp} {ty:TypeId} {ps:String} {af:Array Edge} {gd:Option (Nat×Bool)} {K:Act→World→Prop} {Q:Exit→Act→World→Prop} {nx:Act→World→Prop} {d:Tmp} {t t':TypeId} {x y:Operand} {ch:List PanicEntry} {id:Nat} {fn:Func} {R:Ending→World→Prop}
theorem t_p(h:Q (.panic ch) a w):Exit.then nx Q (.panic ch) a w:=h
theorem b_p(h:Q (.panic ch) a w):Exit.inBlock id Q (.panic ch) a w:=by simpa[Exit.inBlock] using h
theorem endp(hF:Fr [] N env a)(hR:R (.panicked ch) w):bodyPost P fn R (.panic ch) a w:=⟨hF.defers,hR⟩
theorem e_panic{T:TypeId}{u:Value}(hF:Fr ds N env a)(hx:ev env x=some (.iface T u))(k:Q (.panic [{v:=.iface T u,recovered:=false}]) a w):(⟨dst,.panic x,ty,ps,af,gd⟩:Oper).wp P a w K Q:=by
 have hr:(execOp a.eval ⟨dst,.panic x,ty,ps,af,gd⟩).run P w=.halt (.panic (.iface T u)) w:=by
  simp[execOp,hF.ev hx,Instr.panic,goPanic]
 unfold Oper.wp
 rw[hr]
 exact k
theorem e_callp{f:FuncId}{cap:Array Value}{vs:List Value}{args:List Operand}{at_:Array TypeId}{R:Ending→World→Prop}(hF:Fr ds N env a)(hx:ev env x=some (.func (.func f) #[] cap))(ha:evs env args=some vs)(hen:Enters P f)
  {vv:Array Value} (hvv:vs.toArray++cap=vv) (hd:Nat.blt d N=true) (hf:fresh env d=true)
  (hc:Calls P f vv w R) (k:∀e w',R e w'→(∃v,e=.returned v∧∀a,Fr ds N ((d,v)::env) a→K a w')∨∃ch,e=.panicked ch∧Q (.panic ch) a w'):(⟨some d,.call ⟨.value x,args.toArray,at_⟩,ty,ps,af,gd⟩:Oper).wp P a w K Q:=by
 subst hvv
 have h1:=hF.evs args vs ha
 have hrun:(execOp a.eval ⟨some d,.call ⟨.value x,args.toArray,at_⟩,ty,ps,af,gd⟩).run P w=.ok (.enter f (vs.toArray++cap)) w:=by
  have h2:=hen (vs.toArray++cap) w
  simp[execOp,resolve,Deferred.ofValue,hF.ev hx,h1,invoke,h2]
 unfold Oper.wp
 rw[hrun,Oper.upon_enter]
 refine hc.mono fun e w' hR=>?_
 rcases k e w' hR with⟨v,rfl,hk⟩|⟨ch,rfl,hk⟩
 ·exact hk _ (hF.put v hd hf)
 ·exact hk
theorem e_defer{f:FuncId}{cap:Array Value}{at_:Array TypeId}(hdst:dst=none)(hF:Fr ds N env a)(hx:ev env x=some (.func (.func f) #[] cap))(k:∀a,Fr ({target:=.fn (.func f) cap,args:=#[]}::ds) N env a→K a w):(⟨dst,.defer ⟨.value x,#[],at_⟩,ty,ps,af,gd⟩:Oper).wp P a w K Q:=by
 subst hdst
 have hr:(execOp a.eval ⟨none,.defer ⟨.value x,#[],at_⟩,ty,ps,af,gd⟩).run P w=.ok (.defer {target:=.fn (.func f) cap,args:=#[]}) w:=by
  simp[execOp,resolve,Deferred.ofValue,hF.ev hx]
 unfold Oper.wp
 rw[hr]
 exact k _ ⟨hF.size,by rw[←hF.defers];rfl,hF.env⟩
theorem enterD{f:FuncId}{c:Code}{args:List Value}(hf:P.funcs[f]?=some fn)(hb:fn.body=some c)(hN:fn.ntmps=N)(hl:Nat.ble args.length N=true)
  (k:∀a,Fr [] N (frame0 0 args) a→c.wp P (bodyPostD P fn R) a w):Calls P f args.toArray w R:=by
 refine calls_of_wp_defers hf hb (k _ ⟨?_,rfl,fun t v h=>?_⟩)
 ·have:args.length≤N:=by simpa using hl
  simp[hN]
  omega
 ·have:=(mem_frame0 args 0 t v h).2
  simp only[Nat.sub_zero] at this
  rw[Array.getElem?_append_left (by have:=(List.getElem?_eq_some_iff.1 this).1;simpa using this)]
  simpa using this
theorem res2{r1 r2:ResultVar}{v1 v2:Value}(h:fn.results=#[r1,r2])(h1:RVal P w a r1 v1)(h2:RVal P w a r2 v2):(results fn a.tmps).run P w=.ok (.tuple #[v1,v2]) w:=by
 unfold RVal at h1 h2
 rw[results_of,h]
 simp[h1,h2]
theorem retD0{v:Value}(hF:Fr [] N env a)(hr:(results fn a.tmps).run P w=.ok v w)(hR:R (.returned v) w):bodyPostD P fn R .ret a w:=by
 show Leaves P fn a.tmps R a.defers .returning w
 rw[hF.defers]
 exact⟨v,hr,hR⟩
theorem retD1{f:FuncId}{cap:Array Value}{RD:Ending→FrameMode→World→Prop}(hF:Fr [{target:=.fn (.func f) cap,args:=#[]}] N env a)(hen:Enters P f)(hc:CallsD P f cap .returning w RD)
  (k:∀e u w',RD e u w'→∃v0 v,e=.returned v0∧settle u=.returning∧(results fn a.tmps).run P w'=.ok v w'∧R (.returned v) w'):bodyPostD P fn R .ret a w:=by
 show Leaves P fn a.tmps R a.defers .returning w
 rw[hF.defers]
 refine leaves_cons (f:=f) (args:=cap) Si (by have:=hen cap w;simpa[invoke] using this) ?_
 refine hc.mono fun e u w' h=>?_
 obtain⟨v0,v,rfl,hu,hr,hR⟩:=k e u w' h
 dsimp only
 rw[hu]
 exact⟨v,hr,hR⟩
theorem panD1{f:FuncId}{cap:Array Value}{RD:Ending→FrameMode→World→Prop}(hF:Fr [{target:=.fn (.func f) cap,args:=#[]}] N env a)(hen:Enters P f)(hc:CallsD P f cap (.panicking ch) w RD)
  (k:∀e u w',RD e u w'→∃v0 v,e=.returned v0∧settle u=.returning∧(results fn a.tmps).run P w'=.ok v w'∧R (.returned v) w'):bodyPostD P fn R (.panic ch) a w:=by
 show Leaves P fn a.tmps R a.defers (.panicking ch) w
 rw[hF.defers]
 refine leaves_cons (f:=f) (args:=cap) Si (by have:=hen cap w;simpa[invoke] using this) ?_
 refine hc.mono fun e u w' h=>?_
 obtain⟨v0,v,rfl,hu,hr,hR⟩:=k e u w' h
 dsimp only
 rw[hu]
 exact⟨v,hr,hR⟩
def bstr(l:List UInt8):ByteArray:=⟨l.toArray⟩
theorem bstr_size(l:List UInt8):(bstr l).size=l.length:=rfl
theorem y_indexStr(hF:Fr ds N env a){l:List UInt8}{kk:IntKind}{i:Nat}(hx:ev env x=some (.string (bstr l)))(hy:ev env y=some (.int kk (i:Int)))(hi:i<l.length)(hu:P.underlying t=some .string):
  Yv P w0 X es a ⟨dst,.index t x y,ty,ps,af,gd⟩ (.int .u8 ((l.getD i 0).toNat:Nat)):=y_index hF hx hy fun w=>by
 have h1:(bstr l)[i]?=some (l.getD i 0):=by
  show l.toArray[i]?=_
  simp[List.getD,hi]
 simp[Instr.index,asIntOf,run_underlying hu,h1]
theorem y_sliceStrL(hF:Fr ds N env a){l:List UInt8}{lo:Operand}{kk:IntKind}{i:Nat}(hx:ev env x=some (.string (bstr l)))(hy:ev env lo=some (.int kk (i:Int)))(hi:i≤l.length)(hu:P.underlying t=some .string):
  Yv P w0 X es a ⟨dst,.slice t x (some lo) none none,ty,ps,af,gd⟩ (.string (bstr (l.drop i))):=fun w _=>by
 have h1:(bstr l).extract i (bstr l).size=bstr (l.drop i):=by
  apply ByteArray.ext
  rw[ByteArray.data_extract,bstr_size]
  apply Array.ext'
  simp[bstr]
  rw[List.take_of_length_le Si]
 have h2:(i:Int)≤(bstr l).size:=by rw[bstr_size];omega
 have h3:¬(bstr l).size<i:=by rw[bstr_size];omega
 simp[execOp,hF.ev hx,hF.ev hy,Instr.sliceAt,Instr.slice,run_underlying hu,Instr.sliceBounds,Instr.sliceBound,asIntOf,h2,h3,h1]
theorem y_shr(hF:Fr ds N env a){k yk:IntKind}{m:Int}{n:Nat}(hx:ev env x=some (.int k m))(hy:ev env y=some (.int yk (n:Int)))(hn:n≤k.bits):
  Yv P w0 X es a ⟨dst,.binOp .shr t x y t',ty,ps,af,gd⟩ (.int k (m/2 ^ n)):=y_bin hF hx hy fun w=>by
 have h:=shift_shr k yk m (n:Int) Om Om
 simp[eqGuard,binOp_shr,h]
theorem y_shl(hF:Fr ds N env a){k yk:IntKind}{m:Int}{n:Nat}(hx:ev env x=some (.int k m))(hy:ev env y=some (.int yk (n:Int)))(hn:n≤k.bits):
  Yv P w0 X es a ⟨dst,.binOp .shl t x y t',ty,ps,af,gd⟩ (.int k (k.wrap (m*2 ^ n))):=y_bin hF hx hy fun w=>by
 have h:=shift_shl k yk m (n:Int) Om Om
 simp[eqGuard,binOp_shl,h]
theorem y_or(hF:Fr ds N env a){k:IntKind}{m n:Int}(hx:ev env x=some (.int k m))(hy:ev env y=some (.int k n)):
  Yv P w0 X es a ⟨dst,.binOp .or t x y t',ty,ps,af,gd⟩ (.int k (bits .or k m n)):=y_bin hF hx hy fun w=>by
 simp[eqGuard,binOp_or,intBits_or]
theorem y_makeIface(hF:Fr ds N env a){v:Value}{dd:TypeDesc}(hx:ev env x=some v)(hu:P.underlying t=some dd)(hn:∀ms,dd≠.interface ms):
  Yv P w0 X es a ⟨dst,.makeInterface t x,ty,ps,af,gd⟩ (.iface t v):=fun w _=>by
 cases dd<;>first|(exact absurd rfl (hn _))|simp[execOp,hF.ev hx,Instr.makeInterface,run_underlying hu]
end
end
end Go.Proofs.YtndcjmopebcdgaaGreatDoor
