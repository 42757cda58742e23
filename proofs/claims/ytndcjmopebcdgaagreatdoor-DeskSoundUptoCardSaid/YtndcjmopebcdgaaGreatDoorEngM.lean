/- The engine, part eleven: maps of counts. No program is named. -/
import Derived.Test.YtndcjmopebcdgaaGreatDoorEng
import Derived.MapKept
set_option linter.unusedSimpArgs false
set_option linter.unusedVariables false
namespace Go.Proofs.YtndcjmopebcdgaaGreatDoor
open Go.ChangeShapes Go.WideShapes Go.ChangeAt Go.RowKit
section
variable {κ:Type}
def cents(enc:κ→Value):List (κ×Int)→Nat→List MapEntry
 |[],_=>[]
 |p::r,i=>{key:=enc p.1,val:=.int .i64 p.2,born:=i}::cents enc r (i+1)
def cfind [DecidableEq κ](k:κ):List (κ×Int)→Nat→Option (Nat×Int)
 |[],_=>none
 |p::r,i=>if k=p.1 then some (i,p.2) else cfind k r (i+1)
def cget [DecidableEq κ](k:κ)(ks:List (κ×Int)):Int:=((cfind k ks 0).map Prod.snd).getD 0
def centry [DecidableEq κ](k:κ)(ks:List (κ×Int)):List (κ×Int)×Nat:=match cfind k ks 0 with
 |some q=>(ks,q.1)
 |none=>(ks++[(k,0)],ks.length)
def cmod(i:Nat)(v:Int)(ks:List (κ×Int)):List (κ×Int):=ks.modify i fun p=>(p.1,v)
def cadd [DecidableEq κ](k:κ)(v:Int)(ks:List (κ×Int)):List (κ×Int):=cmod (centry k ks).2 v (centry k ks).1
theorem cents_len(enc:κ→Value):∀(ks:List (κ×Int)) (i:Nat),(cents enc ks i).length=ks.length
 |[],_=>rfl
 |_::r,i=>by simp[cents,cents_len enc r (i+1)]
theorem cents_get(enc:κ→Value):∀(ks:List (κ×Int)) (i j:Nat),(cents enc ks i)[j]?=(ks[j]?).map fun p=>{key:=enc p.1,val:=.int .i64 p.2,born:=i+j}
 |[],_,_=>by simp[cents]
 |p::r,i,0=>by simp[cents]
 |p::r,i,j+1=>by simp[cents,cents_get enc r (i+1) j,Nat.add_comm,Nat.add_left_comm]
theorem cents_snoc(enc:κ→Value)(k:κ)(v:Int):∀(ks:List (κ×Int)) (i:Nat),cents enc (ks++[(k,v)]) i=cents enc ks i++[{key:=enc k,val:=.int .i64 v,born:=i+ks.length}]
 |[],_=>by simp[cents]
 |p::r,i=>by simp[cents,cents_snoc enc k v r (i+1),Nat.add_comm,Nat.add_left_comm]
theorem cfind_some [DecidableEq κ](k:κ):∀(ks:List (κ×Int)) (i:Nat) (q:Nat×Int),cfind k ks i=some q→∃j,q.1=i+j∧ks[j]?=some (k,q.2)
 |[],_,_,h=>by cases h
 |p::r,i,q,h=>by
  unfold cfind at h
  split at h
  ·rename_i e
   cases h
   exact⟨0,rfl,by simp[e]⟩
  ·obtain⟨j,h1,h2⟩:=cfind_some k r (i+1) q h
   exact⟨j+1,by omega,by simpa using h2⟩
theorem cfind_app [DecidableEq κ](k k':κ)(v:Int):∀(ks:List (κ×Int)) (i:Nat),cfind k (ks++[(k',v)]) i=match cfind k ks i with|some q=>some q|none=>if k=k' then some (i+ks.length,v) else none
 |[],i=>by simp[cfind]
 |p::r,i=>by
  simp only[List.cons_append,cfind]
  split
  ·rfl
  ·rw[cfind_app k k' v r (i+1),List.length_cons]
   simp only[Nat.add_assoc,Nat.add_comm 1]
theorem cfind_mod [DecidableEq κ](k:κ)(v:Int):∀(ks:List (κ×Int)) (i j:Nat),(cfind k (cmod j v ks) i).map Prod.snd=(cfind k ks i).map fun q=>if q.1=i+j then v else q.2
 |[],_,_=>by simp[cmod,cfind]
 |p::r,i,0=>by
  simp only[cmod,List.modify_zero_cons,cfind]
  split
  ·simp
  ·cases h:cfind k r (i+1) with
   |none=>rfl
   |some q=>
    obtain⟨j,h1,_⟩:=cfind_some k r (i+1) q h
    simp only[Option.map_some]
    rw[if_neg Om]
 |p::r,i,j+1=>by
  simp only[cmod,List.modify_succ_cons,cfind]
  split
  ·simp
  ·have:=cfind_mod k v r (i+1) j
   unfold cmod at this
   rw[this]
   simp only[Nat.add_assoc,Nat.add_comm 1]
theorem cget_add [DecidableEq κ](k k':κ)(v:Int)(ks:List (κ×Int)):cget k (cadd k' v ks)=if k=k' then v else cget k ks:=by
 unfold cget cadd
 rw[cfind_mod]
 unfold centry
 cases hf:cfind k' ks 0 with
 |some q=>
  dsimp only
  obtain⟨j,h1,h2⟩:=cfind_some k' ks 0 q hf
  by_cases e:k=k'
  ·subst e
   rw[hf,if_pos rfl]
   simp
  ·rw[if_neg e]
   cases hk:cfind k ks 0 with
   |none=>rfl
   |some p=>
    obtain⟨j2,h3,h4⟩:=cfind_some k ks 0 p hk
    simp only[Option.map_some,Option.getD_some]
    rw[if_neg]
    intro h5
    obtain rfl:j2=j:=by omega
    rw[h2] at h4
    exact e (Prod.mk.inj (Option.some.inj h4)).1.symm
 |none=>
  dsimp only
  rw[cfind_app]
  by_cases e:k=k'
  ·subst e
   simp[hf]
  ·rw[if_neg e]
   cases hk:cfind k ks 0 with
   |none=>simp[e]
   |some p=>
    obtain⟨j2,h3,h4⟩:=cfind_some k ks 0 p hk
    have:=(List.getElem?_eq_some_iff.1 h4).1
    simp only[Option.map_some,Option.getD_some]
    rw[if_neg Om,if_neg e]
theorem cget_nil [DecidableEq κ](k:κ):cget k []=0:=rfl
structure KeyOk [DecidableEq κ](P:Program)(kt:TypeId)(enc:κ→Value):Prop where
 check:∀(e:Bool) (k:κ) (w:World),(Instr.checkKey e 10000 kt (enc k)).run P w=.ok () w
 find:∀(ks:List (κ×Int)) (i:Nat) (k:κ) (w:World),(Instr.findKey kt (enc k) (cents enc ks i)).run P w=.ok ((cfind k ks 0).map fun q=>(q.1,.int .i64 q.2)) w
 same:∀k,Instr.sameBits 10000 (enc k) (enc k)=true
variable {P:Program} {w0 w:World} {X:Nat→Prop} {es:List Asn} {a:Act} {ds:List Deferred} {N:Nat} {env:List (Nat×Value)} {ty:TypeId} {ps:String} {af:Array Edge} {gd:Option (Nat×Bool)} {K:Act→World→Prop} {Q:Exit→Act→World→Prop} {d:Tmp} {t kt et:TypeId} {x y z:Operand} {b:Nat} {enc:κ→Value} {ks:List (κ×Int)} {k:κ}
def Asn.cmap(b:Nat)(enc:κ→Value)(ks:List (κ×Int)):Asn where
 holds w F:=F b∧(∀k,F k→k=b)∧w.heap[b]?=some (.map (cents enc ks 0).toArray ks.length)
 loc:=fun _ _ _ h hk=>⟨h.1,h.2.1,(hk _ h.1).trans h.2.2⟩
theorem Wd.cmap(h:Wd w0 X es w)(i:Nat)(hi:es[i]?=some (.cmap b enc ks)):w.heap[b]?=some (.map (cents enc ks 0).toArray ks.length):=by
 obtain⟨F,hA,_⟩:=Own.get es _ i _ h.own hi
 exact hA.2.2
theorem Wd.cmapNew(h:Wd w0 X es w)(enc:κ→Value):Wd w0 X (.cmap w.heap.size enc []::es) (w.alloc (.map #[] 0)):=
 h.add (F:=fun k=>k=w.heap.size) ((Below.refl _ _).alloc1 _) ⟨rfl,fun _ h=>h,(MapKept.heap_alloc w _).1⟩ fun k hk=>by rw[hk,World.size_alloc];omega
theorem Wd.cmapSet(h:Wd w0 X es w)(i:Nat)(hi:es[i]?=some (.cmap b enc ks))(ks':List (κ×Int)){ea:Array MapEntry}{n:Nat}(he:ea=(cents enc ks' 0).toArray)(hn:n=ks'.length):Wd w0 X (es.set i (.cmap b enc ks')) {w with heap:=w.heap.setIfInBounds b (.map ea n)}:=
 h.upd i hi fun F hF=>by
  obtain⟨h1,h2⟩:=MapKept.heap_set (o':=.map ea n) hF.2.2
  have hlt:=(Array.getElem?_eq_some_iff.1 hF.2.2).1
  subst he hn
  exact⟨⟨rfl,rfl,rfl,by simp,fun k _ hk=>h2 k fun e=>hk (e▸hF.1)⟩,(· =b),⟨rfl,fun _ h=>h,h1⟩,fun k hk=>by subst hk;exact⟨by simpa using hlt,.inl hF.1⟩⟩
theorem e_makeMap(hF:Fr ds N env a)(hW:Wd w0 X es w)(enc:κ→Value)(hd:Nat.blt d N=true)(hf:fresh env d=true)
  (k:∀b a w,Fr ds N ((d,.map (some b))::env) a→Wd w0 X (.cmap b enc []::es) w→K a w):(⟨some d,.makeMap t none,ty,ps,af,gd⟩:Oper).wp P a w K Q:=by
 have hr:(execOp a.eval ⟨some d,.makeMap t none,ty,ps,af,gd⟩).run P w=.ok (.value (.map (some w.heap.size))) (w.alloc (.map #[] 0)):=by
  simp[execOp,Instr.makeMap]
 unfold Oper.wp
 rw[hr]
 exact k _ _ _ (hF.put _ hd hf) (hW.cmapNew enc)
theorem cents_self{i:Nat}{q:κ×Int}(hq:ks[i]?=some q):(cents enc ks 0).modify i (fun e=>{e with key:=enc q.1})=cents enc ks 0:=by
 apply List.ext_getElem?
 intro j
 rw[List.getElem?_modify,cents_get]
 by_cases e:i=j
 ·subst e
  rw[hq]
  simp
 ·simp[e]
theorem cents_mod(i:Nat)(v:Int):(cents enc ks 0).modify i (fun e=>{e with val:=.int .i64 v})=cents enc (cmod i v ks) 0:=by
 apply List.ext_getElem?
 intro j
 rw[List.getElem?_modify,cents_get,cents_get]
 unfold cmod
 rw[List.getElem?_modify]
 by_cases e:i=j
 ·subst e
  cases ks[i]?<;>simp
 ·cases ks[j]?<;>simp[e]
theorem toArray_modify{α:Type}(l:List α)(i:Nat)(f:α→α):l.toArray.modify i f=(l.modify i f).toArray:=by
 apply Array.ext'
 simp
theorem e_mapEntry [DecidableEq κ](hk:KeyOk P kt enc)(hF:Fr ds N env a)(hW:Wd w0 X es w)(hx:ev env x=some (.map (some b)))(hy:ev env y=some (enc k))(i:Nat)(hi:es[i]?=some (.cmap b enc ks))(hu:P.underlying t=some (.map kt et))(hz:(P.info? et).map (·.zero)=some (some (.int .i64 0)))(hd:Nat.blt d N=true)(hf:fresh env d=true)
  (kk:∀a w,Fr ds N ((d,.tuple #[.int .i64 (cget k ks),.int .i64 ((centry k ks).2:Nat)])::env) a→Wd w0 X (es.set i (.cmap b enc (centry k ks).1)) w→K a w):(⟨some d,.mapEntry t x y,ty,ps,af,gd⟩:Oper).wp P a w K Q:=by
 have hb:=hW.cmap i hi
 have h1:=MapKept.run_getObj_map (P:=P) hb
 have h2:=hk.check false k w
 have h3:=hk.find ks 0 k w
 have hzr:(zeroValue et).run P w=.ok (.int .i64 0) w:=by
  cases hti:P.info? et with
  |none=>rw[hti] at hz;cases hz
  |some ti=>
   rw[hti] at hz
   have hz':ti.zero=some (.int .i64 0):=by simpa using hz
   simp[zeroValue,typeInfo,hti,hz']
 unfold centry cget at kk
 cases hc:cfind k ks 0 with
 |none=>
  rw[hc] at h3 kk
  have hset:=fun o=>MapKept.run_setObj_map (P:=P) o hb
  have hr:(execOp a.eval ⟨some d,.mapEntry t x y,ty,ps,af,gd⟩).run P w=.ok (.value (.tuple #[.int .i64 0,.int .i64 (ks.length:Nat)])) {w with heap:=w.heap.setIfInBounds b (.map ((cents enc ks 0).toArray.push {key:=enc k,val:=.int .i64 0,born:=ks.length}) (ks.length+1))}:=by
   simp[execOp,hF.ev hx,hF.ev hy,Instr.mapEntry,run_underlying hu,Result.andThen,h1,h2,h3,hzr,hset,goInt] at*
  unfold Oper.wp
  rw[hr]
  exact kk _ _ (hF.put _ hd hf) (hW.cmapSet i hi (ks++[(k,0)]) (by rw[cents_snoc];simp) Si)
 |some q=>
  rw[hc] at h3 kk
  obtain⟨j,h5,h6⟩:=cfind_some k ks 0 q hc
  rw[Nat.zero_add] at h5
  have hg:(cents enc ks 0)[q.1]?=some {key:=enc k,val:=.int .i64 q.2,born:=q.1}:=by rw[cents_get,h5,h6];simp
  have hset:=fun o=>MapKept.run_setObj_map (P:=P) o hb
  have hm:(cents enc ks 0).modify q.1 (fun e=>{key:=enc k,val:=e.val,born:=e.born})=cents enc ks 0:=cents_self (q:=(k,q.2)) (by rw[h5];exact h6)
  have hr:(execOp a.eval ⟨some d,.mapEntry t x y,ty,ps,af,gd⟩).run P w=.ok (.value (.tuple #[.int .i64 q.2,.int .i64 (q.1:Nat)])) {w with heap:=w.heap.setIfInBounds b (.map (cents enc ks 0).toArray ks.length)}:=by
   simp[execOp,hF.ev hx,hF.ev hy,Instr.mapEntry,run_underlying hu,Result.andThen,h1,h2,h3,Instr.keyThatStays,hg,hk.same,hset,goInt,hm] at*
  unfold Oper.wp
  rw[hr]
  exact kk _ _ (hF.put _ hd hf) (hW.cmapSet i hi ks rfl rfl)
theorem cents_findIdx{i:Nat}(h:i<ks.length):(cents enc ks 0).findIdx? (fun e=>(e.born:Int)==(i:Int))=some i:=by
 rw[List.findIdx?_eq_some_iff_getElem]
 have hl:=cents_len enc ks 0
 have hb:∀j (hj:j<(cents enc ks 0).length),(cents enc ks 0)[j].born=j:=fun j hj=>by
  have:=cents_get enc ks 0 j
  rw[List.getElem?_eq_getElem hj,List.getElem?_eq_getElem Om] at this
  simp only[Option.map_some,Option.some.injEq,Nat.zero_add] at this
  rw[this]
 refine⟨by omega,by rw[hb];simp,fun j hj=>?_⟩
 rw[hb]
 simp
 omega
theorem e_entryStore{dst:Option Tmp}(hdst:dst=none)(hF:Fr ds N env a)(hW:Wd w0 X es w){j:Nat}{v:Int}(hx:ev env x=some (.map (some b)))(hy:ev env y=some (.int .i64 (j:Nat)))(hv:ev env z=some (.int .i64 v))(i:Nat)(hi:es[i]?=some (.cmap b enc ks))(hj:j<ks.length)
  (kk:∀w,Wd w0 X (es.set i (.cmap b enc (cmod j v ks))) w→K a w):(⟨dst,.entryStore t x y z,ty,ps,af,gd⟩:Oper).wp P a w K Q:=by
 subst hdst
 have hb:=hW.cmap i hi
 have h1:=MapKept.run_getObj_map (P:=P) hb
 have hset:=MapKept.run_setObj_map (P:=P) (.map ((cents enc ks 0).toArray.modify j fun e=>{e with val:=.int .i64 v}) ks.length) hb
 have hfi:(cents enc ks 0).toArray.findIdx? (fun e=>(e.born:Int)==(j:Int))=some j:=by
  rw[List.findIdx?_toArray]
  exact cents_findIdx hj
 have hr:(execOp a.eval ⟨none,.entryStore t x y z,ty,ps,af,gd⟩).run P w=.ok .skip {w with heap:=w.heap.setIfInBounds b (.map ((cents enc ks 0).toArray.modify j fun e=>{e with val:=.int .i64 v}) ks.length)}:=by
  simp only[execOp,hF.ev hx,hF.ev hy,hF.ev hv,Instr.entryStore,Sem.run_bind,h1,Result.andThen_ok,asInt,asIntOf,Sem.run_pure,hfi,hset]
 unfold Oper.wp
 rw[hr]
 exact kk _ (hW.cmapSet i hi _ (by rw[toArray_modify,cents_mod]) (by simp[cmod]))
theorem centry_lt [DecidableEq κ](k:κ)(ks:List (κ×Int)):(centry k ks).2<(centry k ks).1.length:=by
 unfold centry
 cases hc:cfind k ks 0 with
 |none=>simp
 |some q=>
  obtain⟨j,h1,h2⟩:=cfind_some k ks 0 q hc
  have:=(List.getElem?_eq_some_iff.1 h2).1
  show q.1<ks.length
  omega
theorem cget_centry [DecidableEq κ](k k':κ)(ks:List (κ×Int)):cget k (centry k' ks).1=cget k ks:=by
 unfold centry cget
 cases hc:cfind k' ks 0 with
 |some q=>rfl
 |none=>
  dsimp only
  rw[cfind_app]
  cases hk:cfind k ks 0 with
  |some p=>rfl
  |none=>
   dsimp only
   split<;>rfl
theorem modify_last{α:Type}(f:α→α)(x:α):∀(l:List α),(l++[x]).modify l.length f=l++[f x]
 |[]=>rfl
 |y::r=>by simp[modify_last f x r]
theorem cadd_none [DecidableEq κ]{v:Int}(h:cfind k ks 0=none):cadd k v ks=ks++[(k,v)]:=by
 unfold cadd centry cmod
 rw[h]
 exact modify_last _ _ _
theorem cadd_some [DecidableEq κ]{v:Int}{q:Nat×Int}(h:cfind k ks 0=some q):cadd k v ks=cmod q.1 v ks:=by
 unfold cadd centry
 rw[h]
theorem e_mapUpdate [DecidableEq κ]{dst:Option Tmp}(hdst:dst=none)(hk:KeyOk P kt enc)(hF:Fr ds N env a)(hW:Wd w0 X es w){v:Int}(hx:ev env x=some (.map (some b)))(hy:ev env y=some (enc k))(hv:ev env z=some (.int .i64 v))(i:Nat)(hi:es[i]?=some (.cmap b enc ks))(hu:P.underlying t=some (.map kt et))
  {op:Op} (hop:op=.mapUpdate t x y z∨op=.insert t x y z)
  (kk:∀w,Wd w0 X (es.set i (.cmap b enc (cadd k v ks))) w→K a w):(⟨dst,op,ty,ps,af,gd⟩:Oper).wp P a w K Q:=by
 subst hdst
 have hb:=hW.cmap i hi
 have h1:=MapKept.run_getObj_map (P:=P) hb
 have h2:=hk.check false k w
 have h3:=hk.find ks 0 k w
 cases hn:cfind k ks 0 with
 |none=>
  rw[hn] at h3
  simp only[Option.map_none] at h3
  have hset:=MapKept.run_setObj_map (P:=P) (.map ((cents enc ks 0).toArray.push {key:=enc k,val:=.int .i64 v,born:=ks.length}) (ks.length+1)) hb
  have hm:(Instr.mapUpdate t (.map (some b)) (enc k) (.int .i64 v)).run P w=.ok () {w with heap:=w.heap.setIfInBounds b (.map ((cents enc ks 0).toArray.push {key:=enc k,val:=.int .i64 v,born:=ks.length}) (ks.length+1))}:=by
   simp only[Instr.mapUpdate,Sem.run_bind,run_underlying hu,Result.andThen_ok,h1,h2,h3,hset]
  have hr:(execOp a.eval ⟨none,op,ty,ps,af,gd⟩).run P w=.ok .skip {w with heap:=w.heap.setIfInBounds b (.map ((cents enc ks 0).toArray.push {key:=enc k,val:=.int .i64 v,born:=ks.length}) (ks.length+1))}:=by
   rcases hop with rfl|rfl<;>simp[execOp,hF.ev hx,hF.ev hy,hF.ev hv,hm]
  unfold Oper.wp
  rw[hr]
  exact kk _ (hW.cmapSet i hi _ (by rw[cadd_none hn,cents_snoc];simp) (by rw[cadd_none hn];simp))
 |some q=>
  rw[hn] at h3
  simp only[Option.map_some] at h3
  obtain⟨j,h5,h6⟩:=cfind_some k ks 0 q hn
  rw[Nat.zero_add] at h5
  have hg:(cents enc ks 0)[q.1]?=some {key:=enc k,val:=.int .i64 q.2,born:=q.1}:=by rw[cents_get,h5,h6];simp
  have hmd:(cents enc ks 0).modify q.1 (fun e=>{key:=enc k,val:=.int .i64 v,born:=e.born})=cents enc (cmod q.1 v ks) 0:=by
   rw[←cents_mod]
   apply List.ext_getElem?
   intro i
   rw[List.getElem?_modify,List.getElem?_modify]
   by_cases e:q.1=i
   ·subst e
    rw[hg]
    simp
   ·simp[e]
  have hset:=fun o=>MapKept.run_setObj_map (P:=P) o hb
  have hm:(Instr.mapUpdate t (.map (some b)) (enc k) (.int .i64 v)).run P w=.ok () {w with heap:=w.heap.setIfInBounds b (.map (cents enc (cmod q.1 v ks) 0).toArray ks.length)}:=by
   simp only[Instr.mapUpdate,Sem.run_bind,run_underlying hu,Result.andThen_ok,h1,h2,h3,Instr.keyThatStays]
   simp[hg,hk.same,hmd,hset]
  have hr:(execOp a.eval ⟨none,op,ty,ps,af,gd⟩).run P w=.ok .skip {w with heap:=w.heap.setIfInBounds b (.map (cents enc (cmod q.1 v ks) 0).toArray ks.length)}:=by
   rcases hop with rfl|rfl<;>simp[execOp,hF.ev hx,hF.ev hy,hF.ev hv,hm]
  unfold Oper.wp
  rw[hr]
  exact kk _ (hW.cmapSet i hi _ (by rw[cadd_some hn]) (by rw[cadd_some hn];simp[cmod]))
theorem y_lookup_run [DecidableEq κ]{dst:Option Tmp}(hk:KeyOk P kt enc)(hF:Fr ds N env a)(hx:ev env x=some (.map (some b)))(hy:ev env y=some (enc k))(hb:w.heap[b]?=some (.map (cents enc ks 0).toArray ks.length))(hu:P.underlying t=some (.map kt et))(hz:(P.info? et).map (·.zero)=some (some (.int .i64 0))):(execOp a.eval ⟨dst,.lookup t x y false,ty,ps,af,gd⟩).run P w=.ok (.value (.int .i64 (cget k ks))) w:=by
 have h1:=MapKept.run_getObj_map (P:=P) hb
 have h2:=hk.check (cents enc ks 0).toArray.isEmpty k w
 have h3:=hk.find ks 0 k w
 have hzr:(zeroValue et).run P w=.ok (.int .i64 0) w:=by
  cases hti:P.info? et with
  |none=>rw[hti] at hz;cases hz
  |some ti=>
   rw[hti] at hz
   have hz':ti.zero=some (.int .i64 0):=by simpa using hz
   simp[zeroValue,typeInfo,hti,hz']
 unfold cget
 cases hc:cfind k ks 0 with
 |none=>
  rw[hc] at h3
  simp only[Option.map_none] at h3
  simp only[execOp,hF.ev hx,hF.ev hy,Instr.lookup,Sem.run_bind,run_underlying hu,Result.andThen_ok,h1,Sem.run_pure,h2,h3,hzr]
  simp
 |some q=>
  rw[hc] at h3
  simp only[Option.map_some] at h3
  simp only[execOp,hF.ev hx,hF.ev hy,Instr.lookup,Sem.run_bind,run_underlying hu,Result.andThen_ok,h1,Sem.run_pure,h2,h3]
  simp
theorem y_lookupB [DecidableEq κ]{dst:Option Tmp}{w1:World}(hk:KeyOk P kt enc)(hF:Fr ds N env a)(hx:ev env x=some (.map (some b)))(hy:ev env y=some (enc k))(hb:w1.heap[b]?=some (.map (cents enc ks 0).toArray ks.length))(hu:P.underlying t=some (.map kt et))(hz:(P.info? et).map (·.zero)=some (some (.int .i64 0))):Yv P w1 NoB es a ⟨dst,.lookup t x y false,ty,ps,af,gd⟩ (.int .i64 (cget k ks)):=fun w hW=>by
 exact y_lookup_run hk hF hx hy ((hW.below.block b (Array.getElem?_eq_some_iff.1 hb).1).trans hb) hu hz
theorem y_lookup [DecidableEq κ]{dst:Option Tmp}(hk:KeyOk P kt enc)(hF:Fr ds N env a)(hx:ev env x=some (.map (some b)))(hy:ev env y=some (enc k))(i:Nat)(hi:es[i]?=some (.cmap b enc ks))(hu:P.underlying t=some (.map kt et))(hz:(P.info? et).map (·.zero)=some (some (.int .i64 0))):Yv P w0 X es a ⟨dst,.lookup t x y false,ty,ps,af,gd⟩ (.int .i64 (cget k ks)):=fun w hW=>by
 have hb:=hW.cmap i hi
 exact y_lookup_run hk hF hx hy hb hu hz
end
section
variable {P:Program} {kt:TypeId}
theorem keyOk_int(hk:P.underlying kt=some (.int .i64)):KeyOk P kt (fun k:Nat=>Value.int .i64 (k:Int)) where
 check:=fun e k w=>MapKept.run_checkKey (k:=.int .i64 (k:Int)) hk (by simp[MapKept.IsKey]) e 9999
 find:=fun ks i k w=>by
  refine MapKept.run_findKey hk ?_
  have key:∀(ks:List (Nat×Int)) (i j:Nat),Instr.findNow (.int .i64) (.int .i64 (k:Int)) (cents (fun k:Nat=>Value.int .i64 (k:Int)) ks i) j=some ((cfind k ks j).map fun q=>(q.1,Value.int .i64 q.2)):=by
   intro ks
   induction ks with
   |nil=>intro i j;rfl
   |cons p r ih=>
    intro i j
    rw[cents,cfind]
    unfold Instr.findNow
    by_cases e:k=p.1
    ·simp[Instr.sameNow,e]
    ·have e2:((k:Int)==(p.1:Int))=false:=by simpa using(show¬(k:Int)=p.1 by omega)
     simp only[Instr.sameNow,if_true,e2,if_neg e]
     exact ih (i+1) (j+1)
  exact key ks i 0
 same:=fun k=>by simp[Instr.sameBits]
def encPair(k:Int×Int):Value:=.agg #[.int .i64 k.1,.int .i64 k.2]
theorem keyOk_pair(hS:P.underlying kt=some (.struct (P.fieldsOf kt)))(hp:P.stoodInHeld kt=false)(hf:flatInts P 0 (P.fieldsOf kt).toList=true)(hl:(P.fieldsOf kt).toList.length=2)
  (hc:∀(e:Bool) (m n:Int) (w:World),(Instr.checkKey e 10000 kt (.agg #[.int .i64 m,.int .i64 n])).run P w=.ok () w):KeyOk P kt encPair where
 check:=fun e k w=>hc e k.1 k.2 w
 find:=fun ks i k w=>by
  have heq:∀k p:Int×Int,(Op.equal kt (encPair k) (encPair p)).run P w=.ok (decide (k=p)) w:=fun k p=>by
   unfold Op.equal encPair
   rw[show(Op.maxDepth:Nat)=9999+1 from rfl,run_equalIn_agg w 9999 kt _ _ hS hp]
   have:=run_eqFields_ints 9998 #[.int .i64 k.1,.int .i64 k.2] #[.int .i64 p.1,.int .i64 p.2] w (P.fieldsOf kt).toList 0 [k.1,k.2] [p.1,p.2] hf (by rw[hl];rfl) (by rw[hl];rfl) (ints_cells [k.1,k.2]) (ints_cells [p.1,p.2])
   rw[this]
   obtain⟨k1,k2⟩:=k
   obtain⟨p1,p2⟩:=p
   simp
  have hask:∀(ks:List ((Int×Int)×Int)) (i j:Nat),(Instr.findAsking kt (encPair k) (cents encPair ks i) j).run P w=.ok ((cfind k ks j).map fun q=>(q.1,Value.int .i64 q.2)) w:=by
   intro ks
   induction ks with
   |nil=>intro i j;rfl
   |cons p r ih=>
    intro i j
    rw[cents,cfind]
    unfold Instr.findAsking
    simp only[Sem.run_bind,heq,Result.andThen_ok]
    by_cases e:k=p.1
    ·simp[e]
    ·simp[e,ih (i+1) (j+1)]
  cases ks with
  |nil=>simp[Instr.findKey,run_underlying hS,Instr.findNow,cents,cfind]
  |cons p r=>
   have hn:Instr.findNow (.struct (P.fieldsOf kt)) (encPair k) (cents encPair (p::r) i) 0=none:=by
    rw[cents]
    simp[Instr.findNow,Instr.sameNow]
   simp[Instr.findKey,run_underlying hS,hn,hask]
 same:=fun k=>by simp[Instr.sameBits,encPair]
end
end Go.Proofs.YtndcjmopebcdgaaGreatDoor
