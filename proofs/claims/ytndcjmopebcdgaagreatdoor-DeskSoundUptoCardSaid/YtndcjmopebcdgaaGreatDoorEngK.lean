/- The engine in short steps: runs of operations that only move values about are computed in one go. No program is named. -/
import Derived.Test.YtndcjmopebcdgaaGreatDoorSkD
set_option linter.unusedSimpArgs false
set_option linter.unusedVariables false
namespace Go.Proofs.YtndcjmopebcdgaaGreatDoor
open Go.ChangeShapes Go.WideShapes Go.ChangeAt Go.RowKit
def fld:List (Nat×Nat×Nat)→Nat→Nat→Option Nat
 |[],_,_=>none
 |(t,f,o)::r,t',f'=>match Nat.beq t t',Nat.beq f f' with
  |true,true=>some o
  |_,_=>fld r t' f'
def FTok(P:Program):List (Nat×Nat×Nat)→Prop
 |[]=>True
 |(t,f,o)::r=>FieldAt P t f o∧FTok P r
theorem FTok.get{P:Program}:∀(T:List (Nat×Nat×Nat)) {t f o:Nat},FTok P T→fld T t f=some o→FieldAt P t f o
 |[],_,_,_,_,h=>by cases h
 |(t,f,o)::r,t',f',o',⟨h1,h2⟩,h=>by
  unfold fld at h
  cases e1:Nat.beq t t'<;>cases e2:Nat.beq f f'<;>rw[e1,e2] at h
  ·exact FTok.get r h2 h
  ·exact FTok.get r h2 h
  ·exact FTok.get r h2 h
  ·obtain rfl:=Option.some.inj h
   rw[←Nat.eq_of_beq_eq_true e1,←Nat.eq_of_beq_eq_true e2]
   exact h1
def isIn:List Nat→Nat→Bool
 |[],_=>false
 |t::r,t'=>match Nat.beq t t' with
  |true=>true
  |false=>isIn r t'
def SLok(P:Program):List Nat→Prop
 |[]=>True
 |t::r=>(∃e,P.underlying t=some (.slice e))∧SLok P r
theorem SLok.get{P:Program}:∀(S:List Nat) {t:Nat},SLok P S→isIn S t=true→∃e,P.underlying t=some (.slice e)
 |[],_,_,h=>by cases h
 |t::r,t',⟨h1,h2⟩,h=>by
  unfold isIn at h
  cases e1:Nat.beq t t'<;>rw[e1] at h
  ·exact SLok.get r h2 h
  ·rw[←Nat.eq_of_beq_eq_true e1]
   exact h1
def FSok(P:Program)(T:List (Nat×Nat×Nat)×List Nat):Prop:=FTok P T.1∧SLok P T.2
def lget:List Value→Nat→Option Value
 |[],_=>none
 |v::_,0=>some v
 |_::r,n+1=>lget r n
theorem lget_eq:∀(l:List Value) (i:Nat),lget l i=l[i]?
 |[],i=>by simp[lget]
 |v::_,0=>by simp[lget]
 |_::r,n+1=>by simp[lget,lget_eq r n]
def qv(T:List (Nat×Nat×Nat)×List Nat)(env:List (Nat×Value)):Op→Option Value
 | .move x=>ev env x
 | .assign x=>ev env x
 | .nilCheck x=>match ev env x with
  |some (.pointer (some p))=>some (.pointer (some p))
  |_=>none
 | .extract x i=>match ev env x with
  |some (.tuple vs)=>lget vs.toList i
  |_=>none
 | .fieldAddr t x f=>match ev env x with
  |some (.pointer (some ⟨b,o,none⟩))=>match fld T.1 t f with
   |some k=>some (.pointer (some ⟨b,o+k,none⟩))
   |none=>none
  |_=>none
 | .pick c x y=>match ev env c with
  |some (.bool true)=>ev env x
  |some (.bool false)=>ev env y
  |_=>none
 | .unOp .not _ x=>match ev env x with
  |some (.bool true)=>some (.bool false)
  |some (.bool false)=>some (.bool true)
  |_=>none
 | .binOp op _ x y _=>match ev env x,ev env y with
  |some (.int .i64 m),some (.int .i64 n)=>match op with
   | .lss=>some (.bool (decide (m<n)))
   | .leq=>some (.bool (decide (m≤n)))
   | .gtr=>some (.bool (decide (n<m)))
   | .geq=>some (.bool (decide (n≤m)))
   | .eql=>some (.bool (decide (m=n)))
   | .neq=>some (.bool (decide (m≠n)))
   |_=>none
  |_,_=>none
 | .call ⟨.builtin .len,xs,ts⟩=>match xs.toList,ts.toList with
  |[x],[t]=>match ev env x,isIn T.2 t with
   |some (.slice _ n _),true=>some (.int .i64 n)
   |_,_=>none
  |_,_=>none
 |_=>none
def odst:List Oper→Nat→Option Nat
 |[],_=>none
 |o::_,0=>o.dst
 |_::r,n+1=>odst r n
theorem odst_eq:∀(l:List Oper) (j:Nat),odst l j=(l.toArray[j]?).bind (·.dst)
 |[],j=>by simp[odst]
 |o::_,0=>by simp[odst]
 |_::r,n+1=>by simpa[odst] using odst_eq r n
def gdv(l:List Oper)(env:List (Nat×Value)):Option (Nat×Bool)→Option Bool
 |none=>some true
 |some (j,b)=>match odst l j with
  |some t=>match evT env t with
   |some (.bool c)=>some (match c,b with
    |true,true=>true
    |false,false=>true
    |_,_=>false)
   |some (.tuple _)=>some false
   |_=>none
  |none=>none
def dropK{α:Type}:List (Nat×Value)→Nat→(List (Nat×Value)→α)→α
 |[],_,k=>k []
 |(t,v)::r,d,k=>match Nat.beq t d with
  |true=>dropK r d k
  |false=>dropK r d fun r'=>k ((t,v)::r')
theorem dropK_eq{α:Type}:∀(env:List (Nat×Value)) (d:Nat) (k:List (Nat×Value)→α),dropK env d k=k (dropT env d)
 |[],_,_=>rfl
 |(t,v)::r,d,k=>by
  unfold dropK dropT
  cases Nat.beq t d with
  |true=>exact dropK_eq r d k
  |false=>exact dropK_eq r d _
def putK{α:Type}(env:List (Nat×Value))(d:Nat)(v:Value)(k:List (Nat×Value)→α):α:=match fresh env d with
 |true=>k ((d,v)::env)
 |false=>dropK env d fun r=>k ((d,v)::r)
theorem fresh_dropT:∀(env:List (Nat×Value)) (d:Nat),fresh (dropT env d) d=true
 |[],_=>rfl
 |(t,v)::r,d=>by
  unfold dropT
  cases h:Nat.beq t d with
  |true=>simpa[h] using fresh_dropT r d
  |false=>
   simp only[h,cond_false]
   unfold fresh
   rw[h]
   exact fresh_dropT r d
theorem Fr.putK{a:Act}{ds:List Deferred}{N:Nat}{env:List (Nat×Value)}{d:Nat}{v:Value}{α:Type}{f:List (Nat×Value)→α}{z:α}{G:Prop}(hF:Fr ds N env a)(h:Proofs.YtndcjmopebcdgaaGreatDoor.putK env d v f=z)(k:∀(env':List (Nat×Value)),Fr ds N env' a→fresh env' d=true→f ((d,v)::env')=z→G):G:=by
 unfold Proofs.YtndcjmopebcdgaaGreatDoor.putK at h
 cases hf:fresh env d with
 |true=>rw[hf] at h;exact k env hF hf h
 |false=>
  rw[hf] at h
  dsimp only at h
  rw[dropK_eq] at h
  exact k (dropT env d) (hF.drop d) (fresh_dropT env d) h
def qr(T:List (Nat×Nat×Nat)×List Nat)(l:List Oper)(N:Nat):Nat→List (Nat×Value)→List Oper→Option (List (Nat×Value)×List Oper)
 |0,env,ops=>some (env,ops)
 |_+1,_,[]=>none
 |n+1,env,⟨d,op,_,_,_,gd⟩::r=>match gdv l env gd with
  |some true=>match d with
   |some d=>match qv T env op with
    |some v=>match Nat.blt d N with
     |true=>putK env d v fun e=>qr T l N n e r
     |false=>none
    |none=>none
   |none=>none
  |some false=>match d with
   |some d=>match Nat.blt d N with
    |true=>putK env d undef fun e=>qr T l N n e r
    |false=>none
   |none=>qr T l N n env r
  |none=>none
section
variable {P:Program} {w w':World} {a:Act} {ds:List Deferred} {N:Nat} {env env':List (Nat×Value)} {Q:Exit→Act→World→Prop} {l:List Oper} {T:List (Nat×Nat×Nat)×List Nat}
theorem gdv_ok{d:Option Tmp}{op:Op}{ty:TypeId}{ps:String}{af:Array Edge}{gd:Option (Nat×Bool)}{b:Bool}(hF:Fr ds N env a)(h:gdv l env gd=some b):Region.wanted ⟨d,op,ty,ps,af,gd⟩ (yielded l.toArray a.tmps)=b:=by
 cases gd with
 |none=>simpa[gdv,Region.wanted] using h
 |some g=>
  obtain⟨j,c⟩:=g
  unfold gdv at h
  dsimp only at h
  cases h1:odst l j with
  |none=>rw[h1] at h;cases h
  |some t=>
   rw[h1] at h
   dsimp only at h
   rw[odst_eq] at h1
   cases h2:evT env t with
   |none=>rw[h2] at h;cases h
   |some v=>
    rw[h2] at h
    cases v with
    |bool e=>
     cases e<;>cases c<;>cases b<;>first|(cases h;done)|exact ws hF h1 h2|exact wn hF h1 h2 rfl
    |tuple vs=>
     cases b
     ·have hy:yielded l.toArray a.tmps j=none:=by
       unfold Go.yielded
       rw[h1]
       simp only[Option.bind_some]
       rw[hF.slot h2]
      simp[Region.wanted,hy]
     ·cases h
    |_=>cases h
theorem qv_ok(hT:FSok P T){op:Op}{v:Value}{X:Nat→Prop}{w0:World}{es:List Asn}{dst:Option Tmp}{ty:TypeId}{ps:String}{af:Array Edge}{gd:Option (Nat×Bool)}(hF:Fr ds N env a)(h:qv T env op=some v):Yv P w0 X es a ⟨dst,op,ty,ps,af,gd⟩ v:=by
 cases op with
 |move x=>exact y_move hF h
 |assign x=>exact y_assign hF h
 |nilCheck x=>
  simp only[qv] at h
  split at h
  ·obtain rfl:=Option.some.inj h
   exact y_nilCheck hF Am
  ·cases h
 |extract x i=>
  simp only[qv] at h
  split at h
  ·rw[lget_eq,Array.getElem?_toList] at h
   exact y_extract hF Am h
  ·cases h
 |fieldAddr t x f=>
  simp only[qv] at h
  split at h
  ·split at h
   ·obtain rfl:=Option.some.inj h
    exact y_fieldOwn hF Am (FTok.get _ hT.1 Am)
   ·cases h
  ·cases h
 |pick c x y=>
  simp only[qv] at h
  split at h
  ·exact y_pick (b:=true) hF Am h
  ·exact y_pick (b:=false) hF Am h
  ·cases h
 |unOp u t x=>
  cases u with
  |not=>
   simp only[qv] at h
   split at h
   ·obtain rfl:=Option.some.inj h
    exact y_not (b:=true) hF Am
   ·obtain rfl:=Option.some.inj h
    exact y_not (b:=false) hF Am
   ·cases h
  |_=>cases h
 |binOp op t x y t'=>
  simp only[qv] at h
  split at h
  ·split at h<;>first|(obtain rfl:=Option.some.inj h)|(cases h;done)
   ·exact y_lss hF Am Am
   ·exact y_leq hF Am Am
   ·exact y_gtr hF Am Am
   ·exact y_geq hF Am Am
   ·exact y_eql hF Am Am
   ·exact y_neq hF Am Am
  ·cases h
 |call c=>
  obtain⟨cal,xs,ts⟩:=c
  cases cal with
  |builtin b=>
   cases b with
   |len=>
    simp only[qv] at h
    split at h
    ·rename_i x t h1 h2
     split at h
     ·obtain rfl:=Option.some.inj h
      obtain⟨e,hu⟩:=SLok.get _ hT.2 Am
      obtain⟨xs⟩:=xs
      obtain⟨ts⟩:=ts
      dsimp only at h1 h2
      subst h1 h2
      exact y_len hF Am hu
     ·cases h
    ·cases h
   |_=>cases h
  |_=>cases h
 |_=>cases h
theorem pqG(hT:FSok P T):∀(n:Nat) {env env':List (Nat×Value)} {ops rest:List Oper} {a:Act},Fr ds N env a→qr T l N n env ops=some (env',rest)→(∀a,Fr ds N env' a→wpList P l.toArray Q rest a w)→wpList P l.toArray Q ops a w
 |0,_,_,_,_,a,hF,h,k=>by
  simp only[qr,Option.some.injEq,Prod.mk.injEq] at h
  obtain⟨rfl,rfl⟩:=h
  exact k a hF
 |n+1,_,_,[],_,_,_,h,_=>by cases h
 |n+1,env,_,⟨d,op,ty,ps,af,gd⟩::r,_,a,hF,h,k=>by
  simp only[qr] at h
  cases h1:gdv l env gd with
  |none=>rw[h1] at h;cases h
  |some b=>
   rw[h1] at h
   have hw:=gdv_ok (d:=d) (op:=op) (ty:=ty) (ps:=ps) (af:=af) hF h1
   cases b with
   |true=>
    dsimp only at h
    cases d with
    |none=>cases h
    |some d=>
     dsimp only at h
     cases h2:qv T env op with
     |none=>rw[h2] at h;cases h
     |some v=>
      rw[h2] at h
      dsimp only at h
      cases h4:Nat.blt d N<;>rw[h4] at h<;>first|(cases h;done)|skip
      have hy:=qv_ok (X:=NoB) (w0:=w) (es:=[]) (dst:=some d) (ty:=ty) (ps:=ps) (af:=af) (gd:=gd) hT hF h2
      exact hF.putK h fun env' hF' h3 h=>pv hF' (Wd.start w NoB) hy (fun a hF=>pqG hT n hF h k) hw h4 h3
   |false=>
    dsimp only at h
    cases d with
    |none=>exact p_skip0 hw (pqG hT n hF h k)
    |some d=>
     dsimp only at h
     cases h4:Nat.blt d N<;>rw[h4] at h<;>first|(cases h;done)|skip
     exact hF.putK h fun env' hF' h3 h=>p_skip hF' hw h4 h3 fun a hF=>pqG hT n hF h k
end
section
variable {P:Program} {w w' w0:World} {X:Nat→Prop} {a:Act} {ds:List Deferred} {N:Nat} {Q:Exit→Act→World→Prop} {l:List Oper} {T:List (Nat×Nat×Nat)×List Nat} {esS:List Asn}
def oget:List Oper→Nat→Option Oper
 |[],_=>none
 |o::_,0=>some o
 |_::r,n+1=>oget r n
theorem oget_eq:∀(l:List Oper) (j:Nat),oget l j=l.toArray[j]?
 |[],j=>by simp[oget]
 |o::_,0=>by simp[oget]
 |_::r,n+1=>by simpa[oget] using oget_eq r n
def qd(T:List (Nat×Nat×Nat)×List Nat)(l:List Oper)(N:Nat):List Nat→List (Nat×Value)→Option (List (Nat×Value))
 |[],env=>some env
 |i::is,env=>match oget l i with
  |some ⟨some d,op,_,_,_,gd⟩=>match gdv l env gd with
   |some true=>match qv T env op with
    |some v=>match Nat.blt d N with
     |true=>putK env d v fun e=>qd T l N is e
     |false=>none
    |none=>none
   |some false=>match Nat.blt d N with
    |true=>putK env d undef fun e=>qd T l N is e
    |false=>none
   |none=>none
  |_=>none
def marks:Array Bool→List Nat→Array Bool
 |b,[]=>b
 |b,i::is=>marks (b.setIfInBounds i true) is
def chkd(ops:Array Oper):Array Bool→List Nat→Bool
 |_,[]=>true
 |b,i::is=>Region.free .any ops b i&&(Region.ready .any ops b).contains i&&chkd ops (b.setIfInBounds i true) is
theorem dqG(hT:FSok P T)(hs:Region.noSelect l.toArray=true)(hQ:∀(d:Nat) v c a w,Q (.panic c) (a.put (some d) v) w→Q (.panic c) a w):∀(is:List Nat) {fuel:Nat} {listed:Array Bool} {env env':List (Nat×Value)} {a:Act},Fr ds N env a→Wd w0 X esS w→qd T l N is env=some env'→chkd l.toArray listed is=true→
  (∀a,Fr ds N env' a→wpAnyH P .any l.toArray Q (Wd w0 X esS) fuel (marks listed is) a w)→wpAnyH P .any l.toArray Q (Wd w0 X esS) (fuel+is.length) listed a w
 |[],fuel,listed,_,_,a,hF,_,h,_,k=>by
  simp only[qd,Option.some.injEq] at h
  subst h
  exact k a hF
 |i::is,fuel,listed,env,env',a,hF,hS,h,hc,k=>by
  simp only[chkd,Bool.and_eq_true] at hc
  obtain⟨⟨hc1,hc2⟩,hc3⟩:=hc
  simp only[qd] at h
  cases ho:oget l i with
  |none=>rw[ho] at h;cases h
  |some o=>
   obtain⟨d,op,ty,ps,af,gd⟩:=o
   have hi:=ho
   rw[oget_eq] at hi
   rw[ho] at h
   cases d with
   |none=>cases h
   |some d=>
    dsimp only at h
    cases h1:gdv l env gd with
    |none=>rw[h1] at h;cases h
    |some b=>
     rw[h1] at h
     have hw:=gdv_ok (d:=some d) (op:=op) (ty:=ty) (ps:=ps) (af:=af) hF h1
     rw[List.length_cons,←Nat.add_assoc]
     cases b with
     |true=>
      dsimp only at h
      cases h2:qv T env op with
      |none=>rw[h2] at h;cases h
      |some v=>
       rw[h2] at h
       dsimp only at h
       cases h4:Nat.blt d N<;>rw[h4] at h<;>first|(cases h;done)|skip
       have hy:=qv_ok (X:=X) (w0:=w0) (es:=esS) (dst:=some d) (ty:=ty) (ps:=ps) (af:=af) (gd:=gd) hT hF h2
       exact hF.putK h fun env' hF' h3 h=>dv i hi hF' hS hy (fun a hF=>dqG hT hs hQ is hF hS h hc3 k) hw hs hc1 hc2 (fun c a w=>hQ _ _ c a w) h4 h3
     |false=>
      dsimp only at h
      cases h4:Nat.blt d N<;>rw[h4] at h<;>first|(cases h;done)|skip
      exact hF.putK h fun env' hF' h3 h=>d_skip i hi hs hc1 hc2 (fun c a w=>hQ _ _ c a w) hF' hw hS h4 h3 fun a hF=>dqG hT hs hQ is hF hS h hc3 k
theorem ai{p q:Prop}(h:p)(k:p→q):p∧q:=⟨h,k h⟩
end
section
variable {w0 w:World} {X:Nat→Prop} {es es':List Asn}
def dels:List Nat→List Asn→List Asn
 |[],es=>es
 |i::r,es=>dels r (es.eraseIdx i)
theorem Wd.ds:∀(is:List Nat) {es es':List Asn},Wd w0 X es w→dels is es=es'→Wd w0 X es' w
 |[],_,_,h,e=>e▸h
 |i::r,_,_,h,e=>Wd.ds r (h.del i rfl) e
def fronts:List Nat→List Asn→Option (List Asn)
 |[],es=>some es
 |i::r,es=>match es[i]? with
  |some A=>fronts r (A::es.eraseIdx i)
  |none=>none
theorem Wd.fs:∀(is:List Nat) {es es':List Asn},Wd w0 X es w→fronts is es=some es'→Wd w0 X es' w
 |[],_,_,h,e=>Option.some.inj e▸h
 |i::r,es,_,h,e=>by
  unfold fronts at e
  cases hi:es[i]? with
  |none=>rw[hi] at e;cases e
  |some A=>
   rw[hi] at e
   exact Wd.fs r (h.front i hi rfl) e
end
section
variable {a:Act} {ds:List Deferred} {N:Nat} {env:List (Nat×Value)}
def slotsOf:List (Nat×Value)→List Nat
 |[]=>[]
 |(t,_)::r=>t::slotsOf r
theorem Fr.al(h:Fr ds N env a){l:List (Nat×Value)}(he:selT env (slotsOf l)=some l):Fr ds N l a:=h.ks _ he
theorem Fr.a1(h:Fr ds N env a){t:Nat}{v v':Value}{base:List (Nat×Value)}(ht:evT env t=some v)(hb:selT env (slotsOf base)=some base)(hv:v=v':=by first|rfl|(simp;done)|omega):Fr ds N ((t,v')::base) a:=h.cons ht hv (h.al hb)
theorem Fr.a2(h:Fr ds N env a){t s:Nat}{v v' u u':Value}{base:List (Nat×Value)}(ht:evT env t=some v)(hs:evT env s=some u)(hb:selT env (slotsOf base)=some base)(hv:v=v':=by first|rfl|(simp;done)|omega)(hu:u=u':=by first|rfl|(simp;done)|omega):Fr ds N ((t,v')::(s,u')::base) a:=h.cons ht hv (h.cons hs hu (h.al hb))
end
section
variable {P:Program} {w w0:World} {X:Nat→Prop} {es:List Asn} {a:Act} {ds:List Deferred} {N:Nat} {env:List (Nat×Value)} {Q:Exit→Act→World→Prop} {l rest:List Oper} {c:Code} {id:Nat} {o:Oper}
theorem e_callA{d:Tmp}{ty:TypeId}{ps:String}{af:Array Edge}{gd:Option (Nat×Bool)}{x:Operand}{K:Act→World→Prop}{f:FuncId}{cap:Array Value}{vs:List Value}{args:List Operand}{at_:Array TypeId}{R:Ending→World→Prop}{vv:Array Value}(hF:Fr ds N env a)(hx:ev env x=some (.func (.func f) #[] cap))(ha:evs env args=some vs)(hen:Enters P f)(hvv:vs.toArray++cap=vv)(hc:Calls P f vv w R)
  (k:∀e w',R e w'→∃v,e=.returned v∧∀a,Fr ds N ((d,v)::env) a→K a w') (hd:Nat.blt d N=true:=by rfl) (hf:fresh env d=true:=by rfl):(⟨some d,.call ⟨.value x,args.toArray,at_⟩,ty,ps,af,gd⟩:Oper).wp P a w K Q:=
 e_call hF hx ha hen hvv hd hf hc k
theorem e_callK{d:Tmp}{ty:TypeId}{ps:String}{af:Array Edge}{gd:Option (Nat×Bool)}{x:Operand}{K:Act→World→Prop}{f:FuncId}{cap:Array Value}{vs:List Value}{args:List Operand}{at_:Array TypeId}{vv:Array Value}{v:Value}(hF:Fr ds N env a)(hW:Wd w0 X es w)(hx:ev env x=some (.func (.func f) #[] cap))(ha:evs env args=some vs)(hen:Enters P f)(hvv:vs.toArray++cap=vv)(hc:Calls P f vv w fun e w'=>e=.returned v∧Below w.heap.size w w')
  (k:∀a w',Wd w0 X es w'→Fr ds N ((d,v)::env) a→K a w') (hd:Nat.blt d N=true:=by rfl) (hf:fresh env d=true:=by rfl):(⟨some d,.call ⟨.value x,args.toArray,at_⟩,ty,ps,af,gd⟩:Oper).wp P a w K Q:=
 e_call hF hx ha hen hvv hd hf hc fun _ w' ⟨he,hb⟩=>⟨v,he,fun a hF=>k a w' (hW.kept hb) hF⟩
theorem lts(h:wpList P l.toArray (Exit.then (c.wp P Q) Q) l a w){ops:Array Oper}:wpList P ops (Exit.then ((Code.seq (Code.region id l.toArray false) c).wp P Q) Q) [] a w:=l_nil (t_n (c_sr h))
theorem ltr(h:wpList P l.toArray Q l a w){ops:Array Oper}:wpList P ops (Exit.then ((Code.region id l.toArray false).wp P Q) Q) [] a w:=l_nil (t_n (c_r h))
end
end Go.Proofs.YtndcjmopebcdgaaGreatDoor
