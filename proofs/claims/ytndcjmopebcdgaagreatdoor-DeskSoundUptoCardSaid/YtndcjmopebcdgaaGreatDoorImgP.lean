/- A system as bytes, and back. Plain law: no program is named. -/
import Derived.Test.YtndcjmopebcdgaaGreatDoorImgN
import Derived.Test.YtndcjmopebcdgaaGreatDoorConfC1
set_option linter.unusedSimpArgs false
set_option linter.unusedVariables false
namespace Go.Proofs.YtndcjmopebcdgaaGreatDoor
set_option maxRecDepth 100000
def insB(i:Ins):List UInt8:=[byt i.op,byt i.a,byt i.b]++num8 i.n
def prtB(p:Prt):List UInt8:=encB8 insB p.code++encB8 num8 p.inp
def chnB(c:Chn):List UInt8:=[byt c.kind,byt c.from_,byt c.to_]
def sltB(s:Slt):List UInt8:=[byt s.part,byt s.ticks]
def imgL(s:Sys):List UInt8:=encB8 prtB s.parts++(encB8 chnB s.chans++encB8 sltB s.slots)
def b0(l:List UInt8)(k:Nat):Int:=((l.getD k 0).toNat:Int)
def insP(l:List UInt8):Option (Ins×List UInt8):=if l.length<3 then none else(numOf 8 (l.drop 3)).map fun q=>(⟨b0 l 0,b0 l 1,b0 l 2,q.1⟩,q.2)
def chnP(l:List UInt8):Option (Chn×List UInt8):=if l.length<3 then none else some (⟨b0 l 0,b0 l 1,b0 l 2⟩,l.drop 3)
def sltP(l:List UInt8):Option (Slt×List UInt8):=if l.length<2 then none else some (⟨b0 l 0,b0 l 1⟩,l.drop 2)
def prtP(l:List UInt8):Option (Prt×List UInt8):=(listB insP l).bind fun p=>(listB (numOf 8) p.2).map fun q=>(⟨p.1,q.1⟩,q.2)
def sysP(l:List UInt8):Option (Sys×List UInt8):=(listB prtP l).bind fun p=>(listB chnP p.2).bind fun q=>(listB sltP q.2).map fun r=>(⟨p.1,q.1,r.1⟩,r.2)
def readL(l:List UInt8):Option Sys:=(sysP l).bind fun q=>if q.2=[]∧chkSys q.1=0 then some q.1 else none
def Sm(n:Int):Prop:=0≤n∧n≤255
def insK(i:Ins):Prop:=Sm i.op∧Sm i.a∧Sm i.b∧I64 i.n
def prtK(p:Prt):Prop:=(p.code.length≤255∧p.inp.length≤255)∧(∀i,i∈p.code→insK i)∧∀n,n∈p.inp→I64 n
def chnK(c:Chn):Prop:=Sm c.kind∧Sm c.from_∧Sm c.to_
def sltK(s:Slt):Prop:=Sm s.part∧Sm s.ticks
structure SysK(s:Sys):Prop where
 np:s.parts.length≤255
 nc:s.chans.length≤255
 ns:s.slots.length≤255
 part:∀p,p∈s.parts→prtK p
 chan:∀c,c∈s.chans→chnK c
 slot:∀t,t∈s.slots→sltK t
theorem b0_sm(l:List UInt8)(k:Nat):Sm (b0 l k):=by
 unfold b0 Sm
 have:=(l.getD k 0).toNat_lt
 omega
theorem b0_byt{n:Int}(h:Sm n):((byt n).toNat:Int)=n:=byt_small h.1 h.2
theorem insP_enc(i:Ins)(r:List UInt8)(h:insK i):insP (insB i++r)=some (i,r):=by
 obtain⟨op,a,b,n⟩:=i
 obtain⟨h1,h2,h3,h4⟩:=h
 unfold insP insB
 have e:([byt op,byt a,byt b]++num8 n++r).drop 3=num8 n++r:=by simp
 dsimp only at h1 h2 h3 h4⊢
 rw[if_neg Si,e,numOf_num8 h4,Option.map_some]
 have e0:b0 ([byt op,byt a,byt b]++num8 n++r) 0=op:=b0_byt h1
 have e1:b0 ([byt op,byt a,byt b]++num8 n++r) 1=a:=b0_byt h2
 have e2:b0 ([byt op,byt a,byt b]++num8 n++r) 2=b:=b0_byt h3
 rw[e0,e1,e2]
theorem len3{l:List UInt8}(h:¬l.length<3):∃a b c r,l=a::b::c::r:=by
 match l,h with
 |a::b::c::r,_=>exact⟨a,b,c,r,rfl⟩
 |[],h=>simp at h
 |[_],h=>simp at h
 |[_,_],h=>simp at h
theorem len2{l:List UInt8}(h:¬l.length<2):∃a b r,l=a::b::r:=by
 match l,h with
 |a::b::r,_=>exact⟨a,b,r,rfl⟩
 |[],h=>simp at h
 |[_],h=>simp at h
theorem insP_inv(l:List UInt8)(i:Ins)(r:List UInt8)(h:insP l=some (i,r)):l=insB i++r∧insK i:=by
 unfold insP at h
 split at h
 ·cases h
 ·rename_i hl
  obtain⟨a,b,c,t,rfl⟩:=len3 hl
  cases hq:numOf 8 ((a::b::c::t).drop 3) with
  |none=>rw[hq] at h;cases h
  |some q=>
   rw[hq] at h
   simp only[Option.map_some,Option.some.injEq,Prod.mk.injEq] at h
   obtain⟨rfl,rfl⟩:=h
   obtain⟨k1,k2⟩:=numOf_eight_inv (n:=q.1) (r:=q.2) hq
   refine⟨?_,b0_sm _ _,b0_sm _ _,b0_sm _ _,k2⟩
   unfold insB
   show a::b::c::t=byt (a.toNat:Int)::byt (b.toNat:Int)::byt (c.toNat:Int)::(num8 q.1++q.2)
   rw[byt_of,byt_of,byt_of,←k1]
   rfl
theorem chnP_enc(c:Chn)(r:List UInt8)(h:chnK c):chnP (chnB c++r)=some (c,r):=by
 obtain⟨k,f,t⟩:=c
 obtain⟨h1,h2,h3⟩:=h
 unfold chnP chnB
 dsimp only at h1 h2 h3⊢
 rw[if_neg Si]
 have e0:b0 ([byt k,byt f,byt t]++r) 0=k:=b0_byt h1
 have e1:b0 ([byt k,byt f,byt t]++r) 1=f:=b0_byt h2
 have e2:b0 ([byt k,byt f,byt t]++r) 2=t:=b0_byt h3
 rw[e0,e1,e2]
 rfl
theorem chnP_inv(l:List UInt8)(i:Chn)(r:List UInt8)(h:chnP l=some (i,r)):l=chnB i++r∧chnK i:=by
 unfold chnP at h
 split at h
 ·cases h
 ·rename_i hl
  obtain⟨a,b,c,t,rfl⟩:=len3 hl
  simp only[Option.some.injEq,Prod.mk.injEq] at h
  obtain⟨rfl,rfl⟩:=h
  refine⟨?_,b0_sm _ _,b0_sm _ _,b0_sm _ _⟩
  show a::b::c::t=byt (a.toNat:Int)::byt (b.toNat:Int)::byt (c.toNat:Int)::t
  rw[byt_of,byt_of,byt_of]
theorem sltP_enc(c:Slt)(r:List UInt8)(h:sltK c):sltP (sltB c++r)=some (c,r):=by
 obtain⟨k,f⟩:=c
 obtain⟨h1,h2⟩:=h
 unfold sltP sltB
 dsimp only at h1 h2⊢
 rw[if_neg Si]
 have e0:b0 ([byt k,byt f]++r) 0=k:=b0_byt h1
 have e1:b0 ([byt k,byt f]++r) 1=f:=b0_byt h2
 rw[e0,e1]
 rfl
theorem sltP_inv(l:List UInt8)(i:Slt)(r:List UInt8)(h:sltP l=some (i,r)):l=sltB i++r∧sltK i:=by
 unfold sltP at h
 split at h
 ·cases h
 ·rename_i hl
  obtain⟨a,b,t,rfl⟩:=len2 hl
  simp only[Option.some.injEq,Prod.mk.injEq] at h
  obtain⟨rfl,rfl⟩:=h
  refine⟨?_,b0_sm _ _,b0_sm _ _⟩
  show a::b::t=byt (a.toNat:Int)::byt (b.toNat:Int)::t
  rw[byt_of,byt_of]
theorem num_enc(n:Int)(r:List UInt8)(h:I64 n):numOf 8 (num8 n++r)=some (n,r):=numOf_num8 h r
theorem num_inv(l:List UInt8)(n:Int)(r:List UInt8)(h:numOf 8 l=some (n,r)):l=num8 n++r∧I64 n:=numOf_eight_inv h
theorem prtP_enc(p:Prt)(r:List UInt8)(h:prtK p):prtP (prtB p++r)=some (p,r):=by
 obtain⟨⟨h1,h2⟩,h3,h4⟩:=h
 unfold prtP prtB
 rw[List.append_assoc,listB_enc insP_enc h1 h3,Option.bind_some]
 dsimp only
 rw[listB_enc num_enc h2 h4,Option.map_some]
theorem prtP_inv(l:List UInt8)(p:Prt)(r:List UInt8)(h:prtP l=some (p,r)):l=prtB p++r∧prtK p:=by
 unfold prtP at h
 cases hp:listB insP l with
 |none=>rw[hp] at h;cases h
 |some q=>
  rw[hp,Option.bind_some] at h
  cases hq:listB (numOf 8) q.2 with
  |none=>rw[hq] at h;cases h
  |some t=>
   rw[hq] at h
   simp only[Option.map_some,Option.some.injEq,Prod.mk.injEq] at h
   obtain⟨rfl,rfl⟩:=h
   obtain⟨a1,a2,a3⟩:=listB_inv insP_inv (xs:=q.1) (r:=q.2) hp
   obtain⟨c1,c2,c3⟩:=listB_inv num_inv (xs:=t.1) (r:=t.2) hq
   refine⟨?_,⟨a2,c2⟩,a3,c3⟩
   unfold prtB
   rw[a1,c1,List.append_assoc]
theorem sysP_enc{s:Sys}(h:SysK s)(r:List UInt8):sysP (imgL s++r)=some (s,r):=by
 unfold sysP imgL
 rw[List.append_assoc,listB_enc prtP_enc h.np h.part,Option.bind_some]
 dsimp only
 rw[List.append_assoc,listB_enc chnP_enc h.nc h.chan,Option.bind_some]
 dsimp only
 rw[listB_enc sltP_enc h.ns h.slot,Option.map_some]
theorem sysP_inv{l r:List UInt8}{s:Sys}(h:sysP l=some (s,r)):l=imgL s++r∧SysK s:=by
 unfold sysP at h
 cases hp:listB prtP l with
 |none=>rw[hp] at h;cases h
 |some p=>
  rw[hp,Option.bind_some] at h
  cases hq:listB chnP p.2 with
  |none=>rw[hq] at h;cases h
  |some q=>
   rw[hq,Option.bind_some] at h
   cases ht:listB sltP q.2 with
   |none=>rw[ht] at h;cases h
   |some t=>
    rw[ht] at h
    simp only[Option.map_some,Option.some.injEq,Prod.mk.injEq] at h
    obtain⟨rfl,rfl⟩:=h
    obtain⟨a1,a2,a3⟩:=listB_inv prtP_inv (xs:=p.1) (r:=p.2) hp
    obtain⟨c1,c2,c3⟩:=listB_inv chnP_inv (xs:=q.1) (r:=q.2) hq
    obtain⟨d1,d2,d3⟩:=listB_inv sltP_inv (xs:=t.1) (r:=t.2) ht
    refine⟨?_,a2,c2,d2,a3,c3,d3⟩
    unfold imgL
    rw[a1,c1,d1]
    simp only[List.append_assoc]
def SysR(s:Sys):Prop:=∀p,p∈s.parts→(∀i,i∈p.code→I64 i.n)∧∀n,n∈p.inp→I64 n
theorem firstCode_zeroI:∀{l:List Prt},firstCode l=0→∀p,p∈l→chkCode p.code=0
 |[],_,_,h=>by cases h
 |q::r,h0,p,h=>by
  unfold firstCode at h0
  by_cases hq:chkCode q.code=0
  ·rw[if_pos hq] at h0
   rcases List.mem_cons.1 h with rfl|h
   ·exact hq
   ·exact firstCode_zeroI h0 p h
  ·rw[if_neg hq] at h0
   exact absurd h0 hq
theorem chkIns_sm{i:Ins}(h:chkIns i=0):Sm i.op∧Sm i.a∧Sm i.b:=by
 obtain⟨op,a,b,n⟩:=i
 unfold chkIns at h
 dsimp only at h⊢
 by_cases h1:1≤op∧op≤15
 ·refine⟨⟨by omega,by omega⟩,?_⟩
  have hop:op=1∨op=2∨op=3∨op=4∨op=5∨op=6∨op=7∨op=8∨op=9∨op=10∨op=11∨op=12∨op=13∨op=14∨op=15:=by omega
  unfold Sm
  rcases hop with rfl|rfl|rfl|rfl|rfl|rfl|rfl|rfl|rfl|rfl|rfl|rfl|rfl|rfl|rfl<;>
  ·simp[chkI,hasA,hasB,hasN,regOk] at h
   omega
 ·exfalso
  unfold chkI at h
  rw[if_pos Om] at h
  cases h
theorem chk_sysK{s:Sys}(h:chkSys s=0)(hr:SysR s):SysK s:=by
 obtain⟨h1,h2,h3,h4,h5,h6⟩:=chkSys_zero h
 simp only[sizesOk,Bool.and_eq_true] at h1
 obtain⟨k1,k2⟩:=h1
 have k1:=of_decide_eq_true k1
 have hcode:=fun p hp=>chkCode_all (firstCode_zeroI h2 p hp)
 refine⟨by omega,by omega,by omega,fun p hp=>⟨⟨by have:=(hcode p hp).1;omega,by have:=of_decide_eq_true (List.all_eq_true.1 k2 p hp);omega⟩,fun i hi=>?_,(hr p hp).2⟩,fun c hc=>?_,fun t ht=>?_⟩
 ·obtain⟨m1,m2,m3⟩:=chkIns_sm ((hcode p hp).2 i hi)
  exact⟨m1,m2,m3,(hr p hp).1 i hi⟩
 ·have m1:=List.all_eq_true.1 h3 c hc
  have m2:=List.all_eq_true.1 h4 c hc
  simp only[kindOk,chnOk,partOk,Bool.or_eq_true,Bool.and_eq_true,decide_eq_true_eq,beq_iff_eq] at m1 m2
  exact⟨⟨by omega,by omega⟩,⟨by omega,by omega⟩,⟨by omega,by omega⟩⟩
 ·have m2:=List.all_eq_true.1 h5 t ht
  simp only[sltOk,partOk,Bool.and_eq_true,decide_eq_true_eq] at m2
  exact⟨⟨by omega,by omega⟩,⟨by omega,by omega⟩⟩
theorem read_img{s:Sys}(h:chkSys s=0)(hr:SysR s):readL (imgL s)=some s:=by
 have:=sysP_enc (chk_sysK h hr) []
 rw[List.append_nil] at this
 unfold readL
 rw[this,Option.bind_some,if_pos ⟨rfl,h⟩]
theorem img_read{s:Sys}{l:List UInt8}(h:readL l=some s):imgL s=l∧chkSys s=0∧SysR s:=by
 unfold readL at h
 cases hq:sysP l with
 |none=>rw[hq] at h;cases h
 |some q=>
  rw[hq,Option.bind_some] at h
  split at h
  ·rename_i hc
   cases h
   obtain⟨k1,k2⟩:=sysP_inv (s:=q.1) (r:=q.2) hq
   rw[hc.1,List.append_nil] at k1
   exact⟨k1.symm,hc.2,fun p hp=>⟨fun i hi=>((k2.part p hp).2.1 i hi).2.2.2,(k2.part p hp).2.2⟩⟩
  ·cases h
theorem rowsB_len{α:Type}{f:α→List UInt8}{n:Nat}:∀(l:List α),(∀x,x∈l→(f x).length≤n)→(l.flatMap f).length≤l.length*n
 |[],_=>by simp
 |x::r,h=>by
  have h1:=h x List.mem_cons_self
  have h2:=rowsB_len r fun y hy=>h y (List.mem_cons_of_mem _ hy)
  rw[List.flatMap_cons,List.length_append,List.length_cons,Nat.succ_mul]
  omega
theorem insB_len(i:Ins):(insB i).length=11:=by unfold insB;rw[List.length_append,num8_len];rfl
theorem prtB_len{p:Prt}(h1:p.code.length≤20)(h2:p.inp.length≤12):(prtB p).length≤318:=by
 unfold prtB encB8
 have a1:=rowsB_len (f:=insB) (n:=11) p.code fun x _=>Nat.le_of_eq (insB_len x)
 have a2:=rowsB_len (f:=num8) (n:=8) p.inp fun x _=>Nat.le_of_eq (num8_len x)
 simp only[List.length_append,List.length_cons]
 omega
theorem takeB_flat{α:Type}(d:α)(f:α→List UInt8){l:List α}{k:Nat}(hk:k<l.length):(l.take (k+1)).flatMap f=(l.take k).flatMap f++f (l.getD k d):=by
 rw[List.take_add_one,List.getElem?_eq_getElem hk,List.flatMap_append]
 congr 1
 simp[List.getD,hk]
theorem takeB_getD{l:List Int}{k:Nat}(hk:k<l.length):l.take (k+1)=l.take k++[l.getD k 0]:=by
 rw[List.take_add_one,List.getElem?_eq_getElem hk]
 simp[List.getD,hk]
def imgOr(s:Sys):List UInt8:=if chkSys s=0 then imgL s else []
end Go.Proofs.YtndcjmopebcdgaaGreatDoor
