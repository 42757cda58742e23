/- Numbers as bytes, and back. Plain law: no program is named. A system as bytes, and back. Plain law: no program is named. -/
import Derived.Laws.BytesString
import Derived.Test.YtndcjmopebcdgaaGreatDoorConfC1
set_option linter.unusedSimpArgs false
set_option linter.unusedVariables false
namespace Go.Proofs.YtndcjmopebcdgaaGreatDoor
section
set_option maxRecDepth 100000
def byt(n:Int):UInt8:=UInt8.ofNat (n%256).toNat
theorem byt_val(n:Int):((byt n).toNat:Int)=n%256:=by
 unfold byt
 have h0:=Int.emod_nonneg n (by decide:(256:Int)≠0)
 have h1:=Int.emod_lt_of_pos n (by decide:(0:Int)<256)
 rw[UInt8.toNat_ofNat',Nat.mod_eq_of_lt (by omega)]
 omega
theorem byt_small{n:Int}(h0:0≤n)(h1:n≤255):((byt n).toNat:Int)=n:=by rw[byt_val];omega
theorem byt_eq{n:Int}{b:UInt8}(h:n%256=b.toNat):byt n=b:=by
 apply UInt8.toNat_inj.1
 have:=byt_val n
 omega
theorem byt_of(b:UInt8):byt (b.toNat:Int)=b:=byt_eq (by have:=b.toNat_lt;omega)
def I64(n:Int):Prop:= -9223372036854775808≤n∧n≤9223372036854775807
theorem wrap64(n:Int):IntKind.i64.wrap n=if n%18446744073709551616≥9223372036854775808 then n%18446744073709551616 - 18446744073709551616 else n%18446744073709551616:=by
 unfold IntKind.wrap
 show(if(true&&decide (n%18446744073709551616≥9223372036854775808))=true then n%18446744073709551616 - 18446744073709551616 else n%18446744073709551616)=_
 simp only[Bool.true_and,decide_eq_true_eq]
theorem wrap_I64(n:Int):I64 (IntKind.i64.wrap n):=by
 rw[wrap64]
 unfold I64
 split<;>omega
theorem wrap_of{n:Int}(h:I64 n):IntKind.i64.wrap n=n:=by
 rw[wrap64]
 unfold I64 at h
 split<;>omega
theorem wrap_mod(n:Int):IntKind.i64.wrap n%18446744073709551616=n%18446744073709551616:=by
 rw[wrap64]
 split<;>omega
theorem wrap_congr{a b:Int}(h:a%18446744073709551616=b%18446744073709551616):IntKind.i64.wrap a=IntKind.i64.wrap b:=by
 rw[wrap64,wrap64,h]
def step8(n:Int)(b:UInt8):Int:=IntKind.i64.wrap (n*256+b.toNat)
theorem step8_or(n:Int)(b:UInt8):bits .or .i64 (IntKind.i64.wrap (n*2 ^ 8)) (b.toNat:Int)=step8 n b:=by
 have hb:=b.toNat_lt
 have h1:(BitVec.ofInt 64 (IntKind.i64.wrap (n*2 ^ 8))).toNat=2 ^ 8*(n%72057594037927936).toNat:=by
  rw[BitVec.toNat_ofInt]
  have:=wrap_mod (n*2 ^ 8)
  show(IntKind.i64.wrap (n*2 ^ 8)%(18446744073709551616:Int)).toNat=_
  rw[this]
  omega
 have h2:(BitVec.ofInt 64 (b.toNat:Int)).toNat=b.toNat:=by
  rw[BitVec.toNat_ofInt]
  show((b.toNat:Int)%(18446744073709551616:Int)).toNat=_
  omega
 show IntKind.i64.wrap ((BitVec.ofInt 64 (IntKind.i64.wrap (n*2 ^ 8))|||BitVec.ofInt 64 (b.toNat:Int)).toNat:Int)=_
 rw[BitVec.toNat_or,h1,h2,←Nat.two_pow_add_eq_or_of_lt (by omega)]
 unfold step8
 exact wrap_congr (by omega)
def foldB(l:List UInt8):Int:=l.foldl step8 0
theorem foldB_one(b:UInt8):foldB [b]=b.toNat:=by
 have hb:=b.toNat_lt
 show IntKind.i64.wrap (0*256+(b.toNat:Int))=_
 rw[wrap_of ⟨by omega,by omega⟩]
 omega
theorem foldl_I64:∀(l:List UInt8) (n:Int),I64 n→I64 (l.foldl step8 n)
 |[],_,h=>h
 |_::r,_,_=>foldl_I64 r _ (wrap_I64 _)
theorem foldB_I64(l:List UInt8):I64 (foldB l):=foldl_I64 l 0 ⟨by decide,by decide⟩
theorem foldB_add(l:List UInt8)(b:UInt8):foldB (l++[b])=step8 (foldB l) b:=by simp[foldB,List.foldl_append]
def num8(n:Int):List UInt8:=(List.range 8).map fun k=>byt (n/2 ^(56 - 8*k))
theorem num8_eq(n:Int):num8 n=[byt (n/72057594037927936),byt (n/281474976710656),byt (n/1099511627776),byt (n/4294967296),byt (n/16777216),byt (n/65536),byt (n/256),byt n]:=by
 have h:num8 n=[byt (n/72057594037927936),byt (n/281474976710656),byt (n/1099511627776),byt (n/4294967296),byt (n/16777216),byt (n/65536),byt (n/256),byt (n/1)]:=rfl
 rw[h,Int.ediv_one]
theorem num8_len(n:Int):(num8 n).length=8:=by simp[num8]
theorem num8_take(n:Int){k:Nat}(hk:k<8):(num8 n).take (k+1)=(num8 n).take k++[byt (n/2 ^(56 - 8*k))]:=by
 rw[List.take_add_one,List.getElem?_eq_getElem (by rw[num8_len];exact hk)]
 simp[num8]
theorem step8_wrap(n:Int)(b:UInt8):step8 (IntKind.i64.wrap n) b=IntKind.i64.wrap (n*256+b.toNat):=by
 have:=wrap_mod n
 exact wrap_congr (by omega)
theorem foldB_eight(a b c d e f g h:UInt8):foldB [a,b,c,d,e,f,g,h]=IntKind.i64.wrap (((((((a.toNat*256+b.toNat)*256+c.toNat)*256+d.toNat)*256+e.toNat)*256+f.toNat)*256+g.toNat)*256+h.toNat:Int):=by
 simp only[foldB,List.foldl_cons,List.foldl_nil]
 have h0:step8 0 a=IntKind.i64.wrap (a.toNat:Int):=by unfold step8;congr 1;omega
 rw[h0,step8_wrap,step8_wrap,step8_wrap,step8_wrap,step8_wrap,step8_wrap,step8_wrap]
theorem foldB_num8{n:Int}(hn:I64 n):foldB (num8 n)=n:=by
 rw[num8_eq,foldB_eight]
 simp only[byt_val]
 rw[←wrap_of hn]
 refine wrap_congr ?_
 rw[wrap_of hn]
 omega
theorem num8_foldB:∀{l:List UInt8},l.length=8→num8 (foldB l)=l
 |[a,b,c,d,e,f,g,h],_=>by
  rw[foldB_eight,num8_eq]
  have ha:=a.toNat_lt
  have hb:=b.toNat_lt
  have hc:=c.toNat_lt
  have hd:=d.toNat_lt
  have he:=e.toNat_lt
  have hf:=f.toNat_lt
  have hg:=g.toNat_lt
  have hh:=h.toNat_lt
  have hw:=wrap64 (((((((a.toNat*256+b.toNat)*256+c.toNat)*256+d.toNat)*256+e.toNat)*256+f.toNat)*256+g.toNat)*256+h.toNat:Int)
  generalize IntKind.i64.wrap (((((((a.toNat*256+b.toNat)*256+c.toNat)*256+d.toNat)*256+e.toNat)*256+f.toNat)*256+g.toNat)*256+h.toNat:Int)=W at hw⊢
  have e1:((((((((a.toNat*256+b.toNat)*256+c.toNat)*256+d.toNat)*256+e.toNat)*256+f.toNat)*256+g.toNat)*256+h.toNat:Int))%18446744073709551616=(((((((a.toNat*256+b.toNat)*256+c.toNat)*256+d.toNat)*256+e.toNat)*256+f.toNat)*256+g.toNat)*256+h.toNat:Int):=by omega
  rw[e1] at hw
  split at hw
  all_goals
   subst hw
   rw[byt_eq (b:=a) (by omega),byt_eq (b:=b) (by omega),byt_eq (b:=c) (by omega),byt_eq (b:=d) (by omega),byt_eq (b:=e) (by omega),byt_eq (b:=f) (by omega),byt_eq (b:=g) (by omega),byt_eq (b:=h) (by omega)]
def numOf(size:Nat)(l:List UInt8):Option (Int×List UInt8):=if l.length<size then none else some (foldB (l.take size),l.drop size)
def manyB{α:Type}(one:List UInt8→Option (α×List UInt8)):Nat→List UInt8→Option (List α×List UInt8)
 |0,l=>some ([],l)
 |n+1,l=>(one l).bind fun q=>(manyB one n q.2).map fun p=>(q.1::p.1,p.2)
def listB{α:Type}(one:List UInt8→Option (α×List UInt8))(l:List UInt8):Option (List α×List UInt8):=(numOf 1 l).bind fun q=>manyB one q.1.toNat q.2
theorem numOf_one(b:UInt8)(r:List UInt8):numOf 1 (b::r)=some ((b.toNat:Int),r):=by
 unfold numOf
 rw[if_neg (by simp)]
 show some (foldB [b],r)=_
 rw[foldB_one]
theorem numOf_one_inv{l r:List UInt8}{n:Int}(h:numOf 1 l=some (n,r)):l=byt n::r∧0≤n∧n≤255:=by
 cases l with
 |nil=>cases h
 |cons b t=>
  rw[numOf_one] at h
  simp only[Option.some.injEq,Prod.mk.injEq] at h
  obtain⟨rfl,rfl⟩:=h
  have:=b.toNat_lt
  exact⟨by rw[byt_of],by omega,by omega⟩
theorem numOf_byt{n:Int}(h0:0≤n)(h1:n≤255)(r:List UInt8):numOf 1 (byt n::r)=some (n,r):=by rw[numOf_one,byt_small h0 h1]
theorem numOf_num8{n:Int}(hn:I64 n)(r:List UInt8):numOf 8 (num8 n++r)=some (n,r):=by
 unfold numOf
 rw[if_neg (by simp[num8_len]),List.take_left' (num8_len n),List.drop_left' (num8_len n),foldB_num8 hn]
theorem numOf_eight_inv{l r:List UInt8}{n:Int}(h:numOf 8 l=some (n,r)):l=num8 n++r∧I64 n:=by
 unfold numOf at h
 split at h
 ·cases h
 ·simp only[Option.some.injEq,Prod.mk.injEq] at h
  obtain⟨rfl,rfl⟩:=h
  exact⟨by rw[num8_foldB (by rw[List.length_take];omega),List.take_append_drop],foldB_I64 _⟩
section
variable {α:Type} {one:List UInt8→Option (α×List UInt8)} {enc:α→List UInt8} {ok:α→Prop}
theorem manyB_enc(h1:∀a r,ok a→one (enc a++r)=some (a,r)):∀(l:List α) (r:List UInt8),(∀a,a∈l→ok a)→manyB one l.length (l.flatMap enc++r)=some (l,r)
 |[],r,_=>rfl
 |a::l,r,h=>by
  rw[List.length_cons,manyB,List.flatMap_cons,List.append_assoc,h1 a _ (h a List.mem_cons_self)]
  simp only[Option.bind_some]
  rw[manyB_enc h1 l r fun b hb=>h b (List.mem_cons_of_mem _ hb)]
  rfl
theorem manyB_inv(h1:∀l a r,one l=some (a,r)→l=enc a++r∧ok a):∀(n:Nat) (l:List UInt8) (xs:List α) (r:List UInt8),manyB one n l=some (xs,r)→l=xs.flatMap enc++r∧xs.length=n∧∀a,a∈xs→ok a
 |0,l,xs,r,h=>by
  cases h
  exact⟨rfl,rfl,fun a ha=>by cases ha⟩
 |n+1,l,xs,r,h=>by
  rw[manyB] at h
  cases hq:one l with
  |none=>rw[hq] at h;cases h
  |some q=>
   rw[hq] at h
   simp only[Option.bind_some] at h
   cases hp:manyB one n q.2 with
   |none=>rw[hp] at h;cases h
   |some p=>
    rw[hp] at h
    simp only[Option.map_some,Option.some.injEq,Prod.mk.injEq] at h
    obtain⟨rfl,rfl⟩:=h
    obtain⟨k1,k2⟩:=h1 l q.1 q.2 hq
    obtain⟨k3,k4,k5⟩:=manyB_inv h1 n q.2 p.1 p.2 hp
    refine⟨by rw[List.flatMap_cons,List.append_assoc,←k3];exact k1,by simp[k4],fun b hb=>?_⟩
    rcases List.mem_cons.1 hb with rfl|hb
    ·exact k2
    ·exact k5 b hb
def encB8(enc:α→List UInt8)(l:List α):List UInt8:=byt (l.length:Int)::l.flatMap enc
theorem listB_enc(h1:∀a r,ok a→one (enc a++r)=some (a,r)){l:List α}(hl:l.length≤255)(hok:∀a,a∈l→ok a)(r:List UInt8):listB one (encB8 enc l++r)=some (l,r):=by
 unfold listB encB8
 rw[List.cons_append,numOf_byt (by omega) (by omega),Option.bind_some]
 exact manyB_enc h1 l r hok
theorem listB_inv(h1:∀l a r,one l=some (a,r)→l=enc a++r∧ok a){l:List UInt8}{xs:List α}{r:List UInt8}(h:listB one l=some (xs,r)):l=encB8 enc xs++r∧xs.length≤255∧∀a,a∈xs→ok a:=by
 unfold listB at h
 cases hq:numOf 1 l with
 |none=>rw[hq] at h;cases h
 |some q=>
  rw[hq,Option.bind_some] at h
  obtain⟨k1,k2,k3⟩:=numOf_one_inv (n:=q.1) (r:=q.2) hq
  obtain⟨k4,k5,k6⟩:=manyB_inv h1 _ _ _ _ h
  refine⟨?_,by omega,k6⟩
  unfold encB8
  rw[k5,Int.toNat_of_nonneg k2,List.cons_append,←k4]
  exact k1
theorem manyB_none{n:Nat}{F:List UInt8}(h:one F=none)(hn:0<n):manyB one n F=none:=by
 cases n with
 |zero=>omega
 |succ n=>rw[manyB,h];rfl
theorem manyB_step{n:Nat}{F r:List UInt8}{c:α}{L:List α}(h:one F=some (c,r))(hn:0<n):((manyB one n F).map fun p=>(L++p.1,p.2))=(manyB one (n - 1) r).map fun p=>((L++[c])++p.1,p.2):=by
 cases n with
 |zero=>omega
 |succ n=>
  rw[manyB,h,Nat.add_sub_cancel]
  simp only[Option.bind_some,Option.map_map]
  congr 1
  funext p
  simp
def eyeN(size:Nat)(l:List UInt8):Int×List UInt8:=(foldB ((l++List.replicate size 0).take size),l.drop size)
theorem eyeN_of{size:Nat}{l:List UInt8}{x:Int×List UInt8}(h:numOf size l=some x):eyeN size l=x:=by
 unfold numOf at h
 split at h
 ·cases h
 ·simp only[Option.some.injEq] at h
  rw[←h]
  unfold eyeN
  rw[List.take_append_of_le_length (by omega)]
def manyE{α:Type}(one:List UInt8→α×List UInt8):Nat→List UInt8→List α×List UInt8
 |0,l=>([],l)
 |n+1,l=>((one l).1::(manyE one n (one l).2).1,(manyE one n (one l).2).2)
def listE{α:Type}(one:List UInt8→α×List UInt8)(l:List UInt8):List α×List UInt8:=manyE one (l.getD 0 0).toNat (l.drop 1)
theorem numOf_one_at{l:List UInt8}{x:Int×List UInt8}(h:numOf 1 l=some x):x=(((l.getD 0 0).toNat:Int),l.drop 1):=by
 cases l with
 |nil=>cases h
 |cons b r=>
  rw[numOf_one] at h
  exact(Option.some.inj h).symm
variable {oneE:List UInt8→α×List UInt8}
theorem manyE_of(h1:∀l x,one l=some x→oneE l=x):∀(n:Nat) (l:List UInt8) (x:List α×List UInt8),manyB one n l=some x→manyE oneE n l=x
 |0,l,x,h=>by cases h;rfl
 |n+1,l,x,h=>by
  rw[manyB] at h
  cases hq:one l with
  |none=>rw[hq] at h;cases h
  |some q=>
   rw[hq] at h
   simp only[Option.bind_some] at h
   cases hp:manyB one n q.2 with
   |none=>rw[hp] at h;cases h
   |some p=>
    rw[hp] at h
    simp only[Option.map_some,Option.some.injEq] at h
    rw[←h,manyE,h1 l q hq,manyE_of h1 n q.2 p hp]
theorem listE_of(h1:∀l x,one l=some x→oneE l=x){l:List UInt8}{x:List α×List UInt8}(h:listB one l=some x):listE oneE l=x:=by
 unfold listB at h
 cases hq:numOf 1 l with
 |none=>rw[hq] at h;cases h
 |some q=>
  rw[hq,Option.bind_some] at h
  unfold listE
  rw[numOf_one_at hq] at h
  rw[Int.toNat_natCast] at h
  exact manyE_of h1 _ _ _ h
theorem manyE_ok(h1:∀l,ok (oneE l).1):∀(n:Nat) (l:List UInt8),∀a,a∈(manyE oneE n l).1→ok a
 |0,_,_,h=>by cases h
 |n+1,l,a,h=>by
  rcases List.mem_cons.1 h with rfl|h
  ·exact h1 l
  ·exact manyE_ok h1 n _ a h
end
end
section
set_option maxRecDepth 100000
def insB(i:Ins):List UInt8:=[byt i.op,byt i.a,byt i.b]++num8 i.n
def prtB(p:Prt):List UInt8:=encB8 insB p.code++encB8 num8 p.inp
def chnB(c:Chn):List UInt8:=[byt c.kind,byt c.from_,byt c.to_]
def sltB(s:Slt):List UInt8:=[byt s.part,byt s.ticks]
def imgL(s:Sys):List UInt8:=encB8 prtB s.parts++(encB8 chnB s.chans++encB8 sltB s.slots)
def b0(l:List UInt8)(k:Nat):Int:=((l.getD k 0).toNat:Int)
def insP(l:List UInt8):Option (Ins×List UInt8):=if l.length<3 then none else(numOf 8 (l.drop 3)).map fun q=>(⟨b0 l 0,b0 l 1,b0 l 2,q.1⟩,q.2)
def chnP(l:List UInt8):Option (Chn×List UInt8):=if l.length<3 then none else some (⟨b0 l 0,b0 l 1,b0 l 2⟩,l.drop 3)
def sltP(l:List UInt8):Option (Slt×List UInt8):=if l.length<2 then none else some (⟨b0 l 0,b0 l 1⟩,l.drop 2)
def prtP(l:List UInt8):Option (Prt×List UInt8):=(listB insP l).bind fun p=>(listB (numOf 8) p.2).map fun q=>(⟨p.1,q.1⟩,q.2)
def sysP(l:List UInt8):Option (Sys×List UInt8):=(listB prtP l).bind fun p=>(listB chnP p.2).bind fun q=>(listB sltP q.2).map fun r=>(⟨p.1,q.1,r.1⟩,r.2)
def readL(l:List UInt8):Option Sys:=(sysP l).bind fun q=>if q.2=[]∧chkSys q.1=0 then some q.1 else none
def Sm(n:Int):Prop:=0≤n∧n≤255
def insK(i:Ins):Prop:=Sm i.op∧Sm i.a∧Sm i.b∧I64 i.n
def prtK(p:Prt):Prop:=(p.code.length≤255∧p.inp.length≤255)∧(∀i,i∈p.code→insK i)∧∀n,n∈p.inp→I64 n
def chnK(c:Chn):Prop:=Sm c.kind∧Sm c.from_∧Sm c.to_
def sltK(s:Slt):Prop:=Sm s.part∧Sm s.ticks
structure SysK(s:Sys):Prop where
 np:s.parts.length≤255
 nc:s.chans.length≤255
 ns:s.slots.length≤255
 part:∀p,p∈s.parts→prtK p
 chan:∀c,c∈s.chans→chnK c
 slot:∀t,t∈s.slots→sltK t
theorem b0_sm(l:List UInt8)(k:Nat):Sm (b0 l k):=by
 unfold b0 Sm
 have:=(l.getD k 0).toNat_lt
 omega
theorem b0_byt{n:Int}(h:Sm n):((byt n).toNat:Int)=n:=byt_small h.1 h.2
theorem insP_enc(i:Ins)(r:List UInt8)(h:insK i):insP (insB i++r)=some (i,r):=by
 obtain⟨op,a,b,n⟩:=i
 obtain⟨h1,h2,h3,h4⟩:=h
 unfold insP insB
 have e:([byt op,byt a,byt b]++num8 n++r).drop 3=num8 n++r:=by simp
 dsimp only at h1 h2 h3 h4⊢
 rw[if_neg Si,e,numOf_num8 h4,Option.map_some]
 have e0:b0 ([byt op,byt a,byt b]++num8 n++r) 0=op:=b0_byt h1
 have e1:b0 ([byt op,byt a,byt b]++num8 n++r) 1=a:=b0_byt h2
 have e2:b0 ([byt op,byt a,byt b]++num8 n++r) 2=b:=b0_byt h3
 rw[e0,e1,e2]
theorem len3{l:List UInt8}(h:¬l.length<3):∃a b c r,l=a::b::c::r:=by
 match l,h with
 |a::b::c::r,_=>exact⟨a,b,c,r,rfl⟩
 |[],h=>simp at h
 |[_],h=>simp at h
 |[_,_],h=>simp at h
theorem len2{l:List UInt8}(h:¬l.length<2):∃a b r,l=a::b::r:=by
 match l,h with
 |a::b::r,_=>exact⟨a,b,r,rfl⟩
 |[],h=>simp at h
 |[_],h=>simp at h
theorem insP_inv(l:List UInt8)(i:Ins)(r:List UInt8)(h:insP l=some (i,r)):l=insB i++r∧insK i:=by
 unfold insP at h
 split at h
 ·cases h
 ·rename_i hl
  obtain⟨a,b,c,t,rfl⟩:=len3 hl
  cases hq:numOf 8 ((a::b::c::t).drop 3) with
  |none=>rw[hq] at h;cases h
  |some q=>
   rw[hq] at h
   simp only[Option.map_some,Option.some.injEq,Prod.mk.injEq] at h
   obtain⟨rfl,rfl⟩:=h
   obtain⟨k1,k2⟩:=numOf_eight_inv (n:=q.1) (r:=q.2) hq
   refine⟨?_,b0_sm _ _,b0_sm _ _,b0_sm _ _,k2⟩
   unfold insB
   show a::b::c::t=byt (a.toNat:Int)::byt (b.toNat:Int)::byt (c.toNat:Int)::(num8 q.1++q.2)
   rw[byt_of,byt_of,byt_of,←k1]
   rfl
theorem chnP_enc(c:Chn)(r:List UInt8)(h:chnK c):chnP (chnB c++r)=some (c,r):=by
 obtain⟨k,f,t⟩:=c
 obtain⟨h1,h2,h3⟩:=h
 unfold chnP chnB
 dsimp only at h1 h2 h3⊢
 rw[if_neg Si]
 have e0:b0 ([byt k,byt f,byt t]++r) 0=k:=b0_byt h1
 have e1:b0 ([byt k,byt f,byt t]++r) 1=f:=b0_byt h2
 have e2:b0 ([byt k,byt f,byt t]++r) 2=t:=b0_byt h3
 rw[e0,e1,e2]
 rfl
theorem chnP_inv(l:List UInt8)(i:Chn)(r:List UInt8)(h:chnP l=some (i,r)):l=chnB i++r∧chnK i:=by
 unfold chnP at h
 split at h
 ·cases h
 ·rename_i hl
  obtain⟨a,b,c,t,rfl⟩:=len3 hl
  simp only[Option.some.injEq,Prod.mk.injEq] at h
  obtain⟨rfl,rfl⟩:=h
  refine⟨?_,b0_sm _ _,b0_sm _ _,b0_sm _ _⟩
  show a::b::c::t=byt (a.toNat:Int)::byt (b.toNat:Int)::byt (c.toNat:Int)::t
  rw[byt_of,byt_of,byt_of]
theorem sltP_enc(c:Slt)(r:List UInt8)(h:sltK c):sltP (sltB c++r)=some (c,r):=by
 obtain⟨k,f⟩:=c
 obtain⟨h1,h2⟩:=h
 unfold sltP sltB
 dsimp only at h1 h2⊢
 rw[if_neg Si]
 have e0:b0 ([byt k,byt f]++r) 0=k:=b0_byt h1
 have e1:b0 ([byt k,byt f]++r) 1=f:=b0_byt h2
 rw[e0,e1]
 rfl
theorem sltP_inv(l:List UInt8)(i:Slt)(r:List UInt8)(h:sltP l=some (i,r)):l=sltB i++r∧sltK i:=by
 unfold sltP at h
 split at h
 ·cases h
 ·rename_i hl
  obtain⟨a,b,t,rfl⟩:=len2 hl
  simp only[Option.some.injEq,Prod.mk.injEq] at h
  obtain⟨rfl,rfl⟩:=h
  refine⟨?_,b0_sm _ _,b0_sm _ _⟩
  show a::b::t=byt (a.toNat:Int)::byt (b.toNat:Int)::t
  rw[byt_of,byt_of]
theorem num_enc(n:Int)(r:List UInt8)(h:I64 n):numOf 8 (num8 n++r)=some (n,r):=numOf_num8 h r
theorem num_inv(l:List UInt8)(n:Int)(r:List UInt8)(h:numOf 8 l=some (n,r)):l=num8 n++r∧I64 n:=numOf_eight_inv h
theorem prtP_enc(p:Prt)(r:List UInt8)(h:prtK p):prtP (prtB p++r)=some (p,r):=by
 obtain⟨⟨h1,h2⟩,h3,h4⟩:=h
 unfold prtP prtB
 rw[List.append_assoc,listB_enc insP_enc h1 h3,Option.bind_some]
 dsimp only
 rw[listB_enc num_enc h2 h4,Option.map_some]
theorem prtP_inv(l:List UInt8)(p:Prt)(r:List UInt8)(h:prtP l=some (p,r)):l=prtB p++r∧prtK p:=by
 unfold prtP at h
 cases hp:listB insP l with
 |none=>rw[hp] at h;cases h
 |some q=>
  rw[hp,Option.bind_some] at h
  cases hq:listB (numOf 8) q.2 with
  |none=>rw[hq] at h;cases h
  |some t=>
   rw[hq] at h
   simp only[Option.map_some,Option.some.injEq,Prod.mk.injEq] at h
   obtain⟨rfl,rfl⟩:=h
   obtain⟨a1,a2,a3⟩:=listB_inv insP_inv (xs:=q.1) (r:=q.2) hp
   obtain⟨c1,c2,c3⟩:=listB_inv num_inv (xs:=t.1) (r:=t.2) hq
   refine⟨?_,⟨a2,c2⟩,a3,c3⟩
   unfold prtB
   rw[a1,c1,List.append_assoc]
theorem sysP_enc{s:Sys}(h:SysK s)(r:List UInt8):sysP (imgL s++r)=some (s,r):=by
 unfold sysP imgL
 rw[List.append_assoc,listB_enc prtP_enc h.np h.part,Option.bind_some]
 dsimp only
 rw[List.append_assoc,listB_enc chnP_enc h.nc h.chan,Option.bind_some]
 dsimp only
 rw[listB_enc sltP_enc h.ns h.slot,Option.map_some]
theorem sysP_inv{l r:List UInt8}{s:Sys}(h:sysP l=some (s,r)):l=imgL s++r∧SysK s:=by
 unfold sysP at h
 cases hp:listB prtP l with
 |none=>rw[hp] at h;cases h
 |some p=>
  rw[hp,Option.bind_some] at h
  cases hq:listB chnP p.2 with
  |none=>rw[hq] at h;cases h
  |some q=>
   rw[hq,Option.bind_some] at h
   cases ht:listB sltP q.2 with
   |none=>rw[ht] at h;cases h
   |some t=>
    rw[ht] at h
    simp only[Option.map_some,Option.some.injEq,Prod.mk.injEq] at h
    obtain⟨rfl,rfl⟩:=h
    obtain⟨a1,a2,a3⟩:=listB_inv prtP_inv (xs:=p.1) (r:=p.2) hp
    obtain⟨c1,c2,c3⟩:=listB_inv chnP_inv (xs:=q.1) (r:=q.2) hq
    obtain⟨d1,d2,d3⟩:=listB_inv sltP_inv (xs:=t.1) (r:=t.2) ht
    refine⟨?_,a2,c2,d2,a3,c3,d3⟩
    unfold imgL
    rw[a1,c1,d1]
    simp only[List.append_assoc]
def SysR(s:Sys):Prop:=∀p,p∈s.parts→(∀i,i∈p.code→I64 i.n)∧∀n,n∈p.inp→I64 n
theorem firstCode_zeroI:∀{l:List Prt},firstCode l=0→∀p,p∈l→chkCode p.code=0
 |[],_,_,h=>by cases h
 |q::r,h0,p,h=>by
  unfold firstCode at h0
  by_cases hq:chkCode q.code=0
  ·rw[if_pos hq] at h0
   rcases List.mem_cons.1 h with rfl|h
   ·exact hq
   ·exact firstCode_zeroI h0 p h
  ·rw[if_neg hq] at h0
   exact absurd h0 hq
theorem chkIns_sm{i:Ins}(h:chkIns i=0):Sm i.op∧Sm i.a∧Sm i.b:=by
 obtain⟨op,a,b,n⟩:=i
 unfold chkIns at h
 dsimp only at h⊢
 by_cases h1:1≤op∧op≤15
 ·refine⟨⟨by omega,by omega⟩,?_⟩
  have hop:op=1∨op=2∨op=3∨op=4∨op=5∨op=6∨op=7∨op=8∨op=9∨op=10∨op=11∨op=12∨op=13∨op=14∨op=15:=by omega
  unfold Sm
  rcases hop with rfl|rfl|rfl|rfl|rfl|rfl|rfl|rfl|rfl|rfl|rfl|rfl|rfl|rfl|rfl<;>
  ·simp[chkI,hasA,hasB,hasN,regOk] at h
   omega
 ·exfalso
  unfold chkI at h
  rw[if_pos Om] at h
  cases h
theorem chk_sysK{s:Sys}(h:chkSys s=0)(hr:SysR s):SysK s:=by
 obtain⟨h1,h2,h3,h4,h5,h6⟩:=chkSys_zero h
 simp only[sizesOk,Bool.and_eq_true] at h1
 obtain⟨k1,k2⟩:=h1
 have k1:=of_decide_eq_true k1
 have hcode:=fun p hp=>chkCode_all (firstCode_zeroI h2 p hp)
 refine⟨by omega,by omega,by omega,fun p hp=>⟨⟨by have:=(hcode p hp).1;omega,by have:=of_decide_eq_true (List.all_eq_true.1 k2 p hp);omega⟩,fun i hi=>?_,(hr p hp).2⟩,fun c hc=>?_,fun t ht=>?_⟩
 ·obtain⟨m1,m2,m3⟩:=chkIns_sm ((hcode p hp).2 i hi)
  exact⟨m1,m2,m3,(hr p hp).1 i hi⟩
 ·have m1:=List.all_eq_true.1 h3 c hc
  have m2:=List.all_eq_true.1 h4 c hc
  simp only[kindOk,chnOk,partOk,Bool.or_eq_true,Bool.and_eq_true,decide_eq_true_eq,beq_iff_eq] at m1 m2
  exact⟨⟨by omega,by omega⟩,⟨by omega,by omega⟩,⟨by omega,by omega⟩⟩
 ·have m2:=List.all_eq_true.1 h5 t ht
  simp only[sltOk,partOk,Bool.and_eq_true,decide_eq_true_eq] at m2
  exact⟨⟨by omega,by omega⟩,⟨by omega,by omega⟩⟩
theorem read_img{s:Sys}(h:chkSys s=0)(hr:SysR s):readL (imgL s)=some s:=by
 have:=sysP_enc (chk_sysK h hr) []
 rw[List.append_nil] at this
 unfold readL
 rw[this,Option.bind_some,if_pos ⟨rfl,h⟩]
theorem img_read{s:Sys}{l:List UInt8}(h:readL l=some s):imgL s=l∧chkSys s=0∧SysR s:=by
 unfold readL at h
 cases hq:sysP l with
 |none=>rw[hq] at h;cases h
 |some q=>
  rw[hq,Option.bind_some] at h
  split at h
  ·rename_i hc
   cases h
   obtain⟨k1,k2⟩:=sysP_inv (s:=q.1) (r:=q.2) hq
   rw[hc.1,List.append_nil] at k1
   exact⟨k1.symm,hc.2,fun p hp=>⟨fun i hi=>((k2.part p hp).2.1 i hi).2.2.2,(k2.part p hp).2.2⟩⟩
  ·cases h
def insE(l:List UInt8):Ins×List UInt8:=(⟨b0 l 0,b0 (l.drop 1) 0,b0 ((l.drop 1).drop 1) 0,(eyeN 8 (((l.drop 1).drop 1).drop 1)).1⟩,(eyeN 8 (((l.drop 1).drop 1).drop 1)).2)
def chnE(l:List UInt8):Chn×List UInt8:=(⟨b0 l 0,b0 (l.drop 1) 0,b0 ((l.drop 1).drop 1) 0⟩,((l.drop 1).drop 1).drop 1)
def sltE(l:List UInt8):Slt×List UInt8:=(⟨b0 l 0,b0 (l.drop 1) 0⟩,(l.drop 1).drop 1)
def prtE(l:List UInt8):Prt×List UInt8:=(⟨(listE insE l).1,(listE (eyeN 8) (listE insE l).2).1⟩,(listE (eyeN 8) (listE insE l).2).2)
def sysE(l:List UInt8):Sys:=⟨(listE prtE l).1,(listE chnE (listE prtE l).2).1,(listE sltE (listE chnE (listE prtE l).2).2).1⟩
def fromL(l:List UInt8):Option Sys:=if chkSys (sysE l)=0∧imgL (sysE l)=l then some (sysE l) else none
theorem b0_drop(l:List UInt8)(k:Nat):b0 (l.drop k) 0=b0 l k:=by simp[b0,List.getD,List.getElem?_drop]
theorem insE_of(l:List UInt8)(x:Ins×List UInt8)(h:insP l=some x):insE l=x:=by
 unfold insP at h
 split at h
 ·cases h
 ·unfold insE
  simp only[List.drop_drop,b0_drop]
  cases hq:numOf 8 (l.drop 3) with
  |none=>rw[hq] at h;cases h
  |some q=>
   rw[hq,Option.map_some] at h
   rw[eyeN_of hq]
   exact Option.some.inj h
theorem chnE_of(l:List UInt8)(x:Chn×List UInt8)(h:chnP l=some x):chnE l=x:=by
 unfold chnP at h
 split at h
 ·cases h
 ·unfold chnE
  simp only[List.drop_drop,b0_drop]
  exact Option.some.inj h
theorem sltE_of(l:List UInt8)(x:Slt×List UInt8)(h:sltP l=some x):sltE l=x:=by
 unfold sltP at h
 split at h
 ·cases h
 ·unfold sltE
  simp only[List.drop_drop,b0_drop]
  exact Option.some.inj h
theorem prtE_of(l:List UInt8)(x:Prt×List UInt8)(h:prtP l=some x):prtE l=x:=by
 unfold prtP at h
 cases hp:listB insP l with
 |none=>rw[hp] at h;cases h
 |some q=>
  rw[hp,Option.bind_some] at h
  cases hq:listB (numOf 8) q.2 with
  |none=>rw[hq] at h;cases h
  |some t=>
   rw[hq,Option.map_some] at h
   unfold prtE
   rw[listE_of insE_of hp,listE_of (fun _ _ h=>eyeN_of h) hq]
   exact Option.some.inj h
theorem sysE_of{l:List UInt8}{x:Sys×List UInt8}(h:sysP l=some x):sysE l=x.1:=by
 unfold sysP at h
 cases hp:listB prtP l with
 |none=>rw[hp] at h;cases h
 |some p=>
  rw[hp,Option.bind_some] at h
  cases hq:listB chnP p.2 with
  |none=>rw[hq] at h;cases h
  |some q=>
   rw[hq,Option.bind_some] at h
   cases ht:listB sltP q.2 with
   |none=>rw[ht] at h;cases h
   |some t=>
    rw[ht,Option.map_some] at h
    unfold sysE
    rw[listE_of prtE_of hp,listE_of chnE_of hq,listE_of sltE_of ht]
    rw[←Option.some.inj h]
theorem sysE_R(l:List UInt8):SysR (sysE l):=fun p hp=>by
 refine manyE_ok (ok:=fun p:Prt=>(∀i,i∈p.code→I64 i.n)∧∀n,n∈p.inp→I64 n) (fun m=>⟨fun i hi=>?_,fun n hn=>?_⟩) _ _ p hp
 ·exact manyE_ok (ok:=fun i:Ins=>I64 i.n) (fun k=>foldB_I64 _) _ _ i hi
 ·exact manyE_ok (ok:=I64) (fun k=>foldB_I64 _) _ _ n hn
theorem from_read(l:List UInt8):fromL l=readL l:=by
 cases h:readL l with
 |some s=>
  obtain⟨h1,h2,h3⟩:=img_read h
  unfold readL at h
  cases hq:sysP l with
  |none=>rw[hq] at h;cases h
  |some q=>
   rw[hq,Option.bind_some] at h
   split at h
   ·cases h
    unfold fromL
    rw[sysE_of hq,if_pos ⟨h2,h1⟩]
   ·cases h
 |none=>
  unfold fromL
  split
  ·rename_i hc
   have:=read_img hc.1 (sysE_R l)
   rw[hc.2,h] at this
   cases this
  ·rfl
theorem rowsB_len{α:Type}{f:α→List UInt8}{n:Nat}:∀(l:List α),(∀x,x∈l→(f x).length≤n)→(l.flatMap f).length≤l.length*n
 |[],_=>by simp
 |x::r,h=>by
  have h1:=h x List.mem_cons_self
  have h2:=rowsB_len r fun y hy=>h y (List.mem_cons_of_mem _ hy)
  rw[List.flatMap_cons,List.length_append,List.length_cons,Nat.succ_mul]
  omega
theorem insB_len(i:Ins):(insB i).length=11:=by unfold insB;rw[List.length_append,num8_len];rfl
theorem prtB_len{p:Prt}(h1:p.code.length≤20)(h2:p.inp.length≤12):(prtB p).length≤318:=by
 unfold prtB encB8
 have a1:=rowsB_len (f:=insB) (n:=11) p.code fun x _=>Nat.le_of_eq (insB_len x)
 have a2:=rowsB_len (f:=num8) (n:=8) p.inp fun x _=>Nat.le_of_eq (num8_len x)
 simp only[List.length_append,List.length_cons]
 omega
theorem takeB_flat{α:Type}(d:α)(f:α→List UInt8){l:List α}{k:Nat}(hk:k<l.length):(l.take (k+1)).flatMap f=(l.take k).flatMap f++f (l.getD k d):=by
 rw[List.take_add_one,List.getElem?_eq_getElem hk,List.flatMap_append]
 congr 1
 simp[List.getD,hk]
theorem takeB_getD{l:List Int}{k:Nat}(hk:k<l.length):l.take (k+1)=l.take k++[l.getD k 0]:=by
 rw[List.take_add_one,List.getElem?_eq_getElem hk]
 simp[List.getD,hk]
def imgOr(s:Sys):List UInt8:=if chkSys s=0 then imgL s else []
end
end Go.Proofs.YtndcjmopebcdgaaGreatDoor
