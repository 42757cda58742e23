/- Numbers as bytes, and back. Plain law: no program is named. -/
import Derived.Laws.BytesString
set_option linter.unusedSimpArgs false
set_option linter.unusedVariables false
namespace Go.Proofs.YtndcjmopebcdgaaGreatDoor
set_option maxRecDepth 100000
def byt(n:Int):UInt8:=UInt8.ofNat (n%256).toNat
theorem byt_val(n:Int):((byt n).toNat:Int)=n%256:=by
 unfold byt
 have h0:=Int.emod_nonneg n (by decide:(256:Int)≠0)
 have h1:=Int.emod_lt_of_pos n (by decide:(0:Int)<256)
 rw[UInt8.toNat_ofNat',Nat.mod_eq_of_lt (by omega)]
 omega
theorem byt_small{n:Int}(h0:0≤n)(h1:n≤255):((byt n).toNat:Int)=n:=by rw[byt_val];omega
theorem byt_eq{n:Int}{b:UInt8}(h:n%256=b.toNat):byt n=b:=by
 apply UInt8.toNat_inj.1
 have:=byt_val n
 omega
theorem byt_of(b:UInt8):byt (b.toNat:Int)=b:=byt_eq (by have:=b.toNat_lt;omega)
def I64(n:Int):Prop:= -9223372036854775808≤n∧n≤9223372036854775807
theorem wrap64(n:Int):IntKind.i64.wrap n=if n%18446744073709551616≥9223372036854775808 then n%18446744073709551616 - 18446744073709551616 else n%18446744073709551616:=by
 unfold IntKind.wrap
 show(if(true&&decide (n%18446744073709551616≥9223372036854775808))=true then n%18446744073709551616 - 18446744073709551616 else n%18446744073709551616)=_
 simp only[Bool.true_and,decide_eq_true_eq]
theorem wrap_I64(n:Int):I64 (IntKind.i64.wrap n):=by
 rw[wrap64]
 unfold I64
 split<;>omega
theorem wrap_of{n:Int}(h:I64 n):IntKind.i64.wrap n=n:=by
 rw[wrap64]
 unfold I64 at h
 split<;>omega
theorem wrap_mod(n:Int):IntKind.i64.wrap n%18446744073709551616=n%18446744073709551616:=by
 rw[wrap64]
 split<;>omega
theorem wrap_congr{a b:Int}(h:a%18446744073709551616=b%18446744073709551616):IntKind.i64.wrap a=IntKind.i64.wrap b:=by
 rw[wrap64,wrap64,h]
def step8(n:Int)(b:UInt8):Int:=IntKind.i64.wrap (n*256+b.toNat)
theorem step8_or(n:Int)(b:UInt8):bits .or .i64 (IntKind.i64.wrap (n*2 ^ 8)) (b.toNat:Int)=step8 n b:=by
 have hb:=b.toNat_lt
 have h1:(BitVec.ofInt 64 (IntKind.i64.wrap (n*2 ^ 8))).toNat=2 ^ 8*(n%72057594037927936).toNat:=by
  rw[BitVec.toNat_ofInt]
  have:=wrap_mod (n*2 ^ 8)
  show(IntKind.i64.wrap (n*2 ^ 8)%(18446744073709551616:Int)).toNat=_
  rw[this]
  omega
 have h2:(BitVec.ofInt 64 (b.toNat:Int)).toNat=b.toNat:=by
  rw[BitVec.toNat_ofInt]
  show((b.toNat:Int)%(18446744073709551616:Int)).toNat=_
  omega
 show IntKind.i64.wrap ((BitVec.ofInt 64 (IntKind.i64.wrap (n*2 ^ 8))|||BitVec.ofInt 64 (b.toNat:Int)).toNat:Int)=_
 rw[BitVec.toNat_or,h1,h2,←Nat.two_pow_add_eq_or_of_lt (by omega)]
 unfold step8
 exact wrap_congr (by omega)
def foldB(l:List UInt8):Int:=l.foldl step8 0
theorem foldB_one(b:UInt8):foldB [b]=b.toNat:=by
 have hb:=b.toNat_lt
 show IntKind.i64.wrap (0*256+(b.toNat:Int))=_
 rw[wrap_of ⟨by omega,by omega⟩]
 omega
theorem foldl_I64:∀(l:List UInt8) (n:Int),I64 n→I64 (l.foldl step8 n)
 |[],_,h=>h
 |_::r,_,_=>foldl_I64 r _ (wrap_I64 _)
theorem foldB_I64(l:List UInt8):I64 (foldB l):=foldl_I64 l 0 ⟨by decide,by decide⟩
theorem foldB_add(l:List UInt8)(b:UInt8):foldB (l++[b])=step8 (foldB l) b:=by simp[foldB,List.foldl_append]
def num8(n:Int):List UInt8:=(List.range 8).map fun k=>byt (n/2 ^(56 - 8*k))
theorem num8_eq(n:Int):num8 n=[byt (n/72057594037927936),byt (n/281474976710656),byt (n/1099511627776),byt (n/4294967296),byt (n/16777216),byt (n/65536),byt (n/256),byt n]:=by
 have h:num8 n=[byt (n/72057594037927936),byt (n/281474976710656),byt (n/1099511627776),byt (n/4294967296),byt (n/16777216),byt (n/65536),byt (n/256),byt (n/1)]:=rfl
 rw[h,Int.ediv_one]
theorem num8_len(n:Int):(num8 n).length=8:=by simp[num8]
theorem num8_take(n:Int){k:Nat}(hk:k<8):(num8 n).take (k+1)=(num8 n).take k++[byt (n/2 ^(56 - 8*k))]:=by
 rw[List.take_add_one,List.getElem?_eq_getElem (by rw[num8_len];exact hk)]
 simp[num8]
theorem step8_wrap(n:Int)(b:UInt8):step8 (IntKind.i64.wrap n) b=IntKind.i64.wrap (n*256+b.toNat):=by
 have:=wrap_mod n
 exact wrap_congr (by omega)
theorem foldB_eight(a b c d e f g h:UInt8):foldB [a,b,c,d,e,f,g,h]=IntKind.i64.wrap (((((((a.toNat*256+b.toNat)*256+c.toNat)*256+d.toNat)*256+e.toNat)*256+f.toNat)*256+g.toNat)*256+h.toNat:Int):=by
 simp only[foldB,List.foldl_cons,List.foldl_nil]
 have h0:step8 0 a=IntKind.i64.wrap (a.toNat:Int):=by unfold step8;congr 1;omega
 rw[h0,step8_wrap,step8_wrap,step8_wrap,step8_wrap,step8_wrap,step8_wrap,step8_wrap]
theorem foldB_num8{n:Int}(hn:I64 n):foldB (num8 n)=n:=by
 rw[num8_eq,foldB_eight]
 simp only[byt_val]
 rw[←wrap_of hn]
 refine wrap_congr ?_
 rw[wrap_of hn]
 omega
theorem num8_foldB:∀{l:List UInt8},l.length=8→num8 (foldB l)=l
 |[a,b,c,d,e,f,g,h],_=>by
  rw[foldB_eight,num8_eq]
  have ha:=a.toNat_lt
  have hb:=b.toNat_lt
  have hc:=c.toNat_lt
  have hd:=d.toNat_lt
  have he:=e.toNat_lt
  have hf:=f.toNat_lt
  have hg:=g.toNat_lt
  have hh:=h.toNat_lt
  have hw:=wrap64 (((((((a.toNat*256+b.toNat)*256+c.toNat)*256+d.toNat)*256+e.toNat)*256+f.toNat)*256+g.toNat)*256+h.toNat:Int)
  generalize IntKind.i64.wrap (((((((a.toNat*256+b.toNat)*256+c.toNat)*256+d.toNat)*256+e.toNat)*256+f.toNat)*256+g.toNat)*256+h.toNat:Int)=W at hw⊢
  have e1:((((((((a.toNat*256+b.toNat)*256+c.toNat)*256+d.toNat)*256+e.toNat)*256+f.toNat)*256+g.toNat)*256+h.toNat:Int))%18446744073709551616=(((((((a.toNat*256+b.toNat)*256+c.toNat)*256+d.toNat)*256+e.toNat)*256+f.toNat)*256+g.toNat)*256+h.toNat:Int):=by omega
  rw[e1] at hw
  split at hw
  all_goals
   subst hw
   rw[byt_eq (b:=a) (by omega),byt_eq (b:=b) (by omega),byt_eq (b:=c) (by omega),byt_eq (b:=d) (by omega),byt_eq (b:=e) (by omega),byt_eq (b:=f) (by omega),byt_eq (b:=g) (by omega),byt_eq (b:=h) (by omega)]
def numOf(size:Nat)(l:List UInt8):Option (Int×List UInt8):=if l.length<size then none else some (foldB (l.take size),l.drop size)
def manyB{α:Type}(one:List UInt8→Option (α×List UInt8)):Nat→List UInt8→Option (List α×List UInt8)
 |0,l=>some ([],l)
 |n+1,l=>(one l).bind fun q=>(manyB one n q.2).map fun p=>(q.1::p.1,p.2)
def listB{α:Type}(one:List UInt8→Option (α×List UInt8))(l:List UInt8):Option (List α×List UInt8):=(numOf 1 l).bind fun q=>manyB one q.1.toNat q.2
theorem numOf_one(b:UInt8)(r:List UInt8):numOf 1 (b::r)=some ((b.toNat:Int),r):=by
 unfold numOf
 rw[if_neg (by simp)]
 show some (foldB [b],r)=_
 rw[foldB_one]
theorem numOf_one_inv{l r:List UInt8}{n:Int}(h:numOf 1 l=some (n,r)):l=byt n::r∧0≤n∧n≤255:=by
 cases l with
 |nil=>cases h
 |cons b t=>
  rw[numOf_one] at h
  simp only[Option.some.injEq,Prod.mk.injEq] at h
  obtain⟨rfl,rfl⟩:=h
  have:=b.toNat_lt
  exact⟨by rw[byt_of],by omega,by omega⟩
theorem numOf_byt{n:Int}(h0:0≤n)(h1:n≤255)(r:List UInt8):numOf 1 (byt n::r)=some (n,r):=by rw[numOf_one,byt_small h0 h1]
theorem numOf_num8{n:Int}(hn:I64 n)(r:List UInt8):numOf 8 (num8 n++r)=some (n,r):=by
 unfold numOf
 rw[if_neg (by simp[num8_len]),List.take_left' (num8_len n),List.drop_left' (num8_len n),foldB_num8 hn]
theorem numOf_eight_inv{l r:List UInt8}{n:Int}(h:numOf 8 l=some (n,r)):l=num8 n++r∧I64 n:=by
 unfold numOf at h
 split at h
 ·cases h
 ·simp only[Option.some.injEq,Prod.mk.injEq] at h
  obtain⟨rfl,rfl⟩:=h
  exact⟨by rw[num8_foldB (by rw[List.length_take];omega),List.take_append_drop],foldB_I64 _⟩
section
variable {α:Type} {one:List UInt8→Option (α×List UInt8)} {enc:α→List UInt8} {ok:α→Prop}
theorem manyB_enc(h1:∀a r,ok a→one (enc a++r)=some (a,r)):∀(l:List α) (r:List UInt8),(∀a,a∈l→ok a)→manyB one l.length (l.flatMap enc++r)=some (l,r)
 |[],r,_=>rfl
 |a::l,r,h=>by
  rw[List.length_cons,manyB,List.flatMap_cons,List.append_assoc,h1 a _ (h a List.mem_cons_self)]
  simp only[Option.bind_some]
  rw[manyB_enc h1 l r fun b hb=>h b (List.mem_cons_of_mem _ hb)]
  rfl
theorem manyB_inv(h1:∀l a r,one l=some (a,r)→l=enc a++r∧ok a):∀(n:Nat) (l:List UInt8) (xs:List α) (r:List UInt8),manyB one n l=some (xs,r)→l=xs.flatMap enc++r∧xs.length=n∧∀a,a∈xs→ok a
 |0,l,xs,r,h=>by
  cases h
  exact⟨rfl,rfl,fun a ha=>by cases ha⟩
 |n+1,l,xs,r,h=>by
  rw[manyB] at h
  cases hq:one l with
  |none=>rw[hq] at h;cases h
  |some q=>
   rw[hq] at h
   simp only[Option.bind_some] at h
   cases hp:manyB one n q.2 with
   |none=>rw[hp] at h;cases h
   |some p=>
    rw[hp] at h
    simp only[Option.map_some,Option.some.injEq,Prod.mk.injEq] at h
    obtain⟨rfl,rfl⟩:=h
    obtain⟨k1,k2⟩:=h1 l q.1 q.2 hq
    obtain⟨k3,k4,k5⟩:=manyB_inv h1 n q.2 p.1 p.2 hp
    refine⟨by rw[List.flatMap_cons,List.append_assoc,←k3];exact k1,by simp[k4],fun b hb=>?_⟩
    rcases List.mem_cons.1 hb with rfl|hb
    ·exact k2
    ·exact k5 b hb
def encB8(enc:α→List UInt8)(l:List α):List UInt8:=byt (l.length:Int)::l.flatMap enc
theorem listB_enc(h1:∀a r,ok a→one (enc a++r)=some (a,r)){l:List α}(hl:l.length≤255)(hok:∀a,a∈l→ok a)(r:List UInt8):listB one (encB8 enc l++r)=some (l,r):=by
 unfold listB encB8
 rw[List.cons_append,numOf_byt (by omega) (by omega),Option.bind_some]
 exact manyB_enc h1 l r hok
theorem listB_inv(h1:∀l a r,one l=some (a,r)→l=enc a++r∧ok a){l:List UInt8}{xs:List α}{r:List UInt8}(h:listB one l=some (xs,r)):l=encB8 enc xs++r∧xs.length≤255∧∀a,a∈xs→ok a:=by
 unfold listB at h
 cases hq:numOf 1 l with
 |none=>rw[hq] at h;cases h
 |some q=>
  rw[hq,Option.bind_some] at h
  obtain⟨k1,k2,k3⟩:=numOf_one_inv (n:=q.1) (r:=q.2) hq
  obtain⟨k4,k5,k6⟩:=manyB_inv h1 _ _ _ _ h
  refine⟨?_,by omega,k6⟩
  unfold encB8
  rw[k5,Int.toNat_of_nonneg k2,List.cons_append,←k4]
  exact k1
theorem manyB_none{n:Nat}{F:List UInt8}(h:one F=none)(hn:0<n):manyB one n F=none:=by
 cases n with
 |zero=>omega
 |succ n=>rw[manyB,h];rfl
theorem manyB_step{n:Nat}{F r:List UInt8}{c:α}{L:List α}(h:one F=some (c,r))(hn:0<n):((manyB one n F).map fun p=>(L++p.1,p.2))=(manyB one (n - 1) r).map fun p=>((L++[c])++p.1,p.2):=by
 cases n with
 |zero=>omega
 |succ n=>
  rw[manyB,h,Nat.add_sub_cancel]
  simp only[Option.bind_some,Option.map_map]
  congr 1
  funext p
  simp
theorem numOf_one_at{l:List UInt8}{x:Int×List UInt8}(h:numOf 1 l=some x):x=(((l.getD 0 0).toNat:Int),l.drop 1):=by
 cases l with
 |nil=>cases h
 |cons b r=>
  rw[numOf_one] at h
  exact(Option.some.inj h).symm
variable {oneE:List UInt8→α×List UInt8}
end
end Go.Proofs.YtndcjmopebcdgaaGreatDoor
