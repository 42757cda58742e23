/- Rules as text: what a text says. -/
import Derived.Test.YtndcjmopebcdgaaGreatDoorSkF
import Derived.Test.YtndcjmopebcdgaaGreatDoorCertC
set_option linter.unusedSimpArgs false
set_option linter.unusedVariables false
namespace Go.Proofs.YtndcjmopebcdgaaGreatDoor
open Go.ChangeShapes Go.WideShapes Go.ChangeAt Go.RowKit
set_option maxRecDepth 100000
def edgT(e:Edg):List UInt8:=Lib.itoa e.from_++62::Lib.itoa e.to_
def polT(P:List Edg):List UInt8:=Lib.join (P.map edgT) [32]
def EdIn(e:Edg):Prop:=(0≤e.from_∧e.from_<4)∧0≤e.to_∧e.to_<4
theorem EdIn.in64{e:Edg}(h:EdIn e):In64 e.from_∧In64 e.to_:=by
 obtain⟨⟨h1,h2⟩,h3,h4⟩:=h
 exact⟨⟨by omega,by omega⟩,⟨by omega,by omega⟩⟩
def Incr(P:List Edg):Prop:=∀k,0<k→k<P.length→orderI (P.getD (k - 1) E0) (P.getD k E0)<0
structure RSays(s:List UInt8)(P:List Edg):Prop where
 each:∀e,e∈P→EdIn e
 incr:Incr P
 txt:polT P=s
theorem itoa_no62(n:Int):(62:UInt8)∉Lib.itoa n:=by
 intro h
 rcases itoa_chars h with h|h
 ·cases h
 ·exact absurd h.2 Dc
theorem edgT_no(e:Edg):(32:UInt8)∉edgT e:=by
 intro h
 rcases List.mem_append.1 h with h|h
 ·exact itoa_no _ h
 ·rcases List.mem_cons.1 h with h|h
  ·cases h
  ·exact itoa_no _ h
theorem edgT_inj{d e:Edg}(hd:EdIn d)(he:EdIn e)(h:edgT d=edgT e):d=e:=by
 have h1:=splitC_app (c:=62) (p:=Lib.itoa d.from_) (Lib.itoa d.to_) (itoa_no62 _)
 have h2:=splitC_app (c:=62) (p:=Lib.itoa e.from_) (Lib.itoa e.to_) (itoa_no62 _)
 rw[show Lib.itoa d.from_++62::Lib.itoa d.to_=Lib.itoa e.from_++62::Lib.itoa e.to_ from h,h2] at h1
 injection h1 with h3 h4
 rw[splitC_none (itoa_no62 _),splitC_none (itoa_no62 _)] at h4
 injection h4 with h4 _
 have e1:=itoa_inj he.in64.1 hd.in64.1 h3
 have e2:=itoa_inj he.in64.2 hd.in64.2 h4
 obtain⟨a,b⟩:=d
 obtain⟨a',b'⟩:=e
 dsimp only at e1 e2
 rw[e1,e2]
theorem split_pol{P:List Edg}(h:P≠[]):splitC 32 (polT P)=P.map edgT:=by
 cases P with
 |nil=>exact absurd rfl h
 |cons e r=>
  unfold polT
  rw[List.map_cons,Lib.join_cons]
  exact splitC_join _ _ (edgT_no e) fun x hx=>by
   obtain⟨f,-,rfl⟩:=List.mem_map.1 hx
   exact edgT_no f
theorem join_split(c:UInt8):∀l:List UInt8,Lib.join (splitC c l) [c]=l
 |[]=>by simp[splitC,Lib.join_cons,Lib.joinTail]
 |b::l=>by
  have ih:=join_split c l
  unfold splitC
  split
  ·rename_i hb
   cases hs:splitC c l with
   |nil=>exact absurd hs (splitC_ne c l)
   |cons p r=>
    rw[hs,Lib.join_cons] at ih
    rw[Lib.join_cons,←ih,hb]
    simp[Lib.joinTail]
  ·split
   ·rename_i hs
    exact absurd hs (splitC_ne c l)
   ·rename_i p r hs
    rw[hs,Lib.join_cons] at ih
    rw[Lib.join_cons,List.cons_append,ih]
theorem edgT_ne(e:Edg):edgT e≠[]:=by
 unfold edgT
 simp
theorem polT_ne{P:List Edg}(h:P≠[]):polT P≠[]:=fun h2=>by
 have:=split_pol h
 rw[h2] at this
 cases P with
 |nil=>exact h rfl
 |cons e r=>
  rw[List.map_cons] at this
  injection this with h3 _
  exact edgT_ne e h3.symm
theorem rsays_nil:RSays [] []:=⟨fun _ h=>(by cases h),fun k _ h=>(by simp at h),rfl⟩
theorem RSays.ne{s:List UInt8}{P:List Edg}(h:RSays s P)(hs:s≠[]):P≠[]:=fun e=>by
 subst e
 exact hs h.txt.symm
theorem RSays.split{s:List UInt8}{P:List Edg}(h:RSays s P)(hs:s≠[]):splitC 32 s=P.map edgT:=by
 rw[←h.txt,split_pol (h.ne hs)]
theorem map_edgT_inj:∀{P Q:List Edg},(∀e,e∈P→EdIn e)→(∀e,e∈Q→EdIn e)→P.map edgT=Q.map edgT→P=Q
 |[],[],_,_,_=>rfl
 |[],_::_,_,_,h=>by cases h
 |_::_,[],_,_,h=>by cases h
 |a::P,b::Q,hP,hQ,h=>by
  rw[List.map_cons,List.map_cons] at h
  injection h with h1 h2
  rw[edgT_inj (hP a List.mem_cons_self) (hQ b List.mem_cons_self) h1,map_edgT_inj (fun e he=>hP e (List.mem_cons_of_mem _ he)) (fun e he=>hQ e (List.mem_cons_of_mem _ he)) h2]
theorem RSays.unique{s:List UInt8}{P Q:List Edg}(h:RSays s P)(k:RSays s Q):P=Q:=by
 by_cases hs:s=[]
 ·subst hs
  have e1:P=[]:=Classical.byContradiction fun hn=>polT_ne hn h.txt
  have e2:Q=[]:=Classical.byContradiction fun hn=>polT_ne hn k.txt
  rw[e1,e2]
 ·exact map_edgT_inj h.each k.each ((h.split hs).symm.trans (k.split hs))
structure Pre(s:List UInt8)(P:List Edg)(k:Nat):Prop where
 len:P.length=k
 le:k≤(splitC 32 s).length
 txt:(splitC 32 s).take k=P.map edgT
 each:∀e,e∈P→EdIn e
 incr:Incr P
theorem pre_0(s:List UInt8):Pre s [] 0:=⟨rfl,Nat.zero_le _,rfl,fun _ h=>(by cases h),fun k _ h=>(by simp at h)⟩
theorem snoc_getD{P:List Edg}{e:Edg}{i:Nat}(hi:i<P.length+1):(P++[e]).getD i E0=if i=P.length then e else P.getD i E0:=by
 by_cases h:i=P.length
 ·subst h
  rw[if_pos rfl]
  simp[List.getD]
 ·rw[if_neg h]
  simp only[List.getD,List.getElem?_append_left (show i<P.length by omega)]
theorem Pre.snoc{s:List UInt8}{P:List Edg}{k:Nat}{e:Edg}(h:Pre s P k)(hk:k<(splitC 32 s).length)(ht:edgT e=(splitC 32 s).getD k [])(he:EdIn e)(ho:0<k→orderI (P.getD (k - 1) E0) e<0):Pre s (P++[e]) (k+1):=by
 have hl:=h.len
 refine⟨by simp[hl],hk,?_,fun d hd=>(List.mem_append.1 hd).elim (h.each d) fun h2=>by rw[List.mem_singleton.1 h2];exact he,fun i h0 hi=>?_⟩
 ·rw[List.take_succ_eq_append_getElem hk,h.txt,List.map_append,List.map_cons,List.map_nil,ht,List.getD,List.getElem?_eq_getElem hk]
  rfl
 ·rw[List.length_append,List.length_cons,List.length_nil] at hi
  rw[snoc_getD Om,snoc_getD Om,if_neg (show¬i - 1=P.length by omega)]
  by_cases e1:i=P.length
  ·rw[if_pos e1]
   subst e1
   rw[hl] at h0⊢
   exact ho h0
  ·rw[if_neg e1]
   exact h.incr i h0 Om
theorem Pre.done{s:List UInt8}{P:List Edg}{k:Nat}(h:Pre s P k)(hk:¬k<(splitC 32 s).length):RSays s P:=by
 have ht:=h.txt
 rw[List.take_of_length_le Om] at ht
 refine⟨h.each,h.incr,?_⟩
 unfold polT
 rw[←ht]
 exact join_split 32 s
theorem Pre.next{s:List UInt8}{P Q:List Edg}{k:Nat}(h:Pre s P k)(hs:s≠[])(hk:k<(splitC 32 s).length)(hQ:RSays s Q):∃e,edgT e=(splitC 32 s).getD k []∧EdIn e∧(0<k→orderI (P.getD (k - 1) E0) e<0):=by
 have hsp:=hQ.split hs
 have hkQ:k<Q.length:=by rw[hsp,List.length_map] at hk;exact hk
 have hmem:=mem_getD E0 hkQ
 have hPQ:P=Q.take k:=map_edgT_inj h.each (fun e he=>hQ.each e (List.mem_of_mem_take he)) (by rw[←h.txt,hsp,List.map_take])
 refine⟨Q.getD k E0,?_,hQ.each _ hmem,fun h0=>?_⟩
 ·rw[hsp,List.getD,List.getD,List.getElem?_map,List.getElem?_eq_getElem hkQ]
  rfl
 ·have:=hQ.incr k h0 hkQ
  rw[hPQ]
  rwa [show(Q.take k).getD (k - 1) E0=Q.getD (k - 1) E0 by simp only[List.getD,List.getElem?_take,if_pos (show k - 1<k by omega)]]
theorem edge_code{e:Edg}(h:EdIn e):0≤4*e.from_+e.to_∧4*e.from_+e.to_<16:=by
 obtain⟨⟨h1,h2⟩,h3,h4⟩:=h
 omega
theorem incr_code{P:List Edg}(he:∀e,e∈P→EdIn e)(hi:Incr P):∀k,k<P.length→(k:Int)≤4*(P.getD k E0).from_+(P.getD k E0).to_
 |0,h=>(edge_code (he _ (mem_getD E0 h))).1
 |k+1,h=>by
  have ih:=incr_code he hi k Om
  have h1:=(order_lt _ _).1 (hi (k+1) Om h)
  have h2:=he _ (mem_getD E0 h)
  have h3:=he _ (mem_getD E0 (show k<P.length by omega))
  rw[show k+1 - 1=k by omega] at h1
  obtain⟨⟨a1,a2⟩,a3,a4⟩:=h2
  obtain⟨⟨b1,b2⟩,b3,b4⟩:=h3
  omega
theorem pol_small{P:List Edg}(he:∀e,e∈P→EdIn e)(hi:Incr P):P.length≤16:=by
 rcases Nat.lt_or_ge 16 P.length with h|h
 ·have h1:=incr_code he hi (P.length - 1) Om
  have h2:=edge_code (he _ (mem_getD E0 (show P.length - 1<P.length by omega)))
  omega
 ·exact h
structure CutAt(c:UInt8)(l a b:List UInt8)(is:Bool):Prop where
 yes:is=true→l=a++c::b∧c∉a
 no:is=false→c∉l
 la:a.length≤l.length
 lb:b.length≤l.length
theorem idx_cases(c:UInt8):∀l:List UInt8,(Lib.indexByte l c= -1∧c∉l)∨∃i:Nat,Lib.indexByte l c=i∧i<l.length∧c∉l.take i∧l=l.take i++c::l.drop (i+1)
 |[]=>.inl ⟨rfl,by simp⟩
 |b::l=>by
  unfold Lib.indexByte
  by_cases hb:b=c
  ·subst hb
   exact .inr ⟨0,by simp,by simp,by simp,by simp⟩
  ·rw[if_neg (by simpa using hb)]
   rcases idx_cases c l with⟨h1,h2⟩|⟨i,h1,h2,h3,h4⟩
   ·rw[h1]
    exact .inl ⟨by simp,by simp[h2,Ne.symm hb]⟩
   ·rw[h1]
    refine .inr ⟨i+1,?_,(by rw[List.length_cons];omega),?_,?_⟩
    ·rw[if_neg (by first|(simp;done)|(simp;omega))]
     rfl
    ·rw[List.take_succ_cons]
     simp[h3,Ne.symm hb]
    ·rw[List.take_succ_cons,List.drop_succ_cons,List.cons_append,←h4]
end Go.Proofs.YtndcjmopebcdgaaGreatDoor
